import Derived.Test.YtgaaopjagcaojaaGreatLn
import Derived.Tactics
import Derived.Tactics2
import Derived.Defers
import Derived.Recover
import Derived.Laws.Pointers
set_option linter.unusedSimpArgs false
set_option linter.unusedVariables false
set_option maxHeartbeats 2000000
namespace Go.Proofs.YtgaaopjagcaojaaGreat
open Go.RowKit Go.IntWalk
abbrev pK:=@Go.World.size_setCell
def wh(z:Nat)(O:List (Nat×List Value))(v:Value)(n:Nat)(xs:List Value):Prop:=cG z O v n xs∨(O=[]∧n=0∧xs=[]∧∃b off,v=.slice (some ⟨b,off,none⟩) 0 0)
theorem wh.cast{z:Nat}{O:List (Nat×List Value)}{v:Value}{n n':Nat}{xs xs':List Value}(hx:xs=xs')(hn:n=n')(h:wh z O v n xs):wh z O v n' xs':=by
 subst hx hn;exact h
section
variable{T:Tb}{P:Program}{fin:VS→List aE→Prop}{c:fM}{Γ:List aE}
theorem vF(D:List Nat)(O:List (Nat×List Value))(z bytes n m:Nat)(v x:Value)(xs news:List Value)(hT:T.Ok P)
   (hg:wh z O v n xs)(hx:qP T Γ O x m z news)(h1:∀u∈news,u.oneCell'=true)
  (hn:n+m≤1000000)(hb:bytes≤100000000)
  (hk:∀v' O',wh z O' v' (n+m) (xs++news)→W T P fin (nh (aJ T (bh T D 999 c)) O' v') Γ)(h:pZ T (aJ T (bh T D 999 c))=some (O,z,bytes,v,x):=by kernel_rfl):W T P fin c Γ:=by
 rcases hg with hg|⟨rfl,rfl,rfl,b,off,rfl⟩
 ·refine W.app D O [] O [] z bytes n m v x xs news hT (h:=h) (by simp) hg hx h1 hn hb (fun v' O' hg'=>?_);have:=hk v' O' (.inl hg');rw[aA,af];exact this
 ·refine SZ D [] z bytes m b off x news hT h hx (by omega) hb (fun h0=>?_) (fun g cap cur hp h2 h3 h4 h5=>?_)
  ·subst h0;obtain⟨ao,cc,_,hl,_⟩:=hx;have:news=[]:=aL (by simpa using hl);subst this;exact hk _ _ (.inr ⟨rfl,rfl,rfl,b,off,rfl⟩)
  ·obtain⟨ao,cc,_,hl,_⟩:=hx;refine hk _ _ (.inl ⟨by rw[aA,hl,cz],.inr ⟨g,cap,cur,by rw[cz],rfl,by omega,h3,h4,by rw[aA,cz];exact h5⟩⟩)
theorem UI{z n:Nat}(O:List (Nat×List Value)){v:Value}{xs:List Value}(hg:wh z O v n xs)
  (hk:∀s:Sl,v=bz s→s.n=n→s.n≤s.c→s.c≤maxLen→W T P fin ⟨(dN T 999 c).s.setOwn [],(dN T 999 c).k⟩ (RA s.ao xs::Γ))(ho:(dN T 999 c).s.own=O:=by kernel_rfl)(hm:dG (dN T 999 c).k=false:=by kernel_rfl):W T P fin c Γ:=by
 rcases hg with hg|⟨rfl,rfl,rfl,b,off,rfl⟩
 ·refine m_ [] O [] (by rw[af];exact ho) hg (hm:=hm) (fun ao c' hv h1 h2=>?_);exact hk ⟨ao,n,c'⟩ hv rfl h1 h2
 ·refine W.code 999 ?_;generalize(dN T 999 c)=c1 at*;obtain⟨s,k⟩:=c1;refine W.elim (α:=Unit) (fun _=>True) (fun _=>[RA (some ⟨b,off,none⟩) []]) hm (fun I w _ hh=>⟨(),trivial,aV (RA.nil _ _ _)⟩) (fun _ _=>?_);have:=hk ⟨some ⟨b,off,none⟩,0,0⟩ rfl rfl (ai _) (aM _);have ho:s.own=[]:=ho;rw[show s.setOwn []=s from by rw[←ho];rfl]at this;exact this
theorem qy(O:List (Nat×List Value))(hk:W T P fin ⟨(dN T 999 c).s.setOwn O,(dN T 999 c).k⟩ Γ)(ho:(dN T 999 c).s.own=O++[]:=by kernel_rfl):W T P fin c Γ:=by
 refine W.code 999 ?_;rw[af]at ho;rw[←ho]at hk;exact hk
theorem Jc(s:Sl){l:List Re} [h:aZ (nX s) l Γ](hm:dG c.k=false)(hc:∀es:List dJ,es.map dJ.r=l→s.n=es.length→(0<s.n→∃b off,s.ao=some ⟨b,off,none⟩)→W T P fin c (RA s.ao (es.flatMap dw.cells)::iY (bz s) es::Γ)):W T P fin c Γ:=
 W.elim (α:=List dJ) (fun es=>es.map dJ.r=l∧s.n=es.length∧(0<s.n→∃b off,s.ao=some ⟨b,off,none⟩)) (fun es=>[RA s.ao (es.flatMap dw.cells),iY (bz s) es]) hm (fun I w _ hh=>by
  obtain⟨es,rfl,h2,_,h4,h5⟩:=h.p hh;rw[bL]at h2;refine⟨es,⟨rfl,h2,fun hp=>?_⟩,aG.cons h5 (aV h4)⟩;obtain⟨b,off,ha,_⟩:=h5 (by
   cases es with
   |nil=>simp at h2;omega
   |cons e r=>simp[dw])
  exact⟨b,off,ha⟩) (fun es hq=>hc es hq.1 hq.2.1 hq.2.2)
theorem xA(s:Sl){es:List dJ} [h:aZ (RA s.ao) (es.flatMap dw.cells) Γ](own:List (Nat×List Value))(hn:s.n=es.length)(ha:0<s.n→∃b off,s.ao=some ⟨b,off,none⟩):qP T Γ own (bz s) s.n 3 (es.flatMap dw.cells):=
 G9 s.ao own s.n 3 s.c (by rw[Sd,hn]) ha
theorem EH{k:Int}(hk:k=17∨k=7∨k=4)(I:f_)(w:World):(xR ⟨none,0,0⟩ (iI k)).p I w:=by
 refine⟨?_,⟨Int.le_refl _,(by decide:(0:Int)<256)⟩,qB _ _ _⟩;rcases hk with rfl|rfl|rfl<;>exact⟨by decide,by decide⟩
end
theorem D4(k:Int):∀u∈([.int .u8 k,.int .u8 0,.slice none 0 0]:List Value),u.oneCell'=true:=by
 intro u hu;simp only[aD,aC,bp]at hu;rcases hu with rfl|rfl|rfl<;>rfl
theorem Rj(t:Li){i:Nat}{c:Ce}(h:t.c[i]? =some c):(t.h++(t.c.take i).flatMap gi++gi c).length≤(jr t).length:=by
 obtain⟨h1,h2⟩:=List.getElem?_eq_some_iff.1 h;have e:t.c=t.c.take i++c::t.c.drop (i+1):=by
  rw[←h2,←bI h1,jY]
 have e2:jr t=t.h++((t.c.take i++c::t.c.drop (i+1)).flatMap gi++[iI 4]):=by rw[←e];rfl
 rw[e2];simp only[bA,bj,az];omega
theorem Ns(c:Ce){i:Nat}{x:Im}(h:c.i[i]? =some x):(c.h++(c.i.take i).flatMap eQ++eQ x).length≤(gi c).length:=by
 obtain⟨h1,h2⟩:=List.getElem?_eq_some_iff.1 h;have e:c.i=c.i.take i++x::c.i.drop (i+1):=by
  rw[←h2,←bI h1,jY]
 have e2:gi c=c.h++((c.i.take i++x::c.i.drop (i+1)).flatMap eQ++[iI 7]):=by rw[←e];rfl
 rw[e2];simp only[bA,bj,az];omega
theorem fz{α:Type}{l:List α}{i:Nat}{a:α}(h:l[i]? =some a):l.take (i+1)=l.take i++[a]:=by
 rw[List.take_add_one,h];rfl
structure XR where
 i:Nat
 z:Int
 v:Value
 O:List (Nat×List Value)
 es:List dJ
section
variable{Γ:List aE}
theorem OM(s:Sl){l:List Re} [h:aZ (nX s) l Γ](hl:l.length≤1000000):
  kj tb Tryz.prog 74 [bz s] Γ (fun v O Δ=>∃es:List dJ,es.map dJ.r=l∧wh 3 O v es.length (es.flatMap dw.cells)∧Δ=[iY v es]):=by
 refine kj.of_W aB Tryz.func74 rfl ?_;refine Jc s rfl (fun es he hn ha=>?_);have hlen:es.length≤1000000:=by rw[←he,bL]at hl;exact hl
 refine Mz [] s.ao 22 45 Tryz.underlying22 ?_;refine W.d [] 4 s.ao.isNone (fun h0=>?_) (fun h0=>?_)
 ·have hb:es=[]:=Classical.byContradiction fun hne=>by
   obtain⟨bb,off,e⟩:=ha (by rw[hn];exact List.length_pos_iff.2 hne);rw[e]at h0;simp at h0
  subst hb;exact Ye [4] (.slice none 0 0) [] ⟨[],he,.inl (cG.nil 3),rfl⟩ (eC (fun I w hd hh e he=>by simp at he) eE)
 ·refine S2 [4] aB (fun b1=>?_);refine vF [] [] 3 32 0 s.n (.slice (some ⟨b1,0,none⟩) 0 0) (bz s) [] (es.flatMap dw.cells) aB (.inr ⟨rfl,rfl,rfl,b1,0,rfl⟩) (xA s [] hn ha) (ju es) (by omega) (by decide) (fun v' O' hg'=>?_);exact Ye [] v' O' ⟨es,he,hg'.cast (by simp) (by omega),rfl⟩ (eC (fun I w hd hh=>eK (k:=iY (bz s)) I w hd hh) eE)
theorem Wr(h c:Sl){t:Li} [hF:aZ (Hy h c) t Γ](hl:(jr t).length≤100000):
  au tb Tryz.prog 42 [mq h c] Γ (fun v Δ=>∃u:Sl,v=bz u∧Δ=[nX u (jr t)]):=by
 have hh0:t.h.length≤1000000:=by
  have:(jr t).length=t.h.length+((t.c.flatMap gi).length+1):=by simp[jr]
  omega
 refine au.of_W aB Tryz.func42 rfl ?_;obtain⟨ca,cn,cc⟩:=c;refine W.more (Δ:=[nX h t.h]) rfl (fun I w _ hh=>aV (hF.p hh).1) ?_;refine W.more (Δ:=[pE ⟨ca,cn,cc⟩ t.c]) rfl (fun I w _ hh=>aV (aZ.p (k:=Hy h ⟨ca,cn,cc⟩) (a:=t) inferInstance hh).2) ?_;refine W.len pG qg.x ⟨ca,cn,cc⟩ rfl (fun h1 h2 h3=>?_);simp only at h1 h2 h3;refine Yb [] (OM h (l:=t.h) hh0) ?_;rintro v0 O0 _ ⟨e0,Vy,hg0,rfl⟩;refine qy O0 ?_;refine j0 [] [3,14] (fun a:XR=>[(3,a.v),(14,.int .i64 a.z)]) (fun _=>[]) (fun a=>a.O) (fun a=>[pE ⟨ca,cn,cc⟩ t.c,iY a.v a.es]) (fun a=>a.z=a.i∧a.i≤cn∧a.es.map dJ.r=t.h++(t.c.take a.i).flatMap gi∧wh 3 a.O a.v a.es.length (a.es.flatMap dw.cells)) (fun a=>cn-a.i) ⟨0,0,v0,O0,e0⟩ ⟨rfl,aM _,by simp[Vy],hg0⟩ (eC eK (eC eK eE)) ?_;rintro⟨i,z,v,O,es⟩ K ⟨hz,hi,he,hg⟩ close;simp only at hz hi he hg;have hel:es.length=(t.h++(t.c.take i).flatMap gi).length:=by rw[←he,bL]
 by_cases hlt:i<cn
 ·obtain⟨x,hx⟩:∃x,t.c[i]? =some x:=⟨_,ar (by omega)⟩;have hb:=Rj t hx;rw[az,←hel]at hb;refine wj ⟨ca,cn,cc⟩ hx (fun b off fh fi ha=>?_);simp only at ha;subst ha;refine W.more (Δ:=[nX fh x.h]) rfl (fun I w _ hh=>aV (aZ.p (k:=xL fh fi) (a:=x) inferInstance hh).1) ?_;refine W.more (Δ:=[uv fi x.i]) rfl (fun I w _ hh=>aV (aZ.p (k:=xL fh fi) (a:=x) inferInstance hh).2) ?_;obtain⟨ia,im,ic⟩:=fi;refine W.len lJ nj.x ⟨ia,im,ic⟩ rfl (fun i1 i2 i3=>?_);simp only at i1 i2 i3;refine Jc fh rfl (fun eh hhe hhn hha=>?_);have NX:(gi x).length=eh.length+((x.i.flatMap eQ).length+1):=by rw[gi,az,az,←hhe,bL];rfl
  refine bD [] 15 (decide (z<(cn:Int))) (aw (by omega)) ?_;refine cA [15] 2 b off cn cc .i64 i z hz aB hlt ?_;refine de [] b (off+i*2) [bz fh,.slice ia im ic] aB (dL b (off+i*2)) ?_;refine vF [] O 3 32 es.length fh.n v (bz fh) (es.flatMap dw.cells) (eh.flatMap dw.cells) aB hg (xA fh O hhn hha) (ju eh) (by omega) (by decide) (fun v1 O1 hg1=>?_);refine j0 [] [3,25] (fun a:XR=>[(3,a.v),(25,.int .i64 a.z)]) (fun _=>[]) (fun a=>a.O) (fun a=>[pE ⟨some ⟨b,off,none⟩,cn,cc⟩ t.c,uv ⟨ia,im,ic⟩ x.i,iY a.v a.es]) (fun a=>a.z=a.i∧a.i≤im∧a.es.map dJ.r=t.h++(t.c.take i).flatMap gi++(x.h++(x.i.take a.i).flatMap eQ)∧wh 3 a.O a.v a.es.length (a.es.flatMap dw.cells)) (fun a=>im-a.i) ⟨0,0,v1,O1,es++eh⟩ ⟨rfl,aM _,by simp[he,hhe],hg1.cast (by simp) (by simp[hhn])⟩ (eC eK (eC eK (eC (fun I w hd hh=>iY.app (v:=v1) (eK (k:=iY v) I w hd hh) (eK (k:=iY (bz fh)) I w hd hh)) eE))) ?_;rintro⟨j,zj,vj,Oj,ej⟩ K2 ⟨XF,hj,YW,hgj⟩ close2;simp only at XF hj YW hgj;have abS:ej.length=es.length+(x.h++(x.i.take j).flatMap eQ).length:=by rw[hel,←az,←YW,bL]
  by_cases Ze:j<im
  ·obtain⟨y,hy⟩:∃y,x.i[j]? =some y:=⟨_,ar (by omega)⟩;have FQ:=Ns x hy;rw[az]at FQ;refine Al ⟨ia,im,ic⟩ hy (fun b2 off2 yf yp ha=>?_);simp only at ha;subst ha;refine W.more (Δ:=[nX yf y.f]) rfl (fun I w _ hh=>aV (aZ.p (k:=mr yf yp) (a:=y) inferInstance hh).1) ?_;refine W.more (Δ:=[nX yp y.p]) rfl (fun I w _ hh=>aV (aZ.p (k:=mr yf yp) (a:=y) inferInstance hh).2) ?_;refine Jc yf rfl (fun ef hfe XB hfa=>?_);refine Jc yp rfl (fun ep Qq Lf Zn=>?_);have hyl:(eQ y).length=ef.length+(ep.length+1):=by rw[eQ,az,az,←hfe,←Qq,bL,bL];rfl
   refine bD [] 26 (decide (zj<(im:Int))) (aw (by omega)) ?_;refine cA [26] 2 b2 off2 im ic .i64 j zj XF aB Ze ?_;refine de [] b2 (off2+j*2) [bz yf,bz yp] aB (dL b2 (off2+j*2)) ?_;refine vF [] Oj 3 32 ej.length yf.n vj (bz yf) (ej.flatMap dw.cells) (ef.flatMap dw.cells) aB hgj (xA yf Oj XB hfa) (ju ef) (by omega) (by decide) (fun v2 O2 hg2=>?_);refine vF [] O2 3 32 (ej.length+yf.n) yp.n v2 (bz yp) (ej.flatMap dw.cells++ef.flatMap dw.cells) (ep.flatMap dw.cells) aB hg2 (xA yp O2 Lf Zn) (ju ep) (by omega) (by decide) (fun v3 O3 x5=>?_);refine cI [] 1 [.int .u8 17,.int .u8 0,.slice none 0 0] aB (fun b4=>?_);refine vF [] O3 3 32 (ej.length+yf.n+yp.n) 1 v3 (.slice (some ⟨b4,0,none⟩) 1 1) (ej.flatMap dw.cells++ef.flatMap dw.cells++ep.flatMap dw.cells) [.int .u8 17,.int .u8 0,.slice none 0 0] aB x5 (bW b4 _ 1 3 rfl 1) (D4 17) (by omega) (by decide) (fun v4 O4 hg4=>?_);refine close2 [] _ _ ⟨j+1,IntKind.i64.wrap (zj+1),v4,O4,ej++(ef++(ep++[⟨⟨none,0,0⟩,iI 17⟩]))⟩ (by kernel_rfl) (by kernel_rfl) ⟨by simp only[ah];omega,Ze,?_,hg4.cast (by simp[dw,iI]) (by simp[XB,Lf];omega)⟩ (by simp only;omega) (eC eK (eC eK (eC (fun I w hd hh=>iY.app (v1:=vj) (eK (k:=iY vj) I w hd hh) (iY.app (v:=vj) (eK (k:=iY (bz yf)) I w hd hh) (iY.app (v:=vj) (eK (k:=iY (bz yp)) I w hd hh) (iY.one (v:=vj) (EH (.inl rfl) I w))))) eE)))
   rw[fz hy];simp[YW,hfe,Qq,eQ]
  ·have hjx:j=x.i.length:=by omega
   refine aS [] 26 (decide (zj<(im:Int))) (ak (by omega)) ?_;refine cI [26] 1 [.int .u8 7,.int .u8 0,.slice none 0 0] aB (fun b4=>?_);refine vF [] Oj 3 32 ej.length 1 vj (.slice (some ⟨b4,0,none⟩) 1 1) (ej.flatMap dw.cells) [.int .u8 7,.int .u8 0,.slice none 0 0] aB hgj (bW b4 _ 1 3 rfl 1) (D4 7) (by
    rw[aW (l:=x.i) (by omega),az,←hhe,bL]at abS;omega) (by decide) (fun v4 O4 hg4=>?_)
   refine close [] _ _ ⟨i+1,IntKind.i64.wrap (z+1),v4,O4,ej++[⟨⟨none,0,0⟩,iI 7⟩]⟩ (by kernel_rfl) (by kernel_rfl) ⟨by simp only[ah];omega,hlt,?_,hg4.cast (by simp[dw,iI]) (by simp)⟩ (by simp only;omega) (eC eK (eC (fun I w hd hh=>iY.app (v1:=vj) (eK (k:=iY vj) I w hd hh) (iY.one (v:=vj) (EH (.inr (.inl rfl)) I w))) eE));rw[fz hx];rw[aW (l:=x.i) (by omega)]at YW;simp[YW,gi]
 ·have Qo:i=t.c.length:=by omega
  have hfl:(jr t).length=es.length+1:=by
   rw[hel,aW (by omega)];simp[jr];omega
  refine aS [] 15 (decide (z<(cn:Int))) (ak (by omega)) ?_;refine cI [15] 1 [.int .u8 4,.int .u8 0,.slice none 0 0] aB (fun b4=>?_);refine vF [] O 3 32 es.length 1 v (.slice (some ⟨b4,0,none⟩) 1 1) (es.flatMap dw.cells) [.int .u8 4,.int .u8 0,.slice none 0 0] aB hg (bW b4 _ 1 3 rfl 1) (D4 4) (by omega) (by decide) (fun v4 O4 hg4=>?_);refine UI O4 hg4 (fun u hv g5 g1 g2=>?_);subst hv;refine W.r [] (bz u) ⟨u,rfl,rfl⟩ (eC (fun I w hd hh=>?_) eE);have e:jr t=(es++[(⟨⟨none,0,0⟩,iI 4⟩:dJ)]).map dJ.r:=by
   rw[aW (by omega)]at he;simp[jr,he]
  rw[e];refine mc (v:=v) (es:=es++[(⟨⟨none,0,0⟩,iI 4⟩:dJ)]) (by simp[g5]) g1 g2 (iY.app (v1:=v) (eK (k:=iY v) I w hd hh) (iY.one (v:=v) (EH (.inr (.inr rfl)) I w))) ?_;have:=eK (k:=RA u.ao) I w hd hh;simpa [dw,iI]using this
end
theorem A9:∀{l m:List Im},jS l m=true→l.length=m.length
 | [],[],_=>rfl
 |x::l,y::m,h=>by
  simp only[jS,aK]at h;simp[A9 h.2]
 | [],_::_,h=>by simp[jS]at h
 |_::_,[],h=>by simp[jS]at h
theorem A8:∀{l m:List Ce},jR l m=true→l.length=m.length
 | [],[],_=>rfl
 |x::l,y::m,h=>by
  simp only[jR,aK]at h;simp[A8 h.2]
 | [],_::_,h=>by simp[jR]at h
 |_::_,[],h=>by simp[jR]at h
theorem rQ(n m:Nat):((n:Int)==(m:Int))=(n==m):=by
 by_cases h:n=m
 ·subst h;simp
 ·rw[beq_eq_false_iff_ne.2 h,beq_eq_false_iff_ne.2 (by omega)]
section
variable{Γ:List aE}
theorem RX(a b c d:Sl){x y:Im} [h1:aZ (mr a b) x Γ] [h2:aZ (mr c d) y Γ]:au tb Tryz.prog 78 [mq a b,mq c d] Γ (jv (.bool (w_ x y))):=by
 refine au.of_W aB Tryz.func78 rfl ?_;refine qx (a.n=x.f.length∧b.n=x.p.length∧c.n=y.f.length∧d.n=y.p.length) rfl (fun I w _ hh=>by
  obtain⟨⟨_,_,e1,_⟩,_,_,e2,_⟩:=h1.p hh;obtain⟨⟨_,_,e3,_⟩,_,_,e4,_⟩:=h2.p hh;exact⟨e1,e2,e3,e4⟩) (fun⟨e1,e2,e3,e4⟩=>?_)
 have hl:w_ x y=((a.n==c.n)&&(b.n==d.n)):=by rw[e1,e2,e3,e4];rfl
 refine W.d [] 12 ((a.n:Int)==(c.n:Int)) (fun hb=>?_) (fun hb=>?_)
 ·exact W.r [12] (.bool ((b.n:Int)==(d.n:Int))) ⟨by rw[hl,←rQ,hb,dP,rQ],rfl⟩ bU
 ·exact W.r [12] (.bool false) ⟨by rw[hl,←rQ,hb];rfl,rfl⟩ bU
theorem ZZ(a b:Sl){l m:List Im} [h1:aZ (uv a) l Γ] [h2:aZ (uv b) m Γ]:au tb Tryz.prog 77 [bz a,bz b,.func (.func 78) #[] #[]] Γ (jv (.bool (jS l m))):=by
 refine au.of_W aB Tryz.func77 rfl ?_;obtain⟨aa,an,ac⟩:=a;obtain⟨ba,bn,bc⟩:=b;refine W.len lJ nj.x ⟨aa,an,ac⟩ rfl (fun g1 g2 g3=>?_);refine W.len lJ nj.x ⟨ba,bn,bc⟩ rfl (fun k1 k2 k3=>?_);simp only at g1 g2 g3 k1 k2 k3;by_cases hne:an=bn
 ·refine aS [] 14 ((an:Int) != (bn:Int)) (by simp[hne]) ?_;refine xT [14] [6,17] (fun q:Nat×Int=>[(6,.bool false),(17,.int .i64 q.2)]) (fun _=>[]) (fun _=>[uv ⟨aa,an,ac⟩ l,uv ⟨ba,bn,bc⟩ m]) (fun q=>q.2=q.1∧q.1≤an∧jS (l.drop q.1) (m.drop q.1)=jS l m) (fun q=>an-q.1) (0,0) ⟨rfl,aM _,rfl⟩ (eC eK (eC eK eE)) ?_;rintro⟨i,z⟩ K ⟨hz,hi,hall⟩ close;simp only at hz hi hall;by_cases hlt:i<an
  ·obtain⟨x,hx⟩:∃x,l[i]? =some x:=⟨_,ar (by omega)⟩;obtain⟨y,hy⟩:∃y,m[i]? =some y:=⟨_,ar (by omega)⟩;rw[iH hx,iH hy,jS]at hall;refine Al ⟨aa,an,ac⟩ hx (fun b1 o1 f1 p1 ha=>?_);refine Al ⟨ba,bn,bc⟩ hy (fun b2 o2 f2 p2 hb=>?_);simp only at ha hb;subst ha hb;refine bD [] 18 (decide (z<(an:Int))) (aw (by omega)) ?_;refine cA [18] 2 b1 o1 an ac .i64 i z hz aB hlt ?_;refine de [] b1 (o1+i*2) [bz f1,bz p1] aB (dL b1 (o1+i*2)) ?_;refine cA [] 2 b2 o2 bn bc .i64 i z hz aB (by omega) ?_;refine de [] b2 (o2+i*2) [bz f2,bz p2] aB (dL b2 (o2+i*2)) ?_;refine aj [] (RX f1 p1 f2 p2 (x:=x) (y:=y)) ?_;rintro _ _ ⟨rfl,rfl⟩;refine W.d [] 30 (!w_ x y) (fun hb=>?_) (fun hb=>?_)
   ·exact W.r [30] (.bool false) ⟨by rw[←hall,(by simpa using hb:w_ x y=false)];rfl,rfl⟩ bU
   ·refine close [30] _ _ (i+1,IntKind.i64.wrap (z+1)) (by kernel_rfl) (by kernel_rfl) ⟨by simp only[ah];omega,hlt,?_⟩ (by simp only;omega) (eC eK (eC eK eE));rw[←hall,(by simpa using hb:w_ x y=true),dP]
  ·refine aS [] 18 (decide (z<(an:Int))) (ak (by omega)) ?_;refine W.r [18] (.bool true) ⟨?_,rfl⟩ bU;rw[←hall,bu (by omega),bu (by omega)];rfl
 ·refine bD [] 14 ((an:Int) != (bn:Int)) (bne_iff_ne.2 (fun h=>hne (by omega))) ?_;refine W.r [14] (.bool false) ⟨?_,rfl⟩ bU;cases hq:jS l m with
  |false=>rfl
  |true=>exact absurd (by rw[g1,k1];exact A9 hq) hne
theorem RW(a b c d:Sl){x y:Ce} [h1:aZ (xL a b) x Γ] [h2:aZ (xL c d) y Γ]:au tb Tryz.prog 76 [mq a b,mq c d] Γ (jv (.bool (wZ x y))):=by
 refine au.of_W aB Tryz.func76 rfl ?_;refine qx (a.n=x.h.length∧c.n=y.h.length) rfl (fun I w _ hh=>by
  obtain⟨⟨_,_,e1,_⟩,_⟩:=h1.p hh;obtain⟨⟨_,_,e3,_⟩,_⟩:=h2.p hh;exact⟨e1,e3⟩) (fun⟨e1,e3⟩=>?_)
 have hl:wZ x y=((a.n==c.n)&&(jS x.i y.i)):=by rw[e1,e3];rfl
 refine W.more (Δ:=[uv b x.i]) rfl (fun I w _ hh=>aV (aZ.p (k:=xL a b) (a:=x) inferInstance hh).2) ?_;refine W.more (Δ:=[uv d y.i]) rfl (fun I w _ hh=>aV (aZ.p (k:=xL c d) (a:=y) inferInstance hh).2) ?_;refine W.d [] 12 ((a.n:Int)==(c.n:Int)) (fun hb=>?_) (fun hb=>?_)
 ·refine aj [12] (ZZ b d (l:=x.i) (m:=y.i)) ?_;rintro _ _ ⟨rfl,rfl⟩;exact W.r [12] (.bool (jS x.i y.i)) ⟨by rw[hl,←rQ,hb,dP],rfl⟩ bU
 ·exact W.r [12] (.bool false) ⟨by rw[hl,←rQ,hb];rfl,rfl⟩ bU
theorem ZY(a b:Sl){l m:List Ce} [h1:aZ (pE a) l Γ] [h2:aZ (pE b) m Γ]:au tb Tryz.prog 75 [bz a,bz b,.func (.func 76) #[] #[]] Γ (jv (.bool (jR l m))):=by
 refine au.of_W aB Tryz.func75 rfl ?_;obtain⟨aa,an,ac⟩:=a;obtain⟨ba,bn,bc⟩:=b;refine W.len pG qg.x ⟨aa,an,ac⟩ rfl (fun g1 g2 g3=>?_);refine W.len pG qg.x ⟨ba,bn,bc⟩ rfl (fun k1 k2 k3=>?_);simp only at g1 g2 g3 k1 k2 k3;by_cases hne:an=bn
 ·refine aS [] 14 ((an:Int) != (bn:Int)) (by simp[hne]) ?_;refine xT [14] [6,17] (fun q:Nat×Int=>[(6,.bool false),(17,.int .i64 q.2)]) (fun _=>[]) (fun _=>[pE ⟨aa,an,ac⟩ l,pE ⟨ba,bn,bc⟩ m]) (fun q=>q.2=q.1∧q.1≤an∧jR (l.drop q.1) (m.drop q.1)=jR l m) (fun q=>an-q.1) (0,0) ⟨rfl,aM _,rfl⟩ (eC eK (eC eK eE)) ?_;rintro⟨i,z⟩ K ⟨hz,hi,hall⟩ close;simp only at hz hi hall;by_cases hlt:i<an
  ·obtain⟨x,hx⟩:∃x,l[i]? =some x:=⟨_,ar (by omega)⟩;obtain⟨y,hy⟩:∃y,m[i]? =some y:=⟨_,ar (by omega)⟩;rw[iH hx,iH hy,jR]at hall;refine wj ⟨aa,an,ac⟩ hx (fun b1 o1 f1 p1 ha=>?_);refine wj ⟨ba,bn,bc⟩ hy (fun b2 o2 f2 p2 hb=>?_);simp only at ha hb;subst ha hb;refine bD [] 18 (decide (z<(an:Int))) (aw (by omega)) ?_;refine cA [18] 2 b1 o1 an ac .i64 i z hz aB hlt ?_;refine de [] b1 (o1+i*2) [bz f1,bz p1] aB (dL b1 (o1+i*2)) ?_;refine cA [] 2 b2 o2 bn bc .i64 i z hz aB (by omega) ?_;refine de [] b2 (o2+i*2) [bz f2,bz p2] aB (dL b2 (o2+i*2)) ?_;refine aj [] (RW f1 p1 f2 p2 (x:=x) (y:=y)) ?_;rintro _ _ ⟨rfl,rfl⟩;refine W.d [] 30 (!wZ x y) (fun hb=>?_) (fun hb=>?_)
   ·exact W.r [30] (.bool false) ⟨by rw[←hall,(by simpa using hb:wZ x y=false)];rfl,rfl⟩ bU
   ·refine close [30] _ _ (i+1,IntKind.i64.wrap (z+1)) (by kernel_rfl) (by kernel_rfl) ⟨by simp only[ah];omega,hlt,?_⟩ (by simp only;omega) (eC eK (eC eK eE));rw[←hall,(by simpa using hb:wZ x y=true),dP]
  ·refine aS [] 18 (decide (z<(an:Int))) (ak (by omega)) ?_;refine W.r [18] (.bool true) ⟨?_,rfl⟩ bU;rw[←hall,bu (by omega),bu (by omega)];rfl
 ·refine bD [] 14 ((an:Int) != (bn:Int)) (bne_iff_ne.2 (fun h=>hne (by omega))) ?_;refine W.r [14] (.bool false) ⟨?_,rfl⟩ bU;cases hq:jR l m with
  |false=>rfl
  |true=>exact absurd (by rw[g1,k1];exact A8 hq) hne
theorem Wu(a b c d:Sl){x y:Li} [h1:aZ (Hy a b) x Γ] [h2:aZ (Hy c d) y Γ]:au tb Tryz.prog 43 [mq a b,mq c d] Γ (jv (.bool (Ge x y))):=by
 refine au.of_W aB Tryz.func43 rfl ?_;refine qx (a.n=x.h.length∧c.n=y.h.length) rfl (fun I w _ hh=>by
  obtain⟨⟨_,_,e1,_⟩,_⟩:=h1.p hh;obtain⟨⟨_,_,e3,_⟩,_⟩:=h2.p hh;exact⟨e1,e3⟩) (fun⟨e1,e3⟩=>?_)
 have hl:Ge x y=((a.n==c.n)&&(jR x.c y.c)):=by rw[e1,e3];rfl
 refine W.more (Δ:=[pE b x.c]) rfl (fun I w _ hh=>aV (aZ.p (k:=Hy a b) (a:=x) inferInstance hh).2) ?_;refine W.more (Δ:=[pE d y.c]) rfl (fun I w _ hh=>aV (aZ.p (k:=Hy c d) (a:=y) inferInstance hh).2) ?_;refine W.d [] 12 ((a.n:Int)==(c.n:Int)) (fun hb=>?_) (fun hb=>?_)
 ·refine aj [12] (ZY b d (l:=x.c) (m:=y.c)) ?_;rintro _ _ ⟨rfl,rfl⟩;exact W.r [12] (.bool (jR x.c y.c)) ⟨by rw[hl,←rQ,hb,dP],rfl⟩ bU
 ·exact W.r [12] (.bool false) ⟨by rw[hl,←rQ,hb];rfl,rfl⟩ bU
end
theorem RL(w:World):(binOp BinOp.neq 20 .nilIface .nilIface).run Tryz.prog w=.ok (.bool false) w:=by kernel_rfl
theorem H5(p q:Addr)(w:World):
  CallsD Tryz.prog 72 #[.pointer (some p),.pointer (some q)] .returning w fun e u' w'=>e=.returned (.tuple #[])∧u'=.returning∧w'=w:=by
 refine callsD_of_wpS Tryz.func72 rfl fun c₀ cs hu=>?_;apply wpS_seq;apply wpS_region;simp[wpOpsS,go_sem,recoverD,hu,Exit.thenS];apply wpS_seq;apply wpS_region;simp[wpOpsS,go_sem,Exit.thenS,RL];refine wpS_cond (t:=false) (by simp[Act.eval,Array.replicate]) ?_;simp only[iK,ea];refine wpS_of_wp (wp_skip ?_);cases c₀
 simp_all [bodyPostS,results]
theorem Lt(w:World):(binOp BinOp.neq 20 (.iface 149 (.agg #[])) .nilIface).run Tryz.prog w=.ok (.bool true) w:=by kernel_rfl
theorem PX(w:World):(Instr.typeAssert (.iface 149 (.agg #[])) 20 149 true).run Tryz.prog w=.ok (.tuple #[.agg #[],.bool true]) w:=by kernel_rfl
theorem jm{w:World}{b o:Nat}{v:Value}{c:Array Value}{e:TypeId}(h:w.heap[b]? =some (.cells c e (0,0))):(w.setCell ⟨b,o,none⟩ v).heap[b]? =some (.cells (c.setIfInBounds o v) e (0,0)):=by
 simp[World.setCell,jX,h]
theorem eS{w:World}{b o k:Nat}{v:Value}(h:k≠b):(w.setCell ⟨b,o,none⟩ v).heap[k]? =w.heap[k]? :=by
 simp only[World.setCell,jX];rw[if_neg (fun e=>h e.symm)]
theorem ov{w:World}{b o:Nat}{c:Array Value}{e:TypeId}(h:w.heap[b]? =some (.cells c e (0,0))):w.cell? ⟨b,o,none⟩=c[o]? :=by simp[World.cell?,h]
theorem uF{w:World}{b o:Nat}{c:Array Value}{e:TypeId}(h:w.heap[b]? =some (.cells c e (0,0))):w.frozen? ⟨b,o,none⟩=false:=by simp[World.frozen?,h]
theorem kB{w:World}{x:Obj}{k:Nat}{y:Obj}(h:w.heap[k]? =some y):(w.alloc x).heap[k]? =some y:=by
 have:=(Array.getElem?_eq_some_iff.1 h).1;simp only[World.alloc];rw[Array.getElem?_push_lt this,←h];exact(Array.getElem?_eq_getElem this).symm
def uB(tb eb:Nat)(w:World):World:=((((w.alloc (.cells #[] 149)).setCell ⟨tb,0,none⟩ (.slice none 0 0)).setCell ⟨tb,1,none⟩ (.slice none 0 0)).setCell ⟨eb,0,none⟩ (.int .i64 20))
theorem FE(tb eb:Nat)(w:World)(x y z:Value)(et ee:TypeId)(h1:w.heap[tb]? =some (.cells #[x,y] et (0,0)))(h2:w.heap[eb]? =some (.cells #[z] ee (0,0)))(hne:tb≠eb):
  CallsD Tryz.prog 72 #[.pointer (some ⟨tb,0,none⟩),.pointer (some ⟨eb,0,none⟩)] (.panicking [{v:=.iface 149 (.agg #[]),recovered:=false}]) w fun e u' w'=>e=.returned (.tuple #[])∧u'=.panicking [{v:=.iface 149 (.agg #[]),recovered:=true}]∧w'=uB tb eb w:=by
 have a1:=kB (x:=.cells #[] 149) h1;have a2:=kB (x:=.cells #[] 149) h2;have b1:=jm (o:=0) (v:=.slice none 0 0) a1;have b2:((w.alloc (.cells #[] 149)).setCell ⟨tb,0,none⟩ (.slice none 0 0)).heap[eb]? =_:=(eS (fun e=>hne e.symm)).trans a2;have d2:(((w.alloc (.cells #[] 149)).setCell ⟨tb,0,none⟩ (.slice none 0 0)).setCell ⟨tb,1,none⟩ (.slice none 0 0)).heap[eb]? =_:=(eS (fun e=>hne e.symm)).trans b2;have c1:=ov (o:=0) a1;have z1:=uF (o:=0) a1;have c2:=ov (o:=1) b1;have z2:=uF (o:=1) b1;have c3:=ov (o:=0) d2;have z3:=uF (o:=0) d2;refine callsD_of_wpS Tryz.func72 rfl fun c₀ cs hu=>?_;apply wpS_seq;apply wpS_region;simp[wpOpsS,go_sem,recoverD,hu,Exit.thenS];apply wpS_seq;apply wpS_region;simp[wpOpsS,go_sem,Exit.thenS,Lt];refine wpS_cond (t:=true) (by simp[Act.eval,Array.replicate]) ?_;simp only[eW];apply wpS_seq;apply wpS_seq;apply wpS_region;simp[wpOpsS,go_sem,Exit.thenS,PX,storeCells];apply wpS_seq;apply wpS_region;simp[wpOpsS,go_sem,Exit.thenS];refine wpS_cond (t:=false) (by simp[Act.eval,Array.replicate]) ?_;simp only[iK,ea];refine wpS_of_wp (wp_skip ?_);simp only[Exit.thenS];apply wpS_region;simp[wpOpsS,go_sem,Exit.thenS,c1,z1,c2,z2,c3,z3];simp[bodyPostS,results,uB]
theorem SM{T:Tb}{P:Program}{rc:Code}{tm:List Value}{nb:Nat}{Oin:List (Nat×List Value)}{I:f_}{w:World}{ds:List Deferred}{fin:VS→List aE→Prop}{Q:Exit→Act→World→Prop}{Γ:List aE}(hT:T.Ok P)(hQ:∀l a w,¬Q (.goto l) a w)
  (hfin:∀s Γ a w' ρ,fin s Γ→iw T w ⟨I,gV Oin [],ds⟩ Γ s a w' ρ→Q .normal a w'∧Q .ret a w')
  (vl:∀ch a w',T.pan ch→a.defers=ds→j6 (gV Oin []) w w'→(∃ks own,T.held ks own∧gG T own w'∧∀x∈ks,a.tmps.getD x.1 undef=x.2)→Q (.panic ch) a w')
  (hW:W T P fin ⟨⟨tm.map .val,List.replicate nb none,Oin,[]⟩,[.code rc]⟩ Γ)(hd:bB T I w)(hh:aG Γ I w)(ho:gG T Oin w)(hon:(Oin.map (·.1)).Nodup)(hx:∀b,gV Oin [] b→¬I b):
  rc.wp P Q {tmps:=tm.toArray,defers:=ds} w:=by
 have tI:∀(t:Nat) (cs:List Value),(List.replicate nb (none:Option (List Value)))[t]? =some (some cs)→False:=by
  intro t cs ht;rw[cW]at ht;split at ht<;>simp at ht
 have JF:iw T w ⟨I,gV Oin [],ds⟩ Γ ⟨tm.map .val,List.replicate nb none,Oin,[]⟩ {tmps:=tm.toArray,defers:=ds} w (fun _=>0):=by
  refine⟨rfl,by simp,fun i sv hi=>?_,j6.refl _ _,fun t cs ht=>(tI t cs ht).elim,fun t u cs cs' ht=>(tI t cs ht).elim,fun i t off hi=>?_,hd,hh.up (fun b hb hI=>⟨fun _=>.inl hI,fun t cs ht=>(tI t cs ht).elim,fun cs hc=>hx b (.inl ⟨cs,hc⟩) hI,fun m hm=>absurd hm (by simp)⟩) (fun _ _ _=>rfl) (ai _),ho,fun b cs hb=>.inr (.inl ⟨cs,hb⟩),fun b cs hb t cs' ht=>(tI t cs' ht).elim,hon,fun b m hb=>absurd hb (by simp),fun b m hb=>absurd hb (by simp),by simp⟩
  ·simp only[bN]at hi;cases hv:tm[i]? with
   |none=>rw[hv]at hi;simp at hi
   |some v=>
    rw[hv]at hi;simp only[dq,aq]at hi;subst hi;simp[rel,dE,hv]
  ·simp only[bN]at hi;cases hv:tm[i]? with
   |none=>rw[hv]at hi;simp at hi
   |some v=>rw[hv]at hi;simp at hi
 have:=hW.sound (w0:=w) (I0:=⟨I,gV Oin [],ds⟩) (Q:=Q) hT hQ hfin vl rfl;rw[dB rfl]at this;exact this _ w _ JF
theorem tG{P:Program}{ops:Array Oper}{Q:Exit→Act→World→Prop}{i:Nat}{rest:List Nat}{o:Oper}{a:Act}{v:Value}{w w':World}(hi:ops[i]? =some o)(hg:o.guard=none)(hr:(execOp a.eval o).run P w=.ok (.value v) w')(hk:wpOps P ops Q rest (a.put o.dst v) w'):wpOps P ops Q (i::rest) a w:=by
 rw[wpOps_cons];unfold wpOp;rw[hi];simp only;rw[show Region.wanted o (yielded ops a.tmps)=true from by unfold Region.wanted;rw[hg],if_pos rfl];left;unfold Oper.wp;rw[hr];exact hk
theorem Vr{P:Program}{ops:Array Oper}{Q:Exit→Act→World→Prop}{i:Nat}{rest:List Nat}{o:Oper}{a:Act}{d:Deferred}{w w':World}(hi:ops[i]? =some o)(hg:o.guard=none)(hk:wpOps P ops Q rest ({a with defers:=d::a.defers}.put o.dst undef) w')(hr:(execOp a.eval o).run P w=.ok (.defer d) w':=by kernel_rfl):wpOps P ops Q (i::rest) a w:=by
 rw[wpOps_cons];unfold wpOp;rw[hi];simp only;rw[show Region.wanted o (yielded ops a.tmps)=true from by unfold Region.wanted;rw[hg],if_pos rfl];left;unfold Oper.wp;rw[hr];exact hk
section
variable{T:Tb}{P:Program}{fin:VS→List aE→Prop}{c:fM}{Γ:List aE}
theorem aaR(D:List Nat)(hk:fin ((jj (aJ T (bh T D 999 c))).getD ⟨[],[],[],[]⟩) Γ)(h:(jj (aJ T (bh T D 999 c))).isSome=true:=by kernel_rfl):W T P fin c Γ:=by
 refine eF D 999 ?_;generalize bh T D 999 c=c1 at*;cases he:aJ T c1<;>rw[he]at h hk<;>simp[jj]at h hk;exact W.ret he hk
theorem UF(D:List Nat)(n:Nat)(v:Value)(ks:List (Nat×Value))(own:List (Nat×List Value))(hp:T.pan [{v,recovered:=false}])(hh:T.held ks own)(hk:∀x∈ks,ly x.1 (WL (bh T D n c))=false∧(bh T D n c).s.tmps[x.1]? =some (.val x.2))(h:xt T (bh T D n c)=some v:=by kernel_rfl)(ho:(bh T D n c).s.own=own:=by kernel_rfl):W T P fin c Γ:=
 W.pan D n v (h:=h) hp ⟨ks,by rw[ho];exact hh,hk⟩
end
def DD(rs:List Re)(v:Value)(Δ:List aE):Prop:=
 (∃(t:Li) (h c:Sl),rY rs=some (t,[])∧v=.tuple #[mq h c,.int .i64 0]∧Δ=[Hy h c t])∨((∀t,rY rs≠some (t,[]))∧v=.tuple #[mq ⟨none,0,0⟩ ⟨none,0,0⟩,.int .i64 20]∧Δ=[])
abbrev tbQ(B:Prop)(tv ev:Nat):Tb:={si B with pins:=[2,3],held:=fun ks own=>ks=[(2,fp tv),(3,fp ev)]∧(∃x y,(tv,[x,y])∈own)∧∃z,(ev,[z])∈own}
theorem zf(B:Prop)(tv ev:Nat):(tbQ B tv ev).Ok Tryz.prog:=⟨aB.mixed,aB.ty⟩
theorem dC.q{B:Prop}{tv ev:Nat}{f:FuncId}{args:List Value}{Oin:List (Nat×List Value)}{Min:List (Nat×List (Value×Value))}{Γ:List aE}{post:Value→List (Nat×List Value)→List (Nat×List (Value×Value))→List aE→Prop}(h:dC (si B) Tryz.prog f args Oin Min Γ post):dC (tbQ B tv ev) Tryz.prog f args Oin Min Γ post:=h
def IV(fn:Func):Code:=match fn.body with
 |some (.seq _ (.seq _ c))=>c
 |_=>.skip
def Uu(rs:List Re)(tv ev:Nat)(s:VS)(Γ:List aE):Prop:=
 ∃(t:Li) (h c:Sl),rY rs=some (t,[])∧s.tmps[2]? =some (.val (fp tv))∧s.tmps[3]? =some (.val (fp ev))∧(tv,[bz h,bz c])∈s.own∧(ev,[.int .i64 0])∈s.own∧∀I w,bB (tbQ True tv ev) I w→aG Γ I w→aG [Hy h c t] I w
theorem IK(s:Sl){rs:List Re}{Γ:List aE} [h:aZ (nX s) rs Γ](hlen:rs.length≤100000)(tv ev:Nat)(fv:Value):
  W (tbQ (∀t,rY rs≠some (t,[])) tv ev) Tryz.prog (Uu rs tv ev) ⟨⟨([bz s,undef,fp tv,fp ev,undef,fv]++List.replicate 17 undef).map .val,List.replicate 23 none,[(tv,[.slice none 0 0,.slice none 0 0]),(ev,[.int .i64 0])],[]⟩,[.code (IV Tryz.f41)]⟩ Γ:=by
 have hd0:rs.drop 0=rs:=rfl;refine W.len dw dJ.r s rfl (fun n1 n2 n3=>?_);refine vf 9 (fun pb=>?_);refine Ms [] [] (PO pb s 0) [(tv,[.slice none 0 0,.slice none 0 0]),(ev,[.int .i64 0])] [] [] [] ⟨rfl,by rfl⟩ ⟨[(2,fp tv),(3,fp ev)],⟨rfl,⟨_,_,.head _⟩,_,.tail _ (.head _)⟩,fun x hx=>by
  simp only[aD,aC,bp]at hx;rcases hx with rfl|rfl
  ·exact⟨rfl,by kernel_rfl⟩
  ·exact⟨rfl,by kernel_rfl⟩⟩ (by kernel_rfl) (by kernel_rfl) (by kernel_rfl) (Z1 (∀t,rY rs≠some (t,[])) pb s 0 (rs:=rs) hlen (fun hno t=>by rw[hd0]at hno;rw[hno];simp)).q ?_
 rintro _ _ _ _ ⟨t,hs,cs,yL,hp,rfl,rfl,rfl,rfl⟩;rw[hd0]at hp;refine nY [] ([]++(PO pb s yL++[(tv,[.slice none 0 0,.slice none 0 0]),(ev,[.int .i64 0])])) (PO pb s yL) [(ev,[.int .i64 0])] 2 tv 0 [.slice none 0 0,.slice none 0 0] (mq hs cs) [bz hs,bz cs] (zf _ tv ev) rfl rfl (by intro u hu;simp[Value.cells]at hu;rcases hu with rfl|rfl<;>rfl) (ai 2) rfl ?_;refine cr [] 0 pb 0 (zf _ tv ev) ?_;refine cr [] 1 pb (0+0) (zf _ tv ev) ?_;refine dQ [] (PO pb s yL++(tv,[bz hs,bz cs])::[(ev,[.int .i64 0])]) pb (0+0+1) 1 [bz s,.int .i64 (yL:Int)] (.int .i64 (yL:Int)) (zf _ tv ev) (.head _) rfl ?_;by_cases hlt:yL<s.n
 ·have hne:∀t,rY rs≠some (t,[]):=fun t' e=>by
   rw[hp]at e;injection e with e;injection e with _ e;have:=dz List.length e;simp at this;omega
  refine bD [] 19 (decide ((yL:Int)<(s.n:Int))) (aw (by omega)) ?_;exact UF [19] 1 yH [(2,fp tv),(3,fp ev)] (PO pb s yL++(tv,[bz hs,bz cs])::[(ev,[.int .i64 0])]) ⟨hne,rfl⟩ ⟨rfl,⟨bz hs,bz cs,by simp⟩,.int .i64 0,by simp⟩ (fun x hx=>by
   simp only[aD,aC,bp]at hx;rcases hx with rfl|rfl
   ·exact⟨by kernel_rfl,by kernel_rfl⟩
   ·exact⟨by kernel_rfl,by kernel_rfl⟩)
 ·have hnil:rs.drop yL=[]:=bu (by omega);rw[hnil]at hp;refine aS [] 19 (decide ((yL:Int)<(s.n:Int))) (ak (by omega)) ?_;refine wk [19] (PO pb s yL++(tv,[bz hs,bz cs])::[(ev,[.int .i64 0])]) tv 0 2 [bz hs,bz cs] [bz hs,bz cs] (zf _ tv ev) (by simp) rfl rfl ?_;refine nY [] (PO pb s yL++(tv,[bz hs,bz cs])::[(ev,[.int .i64 0])]) (PO pb s yL) [(ev,[.int .i64 0])] 2 tv 0 [bz hs,bz cs] (mq hs cs) [bz hs,bz cs] (zf _ tv ev) rfl rfl (by intro u hu;simp[Value.cells]at hu;rcases hu with rfl|rfl<;>rfl) (ai 2) rfl ?_;refine nY [] (PO pb s yL++(tv,[bz hs,bz cs])::[(ev,[.int .i64 0])]) (PO pb s yL++[(tv,[bz hs,bz cs])]) [] 1 ev 0 [.int .i64 0] (.int .i64 0) [.int .i64 0] (zf _ tv ev) rfl rfl (JR _ _) (ai 1) rfl ?_;have lK:∀(own:List (Nat×List Value)),own=PO pb s yL++[(tv,[bz hs,bz cs])]++(ev,[.int .i64 0])::[]→(tv,[bz hs,bz cs])∈own∧(ev,[.int .i64 0])∈own:=fun own e=>by
   subst e;exact⟨by simp,by simp⟩
  refine aaR [] ⟨t,hs,cs,hp,by kernel_rfl,by kernel_rfl,(lK _ (by kernel_rfl)).1,(lK _ (by kernel_rfl)).2,fun I w hd hh=>eC eK eE I w hd hh⟩
theorem Cl:Tryz.f41.results= #[.cell 2 25,.cell 3 33]:=by kernel_rfl
theorem jA{w:World}{x:Obj}{k:Nat}(h:k<w.heap.size):(w.alloc x).heap[k]? =w.heap[k]? :=by
 simp only[World.alloc];rw[Array.getElem?_push_lt h];exact(Array.getElem?_eq_getElem h).symm
theorem mS(w:World)(x:Obj):(w.alloc x).heap[w.heap.size]? =some x:=by
 simp only[World.alloc];exact Array.getElem?_push_size
theorem Bt{tm:Array Value}{tv ev:Nat}{w:World}{x y z:Value}{et ee:TypeId}(h2:tm.getD 2 undef=fp tv)(h3:tm.getD 3 undef=fp ev)(g1:w.heap[tv]? =some (.cells #[x,y] et (0,0)))(g2:w.heap[ev]? =some (.cells #[z] ee (0,0))):(results Tryz.f41 tm).run Tryz.prog w=.ok (.tuple #[.agg #[x,y],z]) w:=by
 have c1:w.cell? ⟨tv,0,none⟩=some x:=ov (o:=0) g1;have c2:w.cell? ⟨tv,1,none⟩=some y:=ov (o:=1) g1;have c3:w.cell? ⟨ev,0,none⟩=some z:=ov (o:=0) g2;rw[dE]at h2 h3;unfold results;rw[Cl];simp[go_sem,h2,h3,c1,c2,c3]
section
variable{Γ:List aE}
theorem OO(s:Sl){rs:List Re} [h:aZ (nX s) rs Γ](hlen:rs.length≤100000):au tb Tryz.prog 41 [bz s] Γ (DD rs):=by
 refine⟨⟨_,Tryz.func41,by kernel_rfl,by kernel_rfl⟩,fun I w hd hh=>?_⟩;obtain⟨w1,hw1⟩:∃w1,w1=w.alloc (.cells #[.slice none 0 0,.slice none 0 0] 25):=⟨_,rfl⟩;obtain⟨w2,hw2⟩:∃w2,w2=w1.alloc (.cells #[.int .i64 0] 33):=⟨_,rfl⟩;obtain⟨tv,htv⟩:∃tv,tv=w.heap.size:=⟨_,rfl⟩;obtain⟨ev,hev⟩:∃ev,ev=w1.heap.size:=⟨_,rfl⟩;have hs1:w1.heap.size=w.heap.size+1:=by rw[hw1];simp
 have hs2:w2.heap.size=w.heap.size+2:=by rw[hw2,World.size_alloc,hs1]
 have hne:tv≠ev:=by omega
 have g1:w2.heap[tv]? =some (.cells #[.slice none 0 0,.slice none 0 0] 25 (0,0)):=by
  rw[hw2,jA (by omega),hw1,htv];exact mS _ _
 have g2:w2.heap[ev]? =some (.cells #[.int .i64 0] 33 (0,0)):=by
  rw[hw2,hev];exact mS _ _
 have hold:∀k,k<w.heap.size→w2.heap[k]? =w.heap[k]? :=fun k hk=>by
  rw[hw2,jA (by omega),hw1,jA hk]
 have YO:∀{w':World},w'.os=w2.os→w'.tape=w2.tape→w'.output=w2.output→w2.heap.size≤w'.heap.size→(∀k,k<w2.heap.size→k≠tv→k≠ev→w'.heap[k]? =w2.heap[k]?)→Below w.heap.size w w':=fun{w'} a1 a2 a3 a4 a5=>
  ⟨by rw[a1,hw2,hw1];rfl,by rw[a2,hw2,hw1];rfl,by rw[a3,hw2,hw1];rfl,by omega,fun k hk=>by rw[a5 k (by omega) (by omega) (by omega),hold k hk]⟩
 have hX:∀b,gV [(tv,[.slice none 0 0,.slice none 0 0]),(ev,[.int .i64 0])] [] b↔(b=tv∨b=ev):=fun b=>by
  unfold gV;constructor
  ·rintro(⟨cs,hc⟩|⟨m,hm⟩)
   ·simp only[aD,aI,aC,bp]at hc;rcases hc with h|h
    ·exact .inl h.1
    ·exact .inr h.1
   ·simp at hm
  ·rintro(rfl|rfl)
   ·exact .inl ⟨_,.head _⟩
   ·exact .inl ⟨_,.tail _ (.head _)⟩
 refine calls_of_wp_defers Tryz.func41 rfl ?_;have key:(IV Tryz.f41).wp Tryz.prog (bodyPostD Tryz.prog Tryz.f41 (fun e w'=>∃v Δ,e=.returned v∧DD rs v Δ∧Below w.heap.size w w'∧aG Δ (fun b=>b<w.heap.size→I b) w')) {tmps:=([bz s,undef,fp tv,fp ev,undef,.func (.func 72) #[] #[fp tv,fp ev]]++List.replicate 17 undef).toArray,defers:=[{target:=.fn (.func 72) #[fp tv,fp ev],args:= #[]}]} w2:=by
  refine SM (T:=tbQ (∀t,rY rs≠some (t,[])) tv ev) (zf _ tv ev) (fun l a w h=>h) ?_ ?_ (IK s (rs:=rs) hlen tv ev _) (I:=fun b=>b<w.heap.size∧I b) ?_ (hh.up (fun _ hb h=>⟨hb,h⟩) (fun b hb _=>hold b hb) (by omega)) ?_ ?_ ?_
  ·rintro s' Γ' a w' ρ ⟨t,h',c',hp,t2,t3,o1,o2,hf⟩ hs;have r2:a.tmps.getD 2 undef=fp tv:=hs.tmps 2 _ t2;have r3:a.tmps.getD 3 undef=fp ev:=hs.tmps 3 _ t3;obtain⟨e1,_,q1⟩:=hs.own _ _ o1;obtain⟨e2,_,q2⟩:=hs.own _ _ o2;have hL:Leaves Tryz.prog Tryz.f41 a.tmps (fun e w'=>∃v Δ,e=.returned v∧DD rs v Δ∧Below w.heap.size w w'∧aG Δ (fun b=>b<w.heap.size→I b) w') a.defers .returning w':=by
    rw[hs.defers];refine leaves_cons (f:=72) (args:= #[fp tv,fp ev]) (by simp) (by simp[go_sem]) ?_;refine(H5 ⟨tv,0,none⟩ ⟨ev,0,none⟩ w').mono ?_;rintro e u' w'' ⟨rfl,rfl,rfl⟩;refine⟨_,Bt r2 r3 q1 q2,_,[Hy h' c' t],rfl,.inl ⟨t,h',c',hp,rfl,rfl⟩,YO hs.below.os hs.below.tape hs.below.output hs.below.size (fun k k1 k2 k3=>hs.below.block k k1 (fun hx=>((hX k).1 hx).elim k2 k3)),?_⟩;refine(hf _ _ hs.dataOK hs.facts).up (fun b _ hI hb=>?_) (fun _ _ _=>rfl) (ai _);rcases hI.1 (by omega)with h|h
    ·exact h.2
    ·rcases(hX b).1 h with h|h<;>omega
   exact⟨hL,hL⟩
  ·rintro ch a w' ⟨hB,rfl⟩ abO hk ⟨ks,own,⟨rfl,⟨x,y,m1⟩,z,m2⟩,hown,htm⟩;have r2:a.tmps.getD 2 undef=fp tv:=htm (2,fp tv) (.head _);have r3:a.tmps.getD 3 undef=fp ev:=htm (3,fp ev) (.tail _ (.head _));obtain⟨e1,_,q1⟩:=hown _ _ m1;obtain⟨e2,_,q2⟩:=hown _ _ m2;show Leaves Tryz.prog Tryz.f41 a.tmps _ a.defers _ w';rw[abO];refine leaves_cons (f:=72) (args:= #[fp tv,fp ev]) (by simp) (by simp[go_sem]) ?_;refine(FE tv ev w' x y z e1 e2 q1 q2 hne).mono ?_;rintro e u' w'' ⟨rfl,rfl,rfl⟩;have a1:=kB (x:=.cells #[] 149) q1;have a2:=kB (x:=.cells #[] 149) q2;have b1:=jm (o:=1) (v:=.slice none 0 0) (jm (o:=0) (v:=.slice none 0 0) a1);have d1:(uB tv ev w').heap[tv]? =some (.cells #[.slice none 0 0,.slice none 0 0] e1 (0,0)):=(eS hne).trans b1;have d2:(uB tv ev w').heap[ev]? =some (.cells #[.int .i64 20] e2 (0,0)):=jm ((eS (fun e=>hne e.symm)).trans ((eS (fun e=>hne e.symm)).trans a2));refine⟨_,Bt r2 r3 d1 d2,_,[],rfl,.inr ⟨hB,rfl,rfl⟩,YO hk.os hk.tape hk.output (by simp only[uB,pK,World.size_alloc];have:=hk.size;omega) (fun k k1 k2 k3=>?_),aG.nil _ _⟩;unfold uB;rw[eS k3,eS k2,eS k2,jA (by have:=hk.size;omega)];exact hk.block k k1 (fun hx=>((hX k).1 hx).elim k2 k3)
  ·intro b cs e f hb he;by_cases h0:b<w.heap.size
   ·rw[hold b h0]at hb;exact⟨h0,hd b cs e f hb he⟩
   ·by_cases h1:b=tv
    ·rw[h1,g1]at hb;injection hb with hb;injection hb with _ hb _;subst hb;exact absurd (show tb.dat 25=true from he) (by decide+kernel)
    ·by_cases h2:b=ev
     ·rw[h2,g2]at hb;injection hb with hb;injection hb with _ hb _;subst hb;exact absurd (show tb.dat 33=true from he) (by decide+kernel)
     ·have:=cu hb;omega
  ·intro b cs hb;simp only[aD,aI,aC,bp]at hb;rcases hb with⟨rfl,rfl⟩|⟨rfl,rfl⟩
   ·exact⟨_,(by decide+kernel:tb.dat 25=false),g1⟩
   ·exact⟨_,(by decide+kernel:tb.dat 33=false),g2⟩
  ·simp[hne]
  ·intro b hb hI;rcases(hX b).1 hb with h|h<;>(have:=hI.1;omega)
 refine wp_seq (wp_region ?_);show wpOps Tryz.prog _ _ [0,1] _ _;refine tG (v:=fp tv) (w':=w1) rfl rfl (by rw[htv,hw1];kernel_rfl) ?_;refine tG (v:=fp ev) (w':=w2) rfl rfl (by rw[hev,hw2];kernel_rfl) ?_;refine wp_seq (wp_region ?_);show wpOps Tryz.prog _ _ [0,1] _ _;refine tG (v:=.func (.func 72) #[] #[fp tv,fp ev]) (w':=w2) rfl rfl (by kernel_rfl) ?_;refine Vr (d:={target:=.fn (.func 72) #[fp tv,fp ev],args:= #[]}) (w':=w2) rfl rfl ?_;refine Eq.mp ?_ key;kernel_rfl
end
section
variable{Γ:List aE}
theorem R_(h c:Sl){t:Li} [hF:aZ (Hy h c) t Γ](hl:(jr t).length≤100000):au tb Tryz.prog 27 [mq h c] Γ (jv (.bool (valid t))):=by
 refine au.of_W aB Tryz.func27 rfl ?_;refine aj [] (Wr h c (t:=t) hl) ?_;rintro _ _ ⟨u,rfl,rfl⟩;refine aj [] (OO u (rs:=jr t) hl) ?_;rintro _ _ (⟨t2,h2,c2,hp,rfl,rfl⟩|⟨hno,rfl,rfl⟩)
 ·have hv:valid t=Ge t t2:=by unfold valid;rw[hp]
  refine bD [] 13 ((0:Int)==0) rfl ?_;refine aj [13] (Wu h c h2 c2 (x:=t) (y:=t2)) ?_;rintro _ _ ⟨rfl,rfl⟩;exact W.r [13] (.bool (Ge t t2)) ⟨by rw[hv],rfl⟩ bU
 ·have hv:valid t=false:=by
   unfold valid;split
   ·rename_i u' hq;exact absurd hq (hno _)
   ·rfl
  refine aS [] 13 ((20:Int)==0) rfl ?_;exact W.r [13] (.bool false) ⟨by rw[hv],rfl⟩ bU
end
end Go.Proofs.YtgaaopjagcaojaaGreat
