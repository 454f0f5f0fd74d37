import Derived.Test.YtgaaopjagcaojaaGreatLn
import Derived.Tactics
import Derived.Tactics2
import Derived.Defers
import Derived.Recover
import Derived.Laws.Pointers
set_option linter.unusedSimpArgs false
set_option linter.unusedVariables false
set_option maxHeartbeats 2000000
namespace Go.Proofs.YtgaaopjagcaojaaGreat
open Go.RowKit Go.IntWalk
abbrev pB:=@Go.World.size_setCell
def vT(z:Nat)(O:List (Nat×List Value))(v:Value)(n:Nat)(xs:List Value):Prop:=cH z O v n xs∨(O=[]∧n=0∧xs=[]∧∃b off,v=.slice (some ⟨b,off,none⟩) 0 0)
theorem vT.cast{z:Nat}{O:List (Nat×List Value)}{v:Value}{n n':Nat}{xs xs':List Value}(hx:xs=xs')(hn:n=n')(h:vT z O v n xs):vT z O v n' xs':=by
 subst hx hn;exact h
section
variable{T:Tb}{P:Program}{fin:VS→List aC→Prop}{c:fC}{Γ:List aC}
theorem vt(D:List Nat)(O:List (Nat×List Value))(z bytes n m:Nat)(v x:Value)(xs news:List Value)(hT:T.Ok P)
   (hg:vT z O v n xs)(hx:qA T Γ O x m z news)(h1:∀u∈news,u.oneCell'=true)
  (hn:n+m≤1000000)(hb:bytes≤100000000)
  (hk:∀v' O',vT z O' v' (n+m) (xs++news)→W T P fin (mR (aK T (aZ T D 999 c)) O' v') Γ)(h:pQ T (aK T (aZ T D 999 c))=some (O,z,bytes,v,x):=by kernel_rfl):W T P fin c Γ:=by
 rcases hg with hg|⟨rfl,rfl,rfl,b,off,rfl⟩
 ·refine W.app D O [] O [] z bytes n m v x xs news hT (h:=h) (by simp) hg hx h1 hn hb (fun v' O' hg'=>?_);have:=hk v' O' (.inl hg');rw[aB,ah];exact this
 ·refine Tj D [] z bytes m b off x news hT h hx (by omega) hb (fun h0=>?_) (fun g cap cur hp h2 h3 h4 h5=>?_)
  ·subst h0;obtain⟨ao,cc,_,hl,_⟩:=hx;have:news=[]:=aM (by simpa using hl);subst this;exact hk _ _ (.inr ⟨rfl,rfl,rfl,b,off,rfl⟩)
  ·obtain⟨ao,cc,_,hl,_⟩:=hx;refine hk _ _ (.inl ⟨by rw[aB,hl,cu],.inr ⟨g,cap,cur,by rw[cu],rfl,by omega,h3,h4,by rw[aB,cu];exact h5⟩⟩)
theorem U0{z n:Nat}(O:List (Nat×List Value)){v:Value}{xs:List Value}(hg:vT z O v n xs)
  (hk:∀s:Sl,v=a_ s→s.n=n→s.n≤s.c→s.c≤maxLen→W T P fin ⟨(dD T 999 c).s.setOwn [],(dD T 999 c).k⟩ (RA s.ao xs::Γ))(ho:(dD T 999 c).s.own=O:=by kernel_rfl)(hm:dz (dD T 999 c).k=false:=by kernel_rfl):W T P fin c Γ:=by
 rcases hg with hg|⟨rfl,rfl,rfl,b,off,rfl⟩
 ·refine mL [] O [] (by rw[ah];exact ho) hg (hm:=hm) (fun ao c' hv h1 h2=>?_);exact hk ⟨ao,n,c'⟩ hv rfl h1 h2
 ·refine W.code 999 ?_;generalize(dD T 999 c)=c1 at*;obtain⟨s,k⟩:=c1;refine W.elim (α:=Unit) (fun _=>True) (fun _=>[RA (some ⟨b,off,none⟩) []]) hm (fun I w _ hh=>⟨(),trivial,aU (RA.nil _ _ _)⟩) (fun _ _=>?_);have:=hk ⟨some ⟨b,off,none⟩,0,0⟩ rfl rfl (aj _) (aJ _);have ho:s.own=[]:=ho;rw[show s.setOwn []=s from by rw[←ho];rfl]at this;exact this
theorem p7(O:List (Nat×List Value))(hk:W T P fin ⟨(dD T 999 c).s.setOwn O,(dD T 999 c).k⟩ Γ)(ho:(dD T 999 c).s.own=O++[]:=by kernel_rfl):W T P fin c Γ:=by
 refine W.code 999 ?_;rw[ah]at ho;rw[←ho]at hk;exact hk
theorem I5(s:Sl){l:List Re} [h:aY (kH s) l Γ](hm:dz c.k=false)(hc:∀es:List dp,es.map dp.r=l→s.n=es.length→(0<s.n→∃b off,s.ao=some ⟨b,off,none⟩)→W T P fin c (RA s.ao (es.flatMap c_.cells)::iG (a_ s) es::Γ)):W T P fin c Γ:=
 W.elim (α:=List dp) (fun es=>es.map dp.r=l∧s.n=es.length∧(0<s.n→∃b off,s.ao=some ⟨b,off,none⟩)) (fun es=>[RA s.ao (es.flatMap c_.cells),iG (a_ s) es]) hm (fun I w _ hh=>by
  obtain⟨es,rfl,h2,_,h4,h5⟩:=h.p hh;rw[bT]at h2;refine⟨es,⟨rfl,h2,fun hp=>?_⟩,aE.cons h5 (aU h4)⟩;obtain⟨b,off,ha,_⟩:=h5 (by
   cases es with
   |nil=>simp at h2;omega
   |cons e r=>simp[c_])
  exact⟨b,off,ha⟩) (fun es hq=>hc es hq.1 hq.2.1 hq.2.2)
theorem w_(s:Sl){es:List dp} [h:aY (RA s.ao) (es.flatMap c_.cells) Γ](own:List (Nat×List Value))(hn:s.n=es.length)(ha:0<s.n→∃b off,s.ao=some ⟨b,off,none⟩):qA T Γ own (a_ s) s.n 3 (es.flatMap c_.cells):=
 GS s.ao own s.n 3 s.c (by rw[SJ,hn]) ha
theorem Ep{k:Int}(hk:k=17∨k=7∨k=4)(I:fN)(w:World):(xu ⟨none,0,0⟩ (l_ k)).p I w:=by
 refine⟨?_,⟨Int.le_refl _,(by decide:(0:Int)<256)⟩,sQ _ _ _⟩;rcases hk with rfl|rfl|rfl<;>exact⟨by decide,by decide⟩
end
theorem DH(k:Int):∀u∈([.int .u8 k,.int .u8 0,.slice none 0 0]:List Value),u.oneCell'=true:=by
 intro u hu;simp only[aH,aI,bU]at hu;rcases hu with rfl|rfl|rfl<;>rfl
theorem RD(t:Li){i:Nat}{c:Ce}(h:t.c[i]? =some c):(t.h++(t.c.take i).flatMap fS++fS c).length≤(iH t).length:=by
 obtain⟨h1,h2⟩:=List.getElem?_eq_some_iff.1 h;have e:t.c=t.c.take i++c::t.c.drop (i+1):=by
  rw[←h2,←bz h1,jM]
 have e2:iH t=t.h++((t.c.take i++c::t.c.drop (i+1)).flatMap fS++[l_ 4]):=by rw[←e];rfl
 rw[e2];simp only[bB,bL,aA];omega
theorem Nt(c:Ce){i:Nat}{x:Im}(h:c.i[i]? =some x):(c.h++(c.i.take i).flatMap fD++fD x).length≤(fS c).length:=by
 obtain⟨h1,h2⟩:=List.getElem?_eq_some_iff.1 h;have e:c.i=c.i.take i++x::c.i.drop (i+1):=by
  rw[←h2,←bz h1,jM]
 have e2:fS c=c.h++((c.i.take i++x::c.i.drop (i+1)).flatMap fD++[l_ 7]):=by rw[←e];rfl
 rw[e2];simp only[bB,bL,aA];omega
theorem fr{α:Type}{l:List α}{i:Nat}{a:α}(h:l[i]? =some a):l.take (i+1)=l.take i++[a]:=by
 rw[List.take_add_one,h];rfl
structure Yx where
 i:Nat
 z:Int
 v:Value
 O:List (Nat×List Value)
 es:List dp
section
variable{Γ:List aC}
theorem O7(s:Sl){l:List Re} [h:aY (kH s) l Γ](hl:l.length≤1000000):
  j6 tb Tryz.prog 74 [a_ s] Γ (fun v O Δ=>∃es:List dp,es.map dp.r=l∧vT 3 O v es.length (es.flatMap c_.cells)∧Δ=[iG v es]):=by
 refine j6.of_W az Tryz.func74 rfl ?_;refine I5 s rfl (fun es he hn ha=>?_);have hlen:es.length≤1000000:=by rw[←he,bT]at hl;exact hl
 refine MD [] s.ao 22 45 Tryz.underlying22 ?_;refine W.d [] 4 s.ao.isNone (fun h0=>?_) (fun h0=>?_)
 ·have hb:es=[]:=Classical.byContradiction fun hne=>by
   obtain⟨bb,off,e⟩:=ha (by rw[hn];exact List.length_pos_iff.2 hne);rw[e]at h0;simp at h0
  subst hb;exact YN [4] (.slice none 0 0) [] ⟨[],he,.inl (cH.nil 3),rfl⟩ (eC (fun I w hd hh e he=>by simp at he) eE)
 ·refine Tk [4] az (fun b1=>?_);refine vt [] [] 3 32 0 s.n (.slice (some ⟨b1,0,none⟩) 0 0) (a_ s) [] (es.flatMap c_.cells) az (.inr ⟨rfl,rfl,rfl,b1,0,rfl⟩) (w_ s [] hn ha) (je es) (by omega) (by decide) (fun v' O' hg'=>?_);exact YN [] v' O' ⟨es,he,hg'.cast (by simp) (by omega),rfl⟩ (eC (fun I w hd hh=>eK (k:=iG (a_ s)) I w hd hh) eE)
theorem WN(h c:Sl){t:Li} [hF:aY (B8 h c) t Γ](hl:(iH t).length≤100000):
  aw tb Tryz.prog 42 [lO h c] Γ (fun v Δ=>∃u:Sl,v=a_ u∧Δ=[kH u (iH t)]):=by
 have hh0:t.h.length≤1000000:=by
  have:(iH t).length=t.h.length+((t.c.flatMap fS).length+1):=by simp[iH]
  omega
 refine aw.of_W az Tryz.func42 rfl ?_;obtain⟨ca,cn,cc⟩:=c;refine W.more (Δ:=[kH h t.h]) rfl (fun I w _ hh=>aU (hF.p hh).1) ?_;refine W.more (Δ:=[lC ⟨ca,cn,cc⟩ t.c]) rfl (fun I w _ hh=>aU (aY.p (k:=B8 h ⟨ca,cn,cc⟩) (a:=t) inferInstance hh).2) ?_;refine W.len lF pd.x ⟨ca,cn,cc⟩ rfl (fun h1 h2 h3=>?_);simp only at h1 h2 h3;refine YK [] (O7 h (l:=t.h) hh0) ?_;rintro v0 O0 _ ⟨e0,VQ,hg0,rfl⟩;refine p7 O0 ?_;refine gO [] [3,14] (fun a:Yx=>[(3,a.v),(14,.int .i64 a.z)]) (fun _=>[]) (fun a=>a.O) (fun a=>[lC ⟨ca,cn,cc⟩ t.c,iG a.v a.es]) (fun a=>a.z=a.i∧a.i≤cn∧a.es.map dp.r=t.h++(t.c.take a.i).flatMap fS∧vT 3 a.O a.v a.es.length (a.es.flatMap c_.cells)) (fun a=>cn-a.i) ⟨0,0,v0,O0,e0⟩ ⟨rfl,aJ _,by simp[VQ],hg0⟩ (eC eK (eC eK eE)) ?_;rintro⟨i,z,v,O,es⟩ K ⟨hz,hi,he,hg⟩ close;simp only at hz hi he hg;have hel:es.length=(t.h++(t.c.take i).flatMap fS).length:=by rw[←he,bT]
 by_cases hlt:i<cn
 ·obtain⟨x,hx⟩:∃x,t.c[i]? =some x:=⟨_,ak (by omega)⟩;have hb:=RD t hx;rw[aA,←hel]at hb;refine uR ⟨ca,cn,cc⟩ hx (fun b off fh fi ha=>?_);simp only at ha;subst ha;refine W.more (Δ:=[kH fh x.h]) rfl (fun I w _ hh=>aU (aY.p (k:=za fh fi) (a:=x) inferInstance hh).1) ?_;refine W.more (Δ:=[qy fi x.i]) rfl (fun I w _ hh=>aU (aY.p (k:=za fh fi) (a:=x) inferInstance hh).2) ?_;obtain⟨ia,im,ic⟩:=fi;refine W.len pX ph.x ⟨ia,im,ic⟩ rfl (fun i1 i2 i3=>?_);simp only at i1 i2 i3;refine I5 fh rfl (fun eh hhe QJ hha=>?_);have N7:(fS x).length=eh.length+((x.i.flatMap fD).length+1):=by rw[fS,aA,aA,←hhe,bT];rfl
  refine bk [] 15 (decide (z<(cn:Int))) (ar (by omega)) ?_;refine bY [15] 2 b off cn cc .i64 i z hz az hlt ?_;refine cY [] b (off+i*2) [a_ fh,.slice ia im ic] az (cB b (off+i*2)) ?_;refine vt [] O 3 32 es.length fh.n v (a_ fh) (es.flatMap c_.cells) (eh.flatMap c_.cells) az hg (w_ fh O QJ hha) (je eh) (by omega) (by decide) (fun v1 O1 hg1=>?_);refine gO [] [3,25] (fun a:Yx=>[(3,a.v),(25,.int .i64 a.z)]) (fun _=>[]) (fun a=>a.O) (fun a=>[lC ⟨some ⟨b,off,none⟩,cn,cc⟩ t.c,qy ⟨ia,im,ic⟩ x.i,iG a.v a.es]) (fun a=>a.z=a.i∧a.i≤im∧a.es.map dp.r=t.h++(t.c.take i).flatMap fS++(x.h++(x.i.take a.i).flatMap fD)∧vT 3 a.O a.v a.es.length (a.es.flatMap c_.cells)) (fun a=>im-a.i) ⟨0,0,v1,O1,es++eh⟩ ⟨rfl,aJ _,by simp[he,hhe],hg1.cast (by simp) (by simp[QJ])⟩ (eC eK (eC eK (eC (fun I w hd hh=>iG.app (v:=v1) (eK (k:=iG v) I w hd hh) (eK (k:=iG (a_ fh)) I w hd hh)) eE))) ?_;rintro⟨j,zj,vj,Oj,ej⟩ K2 ⟨Yi,hj,Zz,hgj⟩ iu;simp only at Yi hj Zz hgj;have acF:ej.length=es.length+(x.h++(x.i.take j).flatMap fD).length:=by rw[hel,←aA,←Zz,bT]
  by_cases ZS:j<im
  ·obtain⟨y,hy⟩:∃y,x.i[j]? =some y:=⟨_,ak (by omega)⟩;have FC:=Nt x hy;rw[aA]at FC;refine vV ⟨ia,im,ic⟩ hy (fun b2 oU yf yp ha=>?_);simp only at ha;subst ha;refine W.more (Δ:=[kH yf y.f]) rfl (fun I w _ hh=>aU (aY.p (k:=mK yf yp) (a:=y) inferInstance hh).1) ?_;refine W.more (Δ:=[kH yp y.p]) rfl (fun I w _ hh=>aU (aY.p (k:=mK yf yp) (a:=y) inferInstance hh).2) ?_;refine I5 yf rfl (fun ef hfe EG hfa=>?_);refine I5 yp rfl (fun ep QM y9 Z1=>?_);have hyl:(fD y).length=ef.length+(ep.length+1):=by rw[fD,aA,aA,←hfe,←QM,bT,bT];rfl
   refine bk [] 26 (decide (zj<(im:Int))) (ar (by omega)) ?_;refine bY [26] 2 b2 oU im ic .i64 j zj Yi az ZS ?_;refine cY [] b2 (oU+j*2) [a_ yf,a_ yp] az (cB b2 (oU+j*2)) ?_;refine vt [] Oj 3 32 ej.length yf.n vj (a_ yf) (ej.flatMap c_.cells) (ef.flatMap c_.cells) az hgj (w_ yf Oj EG hfa) (je ef) (by omega) (by decide) (fun v2 O2 hg2=>?_);refine vt [] O2 3 32 (ej.length+yf.n) yp.n v2 (a_ yp) (ej.flatMap c_.cells++ef.flatMap c_.cells) (ep.flatMap c_.cells) az hg2 (w_ yp O2 y9 Z1) (je ep) (by omega) (by decide) (fun v3 O3 Av=>?_);refine cQ [] 1 [.int .u8 17,.int .u8 0,.slice none 0 0] az (fun b4=>?_);refine vt [] O3 3 32 (ej.length+yf.n+yp.n) 1 v3 (.slice (some ⟨b4,0,none⟩) 1 1) (ej.flatMap c_.cells++ef.flatMap c_.cells++ep.flatMap c_.cells) [.int .u8 17,.int .u8 0,.slice none 0 0] az Av (b_ b4 _ 1 3 rfl 1) (DH 17) (by omega) (by decide) (fun v4 O4 Jw=>?_);refine iu [] _ _ ⟨j+1,IntKind.i64.wrap (zj+1),v4,O4,ej++(ef++(ep++[⟨⟨none,0,0⟩,l_ 17⟩]))⟩ (by kernel_rfl) (by kernel_rfl) ⟨by simp only[af];omega,ZS,?_,Jw.cast (by simp[c_,l_]) (by simp[EG,y9];omega)⟩ (by simp only;omega) (eC eK (eC eK (eC (fun I w hd hh=>iG.app (v1:=vj) (eK (k:=iG vj) I w hd hh) (iG.app (v:=vj) (eK (k:=iG (a_ yf)) I w hd hh) (iG.app (v:=vj) (eK (k:=iG (a_ yp)) I w hd hh) (iG.one (v:=vj) (Ep (.inl rfl) I w))))) eE)))
   rw[fr hy];simp[Zz,hfe,QM,fD]
  ·have hjx:j=x.i.length:=by omega
   refine aR [] 26 (decide (zj<(im:Int))) (ai (by omega)) ?_;refine cQ [26] 1 [.int .u8 7,.int .u8 0,.slice none 0 0] az (fun b4=>?_);refine vt [] Oj 3 32 ej.length 1 vj (.slice (some ⟨b4,0,none⟩) 1 1) (ej.flatMap c_.cells) [.int .u8 7,.int .u8 0,.slice none 0 0] az hgj (b_ b4 _ 1 3 rfl 1) (DH 7) (by
    rw[aS (l:=x.i) (by omega),aA,←hhe,bT]at acF;omega) (by decide) (fun v4 O4 Jw=>?_)
   refine close [] _ _ ⟨i+1,IntKind.i64.wrap (z+1),v4,O4,ej++[⟨⟨none,0,0⟩,l_ 7⟩]⟩ (by kernel_rfl) (by kernel_rfl) ⟨by simp only[af];omega,hlt,?_,Jw.cast (by simp[c_,l_]) (by simp)⟩ (by simp only;omega) (eC eK (eC (fun I w hd hh=>iG.app (v1:=vj) (eK (k:=iG vj) I w hd hh) (iG.one (v:=vj) (Ep (.inr (.inl rfl)) I w))) eE));rw[fr hx];rw[aS (l:=x.i) (by omega)]at Zz;simp[Zz,fS]
 ·have QK:i=t.c.length:=by omega
  have Ya:(iH t).length=es.length+1:=by
   rw[hel,aS (by omega)];simp[iH];omega
  refine aR [] 15 (decide (z<(cn:Int))) (ai (by omega)) ?_;refine cQ [15] 1 [.int .u8 4,.int .u8 0,.slice none 0 0] az (fun b4=>?_);refine vt [] O 3 32 es.length 1 v (.slice (some ⟨b4,0,none⟩) 1 1) (es.flatMap c_.cells) [.int .u8 4,.int .u8 0,.slice none 0 0] az hg (b_ b4 _ 1 3 rfl 1) (DH 4) (by omega) (by decide) (fun v4 O4 Jw=>?_);refine U0 O4 Jw (fun u hv g5 g1 g2=>?_);subst hv;refine W.r [] (a_ u) ⟨u,rfl,rfl⟩ (eC (fun I w hd hh=>?_) eE);have e:iH t=(es++[(⟨⟨none,0,0⟩,l_ 4⟩:dp)]).map dp.r:=by
   rw[aS (by omega)]at he;simp[iH,he]
  rw[e];refine lW (v:=v) (es:=es++[(⟨⟨none,0,0⟩,l_ 4⟩:dp)]) (by simp[g5]) g1 g2 (iG.app (v1:=v) (eK (k:=iG v) I w hd hh) (iG.one (v:=v) (Ep (.inr (.inr rfl)) I w))) ?_;have:=eK (k:=RA u.ao) I w hd hh;simpa [c_,l_]using this
end
theorem AQ:∀{l m:List Im},jE l m=true→l.length=m.length
 | [],[],_=>rfl
 |x::l,y::m,h=>by
  simp only[jE,aL]at h;simp[AQ h.2]
 | [],_::_,h=>by simp[jE]at h
 |_::_,[],h=>by simp[jE]at h
theorem AP:∀{l m:List Ce},jD l m=true→l.length=m.length
 | [],[],_=>rfl
 |x::l,y::m,h=>by
  simp only[jD,aL]at h;simp[AP h.2]
 | [],_::_,h=>by simp[jD]at h
 |_::_,[],h=>by simp[jD]at h
theorem ry(n m:Nat):((n:Int)==(m:Int))=(n==m):=by
 by_cases h:n=m
 ·subst h;simp
 ·rw[beq_eq_false_iff_ne.2 h,beq_eq_false_iff_ne.2 (by omega)]
section
variable{Γ:List aC}
theorem Ss(a b c d:Sl){x y:Im} [h1:aY (mK a b) x Γ] [h2:aY (mK c d) y Γ]:aw tb Tryz.prog 78 [lO a b,lO c d] Γ (jf (.bool (wK x y))):=by
 refine aw.of_W az Tryz.func78 rfl ?_;refine p6 (a.n=x.f.length∧b.n=x.p.length∧c.n=y.f.length∧d.n=y.p.length) rfl (fun I w _ hh=>by
  obtain⟨⟨_,_,e1,_⟩,_,_,e2,_⟩:=h1.p hh;obtain⟨⟨_,_,e3,_⟩,_,_,e4,_⟩:=h2.p hh;exact⟨e1,e2,e3,e4⟩) (fun⟨e1,e2,e3,e4⟩=>?_)
 have hl:wK x y=((a.n==c.n)&&(b.n==d.n)):=by rw[e1,e2,e3,e4];rfl
 refine W.d [] 12 ((a.n:Int)==(c.n:Int)) (fun hb=>?_) (fun hb=>?_)
 ·exact W.r [12] (.bool ((b.n:Int)==(d.n:Int))) ⟨by rw[hl,←ry,hb,dH,ry],rfl⟩ bR
 ·exact W.r [12] (.bool false) ⟨by rw[hl,←ry,hb];rfl,rfl⟩ bR
theorem aaw(a b:Sl){l m:List Im} [h1:aY (qy a) l Γ] [h2:aY (qy b) m Γ]:aw tb Tryz.prog 77 [a_ a,a_ b,.func (.func 78) #[] #[]] Γ (jf (.bool (jE l m))):=by
 refine aw.of_W az Tryz.func77 rfl ?_;obtain⟨aa,an,ac⟩:=a;obtain⟨ba,bn,bc⟩:=b;refine W.len pX ph.x ⟨aa,an,ac⟩ rfl (fun g1 g2 g3=>?_);refine W.len pX ph.x ⟨ba,bn,bc⟩ rfl (fun k1 k2 k3=>?_);simp only at g1 g2 g3 k1 k2 k3;by_cases hne:an=bn
 ·refine aR [] 14 ((an:Int) != (bn:Int)) (by simp[hne]) ?_;refine yZ [14] [6,17] (fun q:Nat×Int=>[(6,.bool false),(17,.int .i64 q.2)]) (fun _=>[]) (fun _=>[qy ⟨aa,an,ac⟩ l,qy ⟨ba,bn,bc⟩ m]) (fun q=>q.2=q.1∧q.1≤an∧jE (l.drop q.1) (m.drop q.1)=jE l m) (fun q=>an-q.1) (0,0) ⟨rfl,aJ _,rfl⟩ (eC eK (eC eK eE)) ?_;rintro⟨i,z⟩ K ⟨hz,hi,fI⟩ close;simp only at hz hi fI;by_cases hlt:i<an
  ·obtain⟨x,hx⟩:∃x,l[i]? =some x:=⟨_,ak (by omega)⟩;obtain⟨y,hy⟩:∃y,m[i]? =some y:=⟨_,ak (by omega)⟩;rw[ib hx,ib hy,jE]at fI;refine vV ⟨aa,an,ac⟩ hx (fun b1 o1 f1 p1 ha=>?_);refine vV ⟨ba,bn,bc⟩ hy (fun b2 o2 f2 p2 hb=>?_);simp only at ha hb;subst ha hb;refine bk [] 18 (decide (z<(an:Int))) (ar (by omega)) ?_;refine bY [18] 2 b1 o1 an ac .i64 i z hz az hlt ?_;refine cY [] b1 (o1+i*2) [a_ f1,a_ p1] az (cB b1 (o1+i*2)) ?_;refine bY [] 2 b2 o2 bn bc .i64 i z hz az (by omega) ?_;refine cY [] b2 (o2+i*2) [a_ f2,a_ p2] az (cB b2 (o2+i*2)) ?_;refine aq [] (Ss f1 p1 f2 p2 (x:=x) (y:=y)) ?_;rintro _ _ ⟨rfl,rfl⟩;refine W.d [] 30 (!wK x y) (fun hb=>?_) (fun hb=>?_)
   ·exact W.r [30] (.bool false) ⟨by rw[←fI,(by simpa using hb:wK x y=false)];rfl,rfl⟩ bR
   ·refine close [30] _ _ (i+1,IntKind.i64.wrap (z+1)) (by kernel_rfl) (by kernel_rfl) ⟨by simp only[af];omega,hlt,?_⟩ (by simp only;omega) (eC eK (eC eK eE));rw[←fI,(by simpa using hb:wK x y=true),dH]
  ·refine aR [] 18 (decide (z<(an:Int))) (ai (by omega)) ?_;refine W.r [18] (.bool true) ⟨?_,rfl⟩ bR;rw[←fI,bp (by omega),bp (by omega)];rfl
 ·refine bk [] 14 ((an:Int) != (bn:Int)) (bne_iff_ne.2 (fun h=>hne (by omega))) ?_;refine W.r [14] (.bool false) ⟨?_,rfl⟩ bR;cases hq:jE l m with
  |false=>rfl
  |true=>exact absurd (by rw[g1,k1];exact AQ hq) hne
theorem Sr(a b c d:Sl){x y:Ce} [h1:aY (za a b) x Γ] [h2:aY (za c d) y Γ]:aw tb Tryz.prog 76 [lO a b,lO c d] Γ (jf (.bool (wJ x y))):=by
 refine aw.of_W az Tryz.func76 rfl ?_;refine p6 (a.n=x.h.length∧c.n=y.h.length) rfl (fun I w _ hh=>by
  obtain⟨⟨_,_,e1,_⟩,_⟩:=h1.p hh;obtain⟨⟨_,_,e3,_⟩,_⟩:=h2.p hh;exact⟨e1,e3⟩) (fun⟨e1,e3⟩=>?_)
 have hl:wJ x y=((a.n==c.n)&&(jE x.i y.i)):=by rw[e1,e3];rfl
 refine W.more (Δ:=[qy b x.i]) rfl (fun I w _ hh=>aU (aY.p (k:=za a b) (a:=x) inferInstance hh).2) ?_;refine W.more (Δ:=[qy d y.i]) rfl (fun I w _ hh=>aU (aY.p (k:=za c d) (a:=y) inferInstance hh).2) ?_;refine W.d [] 12 ((a.n:Int)==(c.n:Int)) (fun hb=>?_) (fun hb=>?_)
 ·refine aq [12] (aaw b d (l:=x.i) (m:=y.i)) ?_;rintro _ _ ⟨rfl,rfl⟩;exact W.r [12] (.bool (jE x.i y.i)) ⟨by rw[hl,←ry,hb,dH],rfl⟩ bR
 ·exact W.r [12] (.bool false) ⟨by rw[hl,←ry,hb];rfl,rfl⟩ bR
theorem aav(a b:Sl){l m:List Ce} [h1:aY (lC a) l Γ] [h2:aY (lC b) m Γ]:aw tb Tryz.prog 75 [a_ a,a_ b,.func (.func 76) #[] #[]] Γ (jf (.bool (jD l m))):=by
 refine aw.of_W az Tryz.func75 rfl ?_;obtain⟨aa,an,ac⟩:=a;obtain⟨ba,bn,bc⟩:=b;refine W.len lF pd.x ⟨aa,an,ac⟩ rfl (fun g1 g2 g3=>?_);refine W.len lF pd.x ⟨ba,bn,bc⟩ rfl (fun k1 k2 k3=>?_);simp only at g1 g2 g3 k1 k2 k3;by_cases hne:an=bn
 ·refine aR [] 14 ((an:Int) != (bn:Int)) (by simp[hne]) ?_;refine yZ [14] [6,17] (fun q:Nat×Int=>[(6,.bool false),(17,.int .i64 q.2)]) (fun _=>[]) (fun _=>[lC ⟨aa,an,ac⟩ l,lC ⟨ba,bn,bc⟩ m]) (fun q=>q.2=q.1∧q.1≤an∧jD (l.drop q.1) (m.drop q.1)=jD l m) (fun q=>an-q.1) (0,0) ⟨rfl,aJ _,rfl⟩ (eC eK (eC eK eE)) ?_;rintro⟨i,z⟩ K ⟨hz,hi,fI⟩ close;simp only at hz hi fI;by_cases hlt:i<an
  ·obtain⟨x,hx⟩:∃x,l[i]? =some x:=⟨_,ak (by omega)⟩;obtain⟨y,hy⟩:∃y,m[i]? =some y:=⟨_,ak (by omega)⟩;rw[ib hx,ib hy,jD]at fI;refine uR ⟨aa,an,ac⟩ hx (fun b1 o1 f1 p1 ha=>?_);refine uR ⟨ba,bn,bc⟩ hy (fun b2 o2 f2 p2 hb=>?_);simp only at ha hb;subst ha hb;refine bk [] 18 (decide (z<(an:Int))) (ar (by omega)) ?_;refine bY [18] 2 b1 o1 an ac .i64 i z hz az hlt ?_;refine cY [] b1 (o1+i*2) [a_ f1,a_ p1] az (cB b1 (o1+i*2)) ?_;refine bY [] 2 b2 o2 bn bc .i64 i z hz az (by omega) ?_;refine cY [] b2 (o2+i*2) [a_ f2,a_ p2] az (cB b2 (o2+i*2)) ?_;refine aq [] (Sr f1 p1 f2 p2 (x:=x) (y:=y)) ?_;rintro _ _ ⟨rfl,rfl⟩;refine W.d [] 30 (!wJ x y) (fun hb=>?_) (fun hb=>?_)
   ·exact W.r [30] (.bool false) ⟨by rw[←fI,(by simpa using hb:wJ x y=false)];rfl,rfl⟩ bR
   ·refine close [30] _ _ (i+1,IntKind.i64.wrap (z+1)) (by kernel_rfl) (by kernel_rfl) ⟨by simp only[af];omega,hlt,?_⟩ (by simp only;omega) (eC eK (eC eK eE));rw[←fI,(by simpa using hb:wJ x y=true),dH]
  ·refine aR [] 18 (decide (z<(an:Int))) (ai (by omega)) ?_;refine W.r [18] (.bool true) ⟨?_,rfl⟩ bR;rw[←fI,bp (by omega),bp (by omega)];rfl
 ·refine bk [] 14 ((an:Int) != (bn:Int)) (bne_iff_ne.2 (fun h=>hne (by omega))) ?_;refine W.r [14] (.bool false) ⟨?_,rfl⟩ bR;cases hq:jD l m with
  |false=>rfl
  |true=>exact absurd (by rw[g1,k1];exact AP hq) hne
theorem WR(a b c d:Sl){x y:Li} [h1:aY (B8 a b) x Γ] [h2:aY (B8 c d) y Γ]:aw tb Tryz.prog 43 [lO a b,lO c d] Γ (jf (.bool (F5 x y))):=by
 refine aw.of_W az Tryz.func43 rfl ?_;refine p6 (a.n=x.h.length∧c.n=y.h.length) rfl (fun I w _ hh=>by
  obtain⟨⟨_,_,e1,_⟩,_⟩:=h1.p hh;obtain⟨⟨_,_,e3,_⟩,_⟩:=h2.p hh;exact⟨e1,e3⟩) (fun⟨e1,e3⟩=>?_)
 have hl:F5 x y=((a.n==c.n)&&(jD x.c y.c)):=by rw[e1,e3];rfl
 refine W.more (Δ:=[lC b x.c]) rfl (fun I w _ hh=>aU (aY.p (k:=B8 a b) (a:=x) inferInstance hh).2) ?_;refine W.more (Δ:=[lC d y.c]) rfl (fun I w _ hh=>aU (aY.p (k:=B8 c d) (a:=y) inferInstance hh).2) ?_;refine W.d [] 12 ((a.n:Int)==(c.n:Int)) (fun hb=>?_) (fun hb=>?_)
 ·refine aq [12] (aav b d (l:=x.c) (m:=y.c)) ?_;rintro _ _ ⟨rfl,rfl⟩;exact W.r [12] (.bool (jD x.c y.c)) ⟨by rw[hl,←ry,hb,dH],rfl⟩ bR
 ·exact W.r [12] (.bool false) ⟨by rw[hl,←ry,hb];rfl,rfl⟩ bR
end
theorem Sc(w:World):(binOp BinOp.neq 20 .nilIface .nilIface).run Tryz.prog w=.ok (.bool false) w:=by kernel_rfl
theorem Hz(p q:Addr)(w:World):
  CallsD Tryz.prog 72 #[.pointer (some p),.pointer (some q)] .returning w fun e u' w'=>e=.returned (.tuple #[])∧u'=.returning∧w'=w:=by
 refine callsD_of_wpS Tryz.func72 rfl fun c₀ cs hu=>?_;apply wpS_seq;apply wpS_region;simp[wpOpsS,go_sem,recoverD,hu,Exit.thenS];apply wpS_seq;apply wpS_region;simp[wpOpsS,go_sem,Exit.thenS,Sc];refine wpS_cond (t:=false) (by simp[Act.eval,Array.replicate]) ?_;simp only[ij,dW];refine wpS_of_wp (wp_skip ?_);cases c₀
 simp_all [bodyPostS,results]
theorem Lt(w:World):(binOp BinOp.neq 20 (.iface 149 (.agg #[])) .nilIface).run Tryz.prog w=.ok (.bool true) w:=by kernel_rfl
theorem Qf(w:World):(Instr.typeAssert (.iface 149 (.agg #[])) 20 149 true).run Tryz.prog w=.ok (.tuple #[.agg #[],.bool true]) w:=by kernel_rfl
theorem iZ{w:World}{b o:Nat}{v:Value}{c:Array Value}{e:TypeId}(h:w.heap[b]? =some (.cells c e (0,0))):(w.setCell ⟨b,o,none⟩ v).heap[b]? =some (.cells (c.setIfInBounds o v) e (0,0)):=by
 simp[World.setCell,jL,h]
theorem eF{w:World}{b o k:Nat}{v:Value}(h:k≠b):(w.setCell ⟨b,o,none⟩ v).heap[k]? =w.heap[k]? :=by
 simp only[World.setCell,jL];rw[if_neg (fun e=>h e.symm)]
theorem nR{w:World}{b o:Nat}{c:Array Value}{e:TypeId}(h:w.heap[b]? =some (.cells c e (0,0))):w.cell? ⟨b,o,none⟩=c[o]? :=by simp[World.cell?,h]
theorem ug{w:World}{b o:Nat}{c:Array Value}{e:TypeId}(h:w.heap[b]? =some (.cells c e (0,0))):w.frozen? ⟨b,o,none⟩=false:=by simp[World.frozen?,h]
theorem kh{w:World}{x:Obj}{k:Nat}{y:Obj}(h:w.heap[k]? =some y):(w.alloc x).heap[k]? =some y:=by
 have:=(Array.getElem?_eq_some_iff.1 h).1;simp only[World.alloc];rw[Array.getElem?_push_lt this,←h];exact(Array.getElem?_eq_getElem this).symm
def tY(tb eb:Nat)(w:World):World:=((((w.alloc (.cells #[] 149)).setCell ⟨tb,0,none⟩ (.slice none 0 0)).setCell ⟨tb,1,none⟩ (.slice none 0 0)).setCell ⟨eb,0,none⟩ (.int .i64 20))
theorem Fi(tb eb:Nat)(w:World)(x y z:Value)(et ee:TypeId)(h1:w.heap[tb]? =some (.cells #[x,y] et (0,0)))(h2:w.heap[eb]? =some (.cells #[z] ee (0,0)))(hne:tb≠eb):
  CallsD Tryz.prog 72 #[.pointer (some ⟨tb,0,none⟩),.pointer (some ⟨eb,0,none⟩)] (.panicking [{v:=.iface 149 (.agg #[]),recovered:=false}]) w fun e u' w'=>e=.returned (.tuple #[])∧u'=.panicking [{v:=.iface 149 (.agg #[]),recovered:=true}]∧w'=tY tb eb w:=by
 have a1:=kh (x:=.cells #[] 149) h1;have a2:=kh (x:=.cells #[] 149) h2;have b1:=iZ (o:=0) (v:=.slice none 0 0) a1;have b2:((w.alloc (.cells #[] 149)).setCell ⟨tb,0,none⟩ (.slice none 0 0)).heap[eb]? =_:=(eF (fun e=>hne e.symm)).trans a2;have d2:(((w.alloc (.cells #[] 149)).setCell ⟨tb,0,none⟩ (.slice none 0 0)).setCell ⟨tb,1,none⟩ (.slice none 0 0)).heap[eb]? =_:=(eF (fun e=>hne e.symm)).trans b2;have c1:=nR (o:=0) a1;have z1:=ug (o:=0) a1;have c2:=nR (o:=1) b1;have z2:=ug (o:=1) b1;have c3:=nR (o:=0) d2;have z3:=ug (o:=0) d2;refine callsD_of_wpS Tryz.func72 rfl fun c₀ cs hu=>?_;apply wpS_seq;apply wpS_region;simp[wpOpsS,go_sem,recoverD,hu,Exit.thenS];apply wpS_seq;apply wpS_region;simp[wpOpsS,go_sem,Exit.thenS,Lt];refine wpS_cond (t:=true) (by simp[Act.eval,Array.replicate]) ?_;simp only[eX];apply wpS_seq;apply wpS_seq;apply wpS_region;simp[wpOpsS,go_sem,Exit.thenS,Qf,storeCells];apply wpS_seq;apply wpS_region;simp[wpOpsS,go_sem,Exit.thenS];refine wpS_cond (t:=false) (by simp[Act.eval,Array.replicate]) ?_;simp only[ij,dW];refine wpS_of_wp (wp_skip ?_);simp only[Exit.thenS];apply wpS_region;simp[wpOpsS,go_sem,Exit.thenS,c1,z1,c2,z2,c3,z3];simp[bodyPostS,results,tY]
theorem S9{T:Tb}{P:Program}{rc:Code}{tm:List Value}{nb:Nat}{Oin:List (Nat×List Value)}{I:fN}{w:World}{ds:List Deferred}{fin:VS→List aC→Prop}{Q:Exit→Act→World→Prop}{Γ:List aC}(hT:T.Ok P)(hQ:∀l a w,¬Q (.goto l) a w)
  (hfin:∀s Γ a w' ρ,fin s Γ→gW T w ⟨I,gC Oin [],ds⟩ Γ s a w' ρ→Q .normal a w'∧Q .ret a w')
  (uY:∀ch a w',T.pan ch→a.defers=ds→jV (gC Oin []) w w'→(∃ks own,T.held ks own∧gi T own w'∧∀x∈ks,a.tmps.getD x.1 undef=x.2)→Q (.panic ch) a w')
  (hW:W T P fin ⟨⟨tm.map .val,List.replicate nb none,Oin,[]⟩,[.code rc]⟩ Γ)(hd:br T I w)(hh:aE Γ I w)(ho:gi T Oin w)(hon:(Oin.map (·.1)).Nodup)(hx:∀b,gC Oin [] b→¬I b):
  rc.wp P Q {tmps:=tm.toArray,defers:=ds} w:=by
 have tq:∀(t:Nat) (cs:List Value),(List.replicate nb (none:Option (List Value)))[t]? =some (some cs)→False:=by
  intro t cs ht;rw[cV]at ht;split at ht<;>simp at ht
 have JB:gW T w ⟨I,gC Oin [],ds⟩ Γ ⟨tm.map .val,List.replicate nb none,Oin,[]⟩ {tmps:=tm.toArray,defers:=ds} w (fun _=>0):=by
  refine⟨rfl,by simp,fun i sv hi=>?_,jV.refl _ _,fun t cs ht=>(tq t cs ht).elim,fun t u cs cs' ht=>(tq t cs ht).elim,fun i t off hi=>?_,hd,hh.up (fun b hb hI=>⟨fun _=>.inl hI,fun t cs ht=>(tq t cs ht).elim,fun cs hc=>hx b (.inl ⟨cs,hc⟩) hI,fun m hm=>absurd hm (by simp)⟩) (fun _ _ _=>rfl) (aj _),ho,fun b cs hb=>.inr (.inl ⟨cs,hb⟩),fun b cs hb t cs' ht=>(tq t cs' ht).elim,hon,fun b m hb=>absurd hb (by simp),fun b m hb=>absurd hb (by simp),by simp⟩
  ·simp only[bM]at hi;cases hv:tm[i]? with
   |none=>rw[hv]at hi;simp at hi
   |some v=>
    rw[hv]at hi;simp only[dd,au]at hi;subst hi;simp[rel,dq,hv]
  ·simp only[bM]at hi;cases hv:tm[i]? with
   |none=>rw[hv]at hi;simp at hi
   |some v=>rw[hv]at hi;simp at hi
 have:=hW.sound (w0:=w) (I0:=⟨I,gC Oin [],ds⟩) (Q:=Q) hT hQ hfin uY rfl;rw[di rfl]at this;exact this _ w _ JB
theorem td{P:Program}{ops:Array Oper}{Q:Exit→Act→World→Prop}{i:Nat}{rest:List Nat}{o:Oper}{a:Act}{v:Value}{w w':World}(hi:ops[i]? =some o)(hg:o.guard=none)(hr:(execOp a.eval o).run P w=.ok (.value v) w')(hk:wpOps P ops Q rest (a.put o.dst v) w'):wpOps P ops Q (i::rest) a w:=by
 rw[wpOps_cons];unfold wpOp;rw[hi];simp only;rw[show Region.wanted o (yielded ops a.tmps)=true from by unfold Region.wanted;rw[hg],if_pos rfl];left;unfold Oper.wp;rw[hr];exact hk
theorem VJ{P:Program}{ops:Array Oper}{Q:Exit→Act→World→Prop}{i:Nat}{rest:List Nat}{o:Oper}{a:Act}{d:Deferred}{w w':World}(hi:ops[i]? =some o)(hg:o.guard=none)(hk:wpOps P ops Q rest ({a with defers:=d::a.defers}.put o.dst undef) w')(hr:(execOp a.eval o).run P w=.ok (.defer d) w':=by kernel_rfl):wpOps P ops Q (i::rest) a w:=by
 rw[wpOps_cons];unfold wpOp;rw[hi];simp only;rw[show Region.wanted o (yielded ops a.tmps)=true from by unfold Region.wanted;rw[hg],if_pos rfl];left;unfold Oper.wp;rw[hr];exact hk
section
variable{T:Tb}{P:Program}{fin:VS→List aC→Prop}{c:fC}{Γ:List aC}
theorem abv(D:List Nat)(hk:fin ((iT (aK T (aZ T D 999 c))).getD ⟨[],[],[],[]⟩) Γ)(h:(iT (aK T (aZ T D 999 c))).isSome=true:=by kernel_rfl):W T P fin c Γ:=by
 refine eg D 999 ?_;generalize aZ T D 999 c=c1 at*;cases he:aK T c1<;>rw[he]at h hk<;>simp[iT]at h hk;exact W.ret he hk
theorem UX(D:List Nat)(n:Nat)(v:Value)(ks:List (Nat×Value))(own:List (Nat×List Value))(hp:T.pan [{v,recovered:=false}])(hh:T.held ks own)(hk:∀x∈ks,k_ x.1 (Xb (aZ T D n c))=false∧(aZ T D n c).s.tmps[x.1]? =some (.val x.2))(h:wW T (aZ T D n c)=some v:=by kernel_rfl)(ho:(aZ T D n c).s.own=own:=by kernel_rfl):W T P fin c Γ:=
 W.pan D n v (h:=h) hp ⟨ks,by rw[ho];exact hh,hk⟩
end
def Dj(rs:List Re)(v:Value)(Δ:List aC):Prop:=
 (∃(t:Li) (h c:Sl),rJ rs=some (t,[])∧v=.tuple #[lO h c,.int .i64 0]∧Δ=[B8 h c t])∨((∀t,rJ rs≠some (t,[]))∧v=.tuple #[lO ⟨none,0,0⟩ ⟨none,0,0⟩,.int .i64 20]∧Δ=[])
abbrev tbQ(B:Prop)(tv ev:Nat):Tb:={rN B with pins:=[2,3],held:=fun ks own=>ks=[(2,fg tv),(3,fg ev)]∧(∃x y,(tv,[x,y])∈own)∧∃z,(ev,[z])∈own}
theorem yS(B:Prop)(tv ev:Nat):(tbQ B tv ev).Ok Tryz.prog:=⟨az.mixed,az.ty⟩
theorem dj.q{B:Prop}{tv ev:Nat}{f:FuncId}{args:List Value}{Oin:List (Nat×List Value)}{Min:List (Nat×List (Value×Value))}{Γ:List aC}{post:Value→List (Nat×List Value)→List (Nat×List (Value×Value))→List aC→Prop}(h:dj (rN B) Tryz.prog f args Oin Min Γ post):dj (tbQ B tv ev) Tryz.prog f args Oin Min Γ post:=h
def IP(fn:Func):Code:=match fn.body with
 |some (.seq _ (.seq _ c))=>c
 |_=>.skip
def UL(rs:List Re)(tv ev:Nat)(s:VS)(Γ:List aC):Prop:=
 ∃(t:Li) (h c:Sl),rJ rs=some (t,[])∧s.tmps[2]? =some (.val (fg tv))∧s.tmps[3]? =some (.val (fg ev))∧(tv,[a_ h,a_ c])∈s.own∧(ev,[.int .i64 0])∈s.own∧∀I w,br (tbQ True tv ev) I w→aE Γ I w→aE [B8 h c t] I w
theorem IF(s:Sl){rs:List Re}{Γ:List aC} [h:aY (kH s) rs Γ](hlen:rs.length≤100000)(tv ev:Nat)(fv:Value):
  W (tbQ (∀t,rJ rs≠some (t,[])) tv ev) Tryz.prog (UL rs tv ev) ⟨⟨([a_ s,undef,fg tv,fg ev,undef,fv]++List.replicate 17 undef).map .val,List.replicate 23 none,[(tv,[.slice none 0 0,.slice none 0 0]),(ev,[.int .i64 0])],[]⟩,[.code (IP Tryz.f41)]⟩ Γ:=by
 have hd0:rs.drop 0=rs:=rfl;refine W.len c_ dp.r s rfl (fun n1 n2 n3=>?_);refine uT 9 (fun pb=>?_);refine Mw [] [] (PO pb s 0) [(tv,[.slice none 0 0,.slice none 0 0]),(ev,[.int .i64 0])] [] [] [] ⟨rfl,by rfl⟩ ⟨[(2,fg tv),(3,fg ev)],⟨rfl,⟨_,_,.head _⟩,_,.tail _ (.head _)⟩,fun x hx=>by
  simp only[aH,aI,bU]at hx;rcases hx with rfl|rfl
  ·exact⟨rfl,by kernel_rfl⟩
  ·exact⟨rfl,by kernel_rfl⟩⟩ (by kernel_rfl) (by kernel_rfl) (by kernel_rfl) (aay (∀t,rJ rs≠some (t,[])) pb s 0 (rs:=rs) hlen (fun p_ t=>by rw[hd0]at p_;rw[p_];simp)).q ?_
 rintro _ _ _ _ ⟨t,hs,cs,yl,hp,rfl,rfl,rfl,rfl⟩;rw[hd0]at hp;refine nE [] ([]++(PO pb s yl++[(tv,[.slice none 0 0,.slice none 0 0]),(ev,[.int .i64 0])])) (PO pb s yl) [(ev,[.int .i64 0])] 2 tv 0 [.slice none 0 0,.slice none 0 0] (lO hs cs) [a_ hs,a_ cs] (yS _ tv ev) rfl rfl (by intro u hu;simp[Value.cells]at hu;rcases hu with rfl|rfl<;>rfl) (aj 2) rfl ?_;refine bW [] 0 pb 0 (yS _ tv ev) ?_;refine bW [] 1 pb (0+0) (yS _ tv ev) ?_;refine dK [] (PO pb s yl++(tv,[a_ hs,a_ cs])::[(ev,[.int .i64 0])]) pb (0+0+1) 1 [a_ s,.int .i64 (yl:Int)] (.int .i64 (yl:Int)) (yS _ tv ev) (.head _) rfl ?_;by_cases hlt:yl<s.n
 ·have hne:∀t,rJ rs≠some (t,[]):=fun t' e=>by
   rw[hp]at e;injection e with e;injection e with _ e;have:=dF List.length e;simp at this;omega
  refine bk [] 19 (decide ((yl:Int)<(s.n:Int))) (ar (by omega)) ?_;exact UX [19] 1 yg [(2,fg tv),(3,fg ev)] (PO pb s yl++(tv,[a_ hs,a_ cs])::[(ev,[.int .i64 0])]) ⟨hne,rfl⟩ ⟨rfl,⟨a_ hs,a_ cs,by simp⟩,.int .i64 0,by simp⟩ (fun x hx=>by
   simp only[aH,aI,bU]at hx;rcases hx with rfl|rfl
   ·exact⟨by kernel_rfl,by kernel_rfl⟩
   ·exact⟨by kernel_rfl,by kernel_rfl⟩)
 ·have hnil:rs.drop yl=[]:=bp (by omega);rw[hnil]at hp;refine aR [] 19 (decide ((yl:Int)<(s.n:Int))) (ai (by omega)) ?_;refine vW [19] (PO pb s yl++(tv,[a_ hs,a_ cs])::[(ev,[.int .i64 0])]) tv 0 2 [a_ hs,a_ cs] [a_ hs,a_ cs] (yS _ tv ev) (by simp) rfl rfl ?_;refine nE [] (PO pb s yl++(tv,[a_ hs,a_ cs])::[(ev,[.int .i64 0])]) (PO pb s yl) [(ev,[.int .i64 0])] 2 tv 0 [a_ hs,a_ cs] (lO hs cs) [a_ hs,a_ cs] (yS _ tv ev) rfl rfl (by intro u hu;simp[Value.cells]at hu;rcases hu with rfl|rfl<;>rfl) (aj 2) rfl ?_;refine nE [] (PO pb s yl++(tv,[a_ hs,a_ cs])::[(ev,[.int .i64 0])]) (PO pb s yl++[(tv,[a_ hs,a_ cs])]) [] 1 ev 0 [.int .i64 0] (.int .i64 0) [.int .i64 0] (yS _ tv ev) rfl rfl (JM _ _) (aj 1) rfl ?_;have ly:∀(own:List (Nat×List Value)),own=PO pb s yl++[(tv,[a_ hs,a_ cs])]++(ev,[.int .i64 0])::[]→(tv,[a_ hs,a_ cs])∈own∧(ev,[.int .i64 0])∈own:=fun own e=>by
   subst e;exact⟨by simp,by simp⟩
  refine abv [] ⟨t,hs,cs,hp,by kernel_rfl,by kernel_rfl,(ly _ (by kernel_rfl)).1,(ly _ (by kernel_rfl)).2,fun I w hd hh=>eC eK eE I w hd hh⟩
theorem BW:Tryz.f41.results= #[.cell 2 25,.cell 3 33]:=by kernel_rfl
theorem jj{w:World}{x:Obj}{k:Nat}(h:k<w.heap.size):(w.alloc x).heap[k]? =w.heap[k]? :=by
 simp only[World.alloc];rw[Array.getElem?_push_lt h];exact(Array.getElem?_eq_getElem h).symm
theorem mE(w:World)(x:Obj):(w.alloc x).heap[w.heap.size]? =some x:=by
 simp only[World.alloc];exact Array.getElem?_push_size
theorem Bd{tm:Array Value}{tv ev:Nat}{w:World}{x y z:Value}{et ee:TypeId}(h2:tm.getD 2 undef=fg tv)(h3:tm.getD 3 undef=fg ev)(g1:w.heap[tv]? =some (.cells #[x,y] et (0,0)))(g2:w.heap[ev]? =some (.cells #[z] ee (0,0))):(results Tryz.f41 tm).run Tryz.prog w=.ok (.tuple #[.agg #[x,y],z]) w:=by
 have c1:w.cell? ⟨tv,0,none⟩=some x:=nR (o:=0) g1;have c2:w.cell? ⟨tv,1,none⟩=some y:=nR (o:=1) g1;have c3:w.cell? ⟨ev,0,none⟩=some z:=nR (o:=0) g2;rw[dq]at h2 h3;unfold results;rw[BW];simp[go_sem,h2,h3,c1,c2,c3]
section
variable{Γ:List aC}
theorem O9(s:Sl){rs:List Re} [h:aY (kH s) rs Γ](hlen:rs.length≤100000):aw tb Tryz.prog 41 [a_ s] Γ (Dj rs):=by
 refine⟨⟨_,Tryz.func41,by kernel_rfl,by kernel_rfl⟩,fun I w hd hh=>?_⟩;obtain⟨w1,hw1⟩:∃w1,w1=w.alloc (.cells #[.slice none 0 0,.slice none 0 0] 25):=⟨_,rfl⟩;obtain⟨w2,hw2⟩:∃w2,w2=w1.alloc (.cells #[.int .i64 0] 33):=⟨_,rfl⟩;obtain⟨tv,htv⟩:∃tv,tv=w.heap.size:=⟨_,rfl⟩;obtain⟨ev,hev⟩:∃ev,ev=w1.heap.size:=⟨_,rfl⟩;have hs1:w1.heap.size=w.heap.size+1:=by rw[hw1];simp
 have hs2:w2.heap.size=w.heap.size+2:=by rw[hw2,World.size_alloc,hs1]
 have hne:tv≠ev:=by omega
 have g1:w2.heap[tv]? =some (.cells #[.slice none 0 0,.slice none 0 0] 25 (0,0)):=by
  rw[hw2,jj (by omega),hw1,htv];exact mE _ _
 have g2:w2.heap[ev]? =some (.cells #[.int .i64 0] 33 (0,0)):=by
  rw[hw2,hev];exact mE _ _
 have hold:∀k,k<w.heap.size→w2.heap[k]? =w.heap[k]? :=fun k hk=>by
  rw[hw2,jj (by omega),hw1,jj hk]
 have Zr:∀{w':World},w'.os=w2.os→w'.tape=w2.tape→w'.output=w2.output→w2.heap.size≤w'.heap.size→(∀k,k<w2.heap.size→k≠tv→k≠ev→w'.heap[k]? =w2.heap[k]?)→Below w.heap.size w w':=fun{w'} a1 a2 a3 a4 a5=>
  ⟨by rw[a1,hw2,hw1];rfl,by rw[a2,hw2,hw1];rfl,by rw[a3,hw2,hw1];rfl,by omega,fun k hk=>by rw[a5 k (by omega) (by omega) (by omega),hold k hk]⟩
 have hX:∀b,gC [(tv,[.slice none 0 0,.slice none 0 0]),(ev,[.int .i64 0])] [] b↔(b=tv∨b=ev):=fun b=>by
  unfold gC;constructor
  ·rintro(⟨cs,hc⟩|⟨m,hm⟩)
   ·simp only[aH,aF,aI,bU]at hc;rcases hc with h|h
    ·exact .inl h.1
    ·exact .inr h.1
   ·simp at hm
  ·rintro(rfl|rfl)
   ·exact .inl ⟨_,.head _⟩
   ·exact .inl ⟨_,.tail _ (.head _)⟩
 refine calls_of_wp_defers Tryz.func41 rfl ?_;have key:(IP Tryz.f41).wp Tryz.prog (bodyPostD Tryz.prog Tryz.f41 (fun e w'=>∃v Δ,e=.returned v∧Dj rs v Δ∧Below w.heap.size w w'∧aE Δ (fun b=>b<w.heap.size→I b) w')) {tmps:=([a_ s,undef,fg tv,fg ev,undef,.func (.func 72) #[] #[fg tv,fg ev]]++List.replicate 17 undef).toArray,defers:=[{target:=.fn (.func 72) #[fg tv,fg ev],args:= #[]}]} w2:=by
  refine S9 (T:=tbQ (∀t,rJ rs≠some (t,[])) tv ev) (yS _ tv ev) (fun l a w h=>h) ?_ ?_ (IF s (rs:=rs) hlen tv ev _) (I:=fun b=>b<w.heap.size∧I b) ?_ (hh.up (fun _ hb h=>⟨hb,h⟩) (fun b hb _=>hold b hb) (by omega)) ?_ ?_ ?_
  ·rintro s' Γ' a w' ρ ⟨t,h',c',hp,t2,t3,o1,o2,hf⟩ hs;have r2:a.tmps.getD 2 undef=fg tv:=hs.tmps 2 _ t2;have r3:a.tmps.getD 3 undef=fg ev:=hs.tmps 3 _ t3;obtain⟨e1,_,q1⟩:=hs.own _ _ o1;obtain⟨e2,_,q2⟩:=hs.own _ _ o2;have hL:Leaves Tryz.prog Tryz.f41 a.tmps (fun e w'=>∃v Δ,e=.returned v∧Dj rs v Δ∧Below w.heap.size w w'∧aE Δ (fun b=>b<w.heap.size→I b) w') a.defers .returning w':=by
    rw[hs.defers];refine leaves_cons (f:=72) (args:= #[fg tv,fg ev]) (by simp) (by simp[go_sem]) ?_;refine(Hz ⟨tv,0,none⟩ ⟨ev,0,none⟩ w').mono ?_;rintro e u' w'' ⟨rfl,rfl,rfl⟩;refine⟨_,Bd r2 r3 q1 q2,_,[B8 h' c' t],rfl,.inl ⟨t,h',c',hp,rfl,rfl⟩,Zr hs.below.os hs.below.tape hs.below.output hs.below.size (fun k k1 k2 k3=>hs.below.block k k1 (fun hx=>((hX k).1 hx).elim k2 k3)),?_⟩;refine(hf _ _ hs.dataOK hs.facts).up (fun b _ hI hb=>?_) (fun _ _ _=>rfl) (aj _);rcases hI.1 (by omega)with h|h
    ·exact h.2
    ·rcases(hX b).1 h with h|h<;>omega
   exact⟨hL,hL⟩
  ·rintro ch a w' ⟨hB,rfl⟩ acA hk ⟨ks,own,⟨rfl,⟨x,y,m1⟩,z,m2⟩,hown,htm⟩;have r2:a.tmps.getD 2 undef=fg tv:=htm (2,fg tv) (.head _);have r3:a.tmps.getD 3 undef=fg ev:=htm (3,fg ev) (.tail _ (.head _));obtain⟨e1,_,q1⟩:=hown _ _ m1;obtain⟨e2,_,q2⟩:=hown _ _ m2;show Leaves Tryz.prog Tryz.f41 a.tmps _ a.defers _ w';rw[acA];refine leaves_cons (f:=72) (args:= #[fg tv,fg ev]) (by simp) (by simp[go_sem]) ?_;refine(Fi tv ev w' x y z e1 e2 q1 q2 hne).mono ?_;rintro e u' w'' ⟨rfl,rfl,rfl⟩;have a1:=kh (x:=.cells #[] 149) q1;have a2:=kh (x:=.cells #[] 149) q2;have b1:=iZ (o:=1) (v:=.slice none 0 0) (iZ (o:=0) (v:=.slice none 0 0) a1);have d1:(tY tv ev w').heap[tv]? =some (.cells #[.slice none 0 0,.slice none 0 0] e1 (0,0)):=(eF hne).trans b1;have d2:(tY tv ev w').heap[ev]? =some (.cells #[.int .i64 20] e2 (0,0)):=iZ ((eF (fun e=>hne e.symm)).trans ((eF (fun e=>hne e.symm)).trans a2));refine⟨_,Bd r2 r3 d1 d2,_,[],rfl,.inr ⟨hB,rfl,rfl⟩,Zr hk.os hk.tape hk.output (by simp only[tY,pB,World.size_alloc];have:=hk.size;omega) (fun k k1 k2 k3=>?_),aE.nil _ _⟩;unfold tY;rw[eF k3,eF k2,eF k2,jj (by have:=hk.size;omega)];exact hk.block k k1 (fun hx=>((hX k).1 hx).elim k2 k3)
  ·intro b cs e f hb he;by_cases h0:b<w.heap.size
   ·rw[hold b h0]at hb;exact⟨h0,hd b cs e f hb he⟩
   ·by_cases h1:b=tv
    ·rw[h1,g1]at hb;injection hb with hb;injection hb with _ hb _;subst hb;exact absurd (show tb.dat 25=true from he) (by decide+kernel)
    ·by_cases h2:b=ev
     ·rw[h2,g2]at hb;injection hb with hb;injection hb with _ hb _;subst hb;exact absurd (show tb.dat 33=true from he) (by decide+kernel)
     ·have:=cj hb;omega
  ·intro b cs hb;simp only[aH,aF,aI,bU]at hb;rcases hb with⟨rfl,rfl⟩|⟨rfl,rfl⟩
   ·exact⟨_,(by decide+kernel:tb.dat 25=false),g1⟩
   ·exact⟨_,(by decide+kernel:tb.dat 33=false),g2⟩
  ·simp[hne]
  ·intro b hb hI;rcases(hX b).1 hb with h|h<;>(have:=hI.1;omega)
 refine wp_seq (wp_region ?_);show wpOps Tryz.prog _ _ [0,1] _ _;refine td (v:=fg tv) (w':=w1) rfl rfl (by rw[htv,hw1];kernel_rfl) ?_;refine td (v:=fg ev) (w':=w2) rfl rfl (by rw[hev,hw2];kernel_rfl) ?_;refine wp_seq (wp_region ?_);show wpOps Tryz.prog _ _ [0,1] _ _;refine td (v:=.func (.func 72) #[] #[fg tv,fg ev]) (w':=w2) rfl rfl (by kernel_rfl) ?_;refine VJ (d:={target:=.fn (.func 72) #[fg tv,fg ev],args:= #[]}) (w':=w2) rfl rfl ?_;refine Eq.mp ?_ key;kernel_rfl
end
section
variable{Γ:List aC}
theorem SD(h c:Sl){t:Li} [hF:aY (B8 h c) t Γ](hl:(iH t).length≤100000):aw tb Tryz.prog 27 [lO h c] Γ (jf (.bool (nk t))):=by
 refine aw.of_W az Tryz.func27 rfl ?_;refine aq [] (WN h c (t:=t) hl) ?_;rintro _ _ ⟨u,rfl,rfl⟩;refine aq [] (O9 u (rs:=iH t) hl) ?_;rintro _ _ (⟨t2,h2,c2,hp,rfl,rfl⟩|⟨p_,rfl,rfl⟩)
 ·have hv:nk t=F5 t t2:=by unfold nk;rw[hp]
  refine bk [] 13 ((0:Int)==0) rfl ?_;refine aq [13] (WR h c h2 c2 (x:=t) (y:=t2)) ?_;rintro _ _ ⟨rfl,rfl⟩;exact W.r [13] (.bool (F5 t t2)) ⟨by rw[hv],rfl⟩ bR
 ·have hv:nk t=false:=by
   unfold nk;split
   ·rename_i u' hq;exact absurd hq (p_ _)
   ·rfl
  refine aR [] 13 ((20:Int)==0) rfl ?_;exact W.r [13] (.bool false) ⟨by rw[hv],rfl⟩ bR
end
end Go.Proofs.YtgaaopjagcaojaaGreat
