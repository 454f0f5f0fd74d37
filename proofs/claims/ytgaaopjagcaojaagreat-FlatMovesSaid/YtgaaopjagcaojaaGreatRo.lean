import Derived.Test.YtgaaopjagcaojaaGreatLn
import Derived.Tactics
import Derived.Tactics2
import Derived.Defers
import Derived.Recover
import Derived.Laws.Pointers
import Derived.Test.YtgaaopjagcaojaaGreatLk
import Derived.Test.YtgaaopjagcaojaaGreatOw
import Derived.Test.YtgaaopjagcaojaaGreatVk
set_option linter.unusedSimpArgs false
set_option linter.unusedVariables false
set_option maxHeartbeats 2000000
namespace Go.Proofs.YtgaaopjagcaojaaGreat
open Go.RowKit Go.IntWalk
abbrev pZ:=@Go.World.size_setCell
def qQ(z:Nat)(O:List (Nat×List Value))(v:Value)(n:Nat)(xs:List Value):Prop:=cH z O v n xs∨(O=[]∧n=0∧xs=[]∧∃b off,v=.slice (some ⟨b,off,none⟩) 0 0)
theorem qQ.cast{z:Nat}{O:List (Nat×List Value)}{v:Value}{n n':Nat}{xs xs':List Value}(hx:xs=xs')(hn:n=n')(h:qQ z O v n xs):qQ z O v n' xs':=by
 subst hx hn;exact h
section
variable{T:Tb}{P:Program}{fin:VS→List aC→Prop}{c:fF}{Γ:List aC}
theorem vV(D:List Nat)(O:List (Nat×List Value))(z bytes n m:Nat)(v x:Value)(xs news:List Value)(hT:T.Ok P)
   (hg:qQ z O v n xs)(hx:pY T Γ O x m z news)(h1:∀u∈news,u.oneCell'=true)
   
  (hk:∀v' O',qQ z O' v' (n+m) (xs++news)→W T P fin (mA (aE T (aV T D 999 c)) O' v') Γ)(h:oR T (aE T (aV T D 999 c))=some (O,z,bytes,v,x):=by kernel_rfl)(hn:n+m≤1000000:=by omega)(hb:bytes≤100000000:=by decide):W T P fin c Γ:=by
 rcases hg with hg|⟨rfl,rfl,rfl,b,off,rfl⟩
 ·refine W.app D O [] O [] z bytes n m v x xs news hT (h:=h) hg hx h1 (hn:=hn) (hb:=hb) (fun v' O' hg'=>?_);have:=hk v' O' (.inl hg');rw[az,ai];exact this
 ·refine Nl D [] z bytes m b off x news hT h hx hb (fun h0=>?_) (fun g cap cur hp h2 h3 h4 h5=>?_)
  ·subst h0;obtain⟨ao,cc,_,hl,_⟩:=hx;have:news=[]:=aL (by simpa using hl);subst this;exact hk _ _ (.inr ⟨rfl,rfl,rfl,b,off,rfl⟩)
  ·obtain⟨ao,cc,_,hl,_⟩:=hx;refine hk _ _ (.inl ⟨by rw[az,hl,bU],.inr ⟨g,cap,cur,by rw[bU],rfl,by omega,h3,h4,by rw[az,bU];exact h5⟩⟩)
theorem VL{z n:Nat}(O:List (Nat×List Value)){v:Value}{xs:List Value}(hg:qQ z O v n xs)
  (hk:∀s:Sl,v=aY s→s.n=n→s.n≤s.c→s.c≤maxLen→W T P fin ⟨(dN T 999 c).s.setOwn [],(dN T 999 c).k⟩ (RA s.ao xs::Γ))(ho:(dN T 999 c).s.own=O:=by kernel_rfl)(hm:dF (dN T 999 c).k=false:=by kernel_rfl):W T P fin c Γ:=by
 rcases hg with hg|⟨rfl,rfl,rfl,b,off,rfl⟩
 ·refine nC [] O [] (by rw[ai];exact ho) hg (hm:=hm) (fun ao c' hv h1 h2=>hk ⟨ao,n,c'⟩ hv rfl h1 h2)
 ·refine W.code 999 ?_;generalize(dN T 999 c)=c1 at*;obtain⟨s,k⟩:=c1;refine W.elim (α:=Unit) (fun _=>True) (fun _=>[RA (some ⟨b,off,none⟩) []]) hm (fun I w _ hh=>⟨(),trivial,aT (RA.nil _ _ _)⟩) (fun _ _=>?_);have:=hk ⟨some ⟨b,off,none⟩,0,0⟩ rfl rfl (aj _) (aH _);have ho:s.own=[]:=ho;rw[show s.setOwn []=s from by rw[←ho];rfl]at this;exact this
theorem rJ(O:List (Nat×List Value))(hk:W T P fin ⟨(dN T 999 c).s.setOwn O,(dN T 999 c).k⟩ Γ)(ho:(dN T 999 c).s.own=O++[]:=by kernel_rfl):W T P fin c Γ:=by
 refine W.code 999 ?_;rw[ai]at ho;rw[←ho]at hk;exact hk
theorem JZ(s:Sl){l:List Re} [h:aZ (kW s) l Γ](hm:dF c.k=false)(hc:∀es:List dE,es.map dE.r=l→s.n=es.length→(0<s.n→∃b off,s.ao=some ⟨b,off,none⟩)→W T P fin c (RA s.ao (es.flatMap de.cells)::iY (aY s) es::Γ)):W T P fin c Γ:=
 W.elim (α:=List dE) (fun es=>es.map dE.r=l∧s.n=es.length∧(0<s.n→∃b off,s.ao=some ⟨b,off,none⟩)) (fun es=>[RA s.ao (es.flatMap de.cells),iY (aY s) es]) hm (fun I w _ hh=>by
  obtain⟨es,rfl,h2,_,h4,h5⟩:=h.p hh;rw[bM]at h2;refine⟨es,⟨rfl,h2,fun hp=>?_⟩,aD.cons h5 (aT h4)⟩;obtain⟨b,off,ha,_⟩:=h5 (by
   cases es with
   |nil=>simp at h2;omega
   |cons e r=>simp[de])
  exact⟨b,off,ha⟩) (fun es hq=>hc es hq.1 hq.2.1 hq.2.2)
theorem xM(s:Sl){es:List dE} [h:aZ (RA s.ao) (es.flatMap de.cells) Γ](own:List (Nat×List Value))(hn:s.n=es.length)(ha:0<s.n→∃b off,s.ao=some ⟨b,off,none⟩):pY T Γ own (aY s) s.n 3 (es.flatMap de.cells):=
 B7 s.ao own s.n 3 s.c (by rw[TC,hn]) ha
theorem E0{k:Int}(hk:k=17∨k=7∨k=4)(I:gd)(w:World):(wJ ⟨none,0,0⟩ (gD k)).p I w:=by
 refine⟨?_,⟨Int.le_refl _,(by decide:(0:Int)<256)⟩,rL _ _ _⟩;rcases hk with rfl|rfl|rfl<;>exact⟨by decide,by decide⟩
end
theorem Ek(k:Int):∀u∈([.int .u8 k,.int .u8 0,.slice none 0 0]:List Value),u.oneCell'=true:=by
 intro u hu;simp only[aF,aJ,b_]at hu;rcases hu with rfl|rfl|rfl<;>rfl
theorem St(t:Li){i:Nat}{c:Ce}(h:t.c[i]? =some c):(t.h++(t.c.take i).flatMap gi++gi c).length≤(iQ t).length:=by
 obtain⟨h1,h2⟩:=List.getElem?_eq_some_iff.1 h;have e:t.c=t.c.take i++c::t.c.drop (i+1):=by
  rw[←h2,←bA h1,j2]
 have e2:iQ t=t.h++((t.c.take i++c::t.c.drop (i+1)).flatMap gi++[gD 4]):=by rw[←e];rfl
 rw[e2];simp only[br,bB,aA];omega
theorem Oe(c:Ce){i:Nat}{x:Im}(h:c.i[i]? =some x):(c.h++(c.i.take i).flatMap fQ++fQ x).length≤(gi c).length:=by
 obtain⟨h1,h2⟩:=List.getElem?_eq_some_iff.1 h;have e:c.i=c.i.take i++x::c.i.drop (i+1):=by
  rw[←h2,←bA h1,j2]
 have e2:gi c=c.h++((c.i.take i++x::c.i.drop (i+1)).flatMap fQ++[gD 7]):=by rw[←e];rfl
 rw[e2];simp only[br,bB,aA];omega
theorem fM{α:Type}{l:List α}{i:Nat}{a:α}(h:l[i]? =some a):l.take (i+1)=l.take i++[a]:=by
 rw[List.take_add_one,h];rfl
structure YO where
 i:Nat
 z:Int
 v:Value
 O:List (Nat×List Value)
 es:List dE
section
variable{Γ:List aC}
theorem PQ(s:Sl){l:List Re} [h:aZ (kW s) l Γ](hl:l.length≤1000000):
  ko tb Tryz.prog 74 [aY s] Γ (fun v O Δ=>∃es:List dE,es.map dE.r=l∧qQ 3 O v es.length (es.flatMap de.cells)∧Δ=[iY v es]):=by
 refine ko.of_W au Tryz.func74 rfl (JZ s rfl (fun es he hn ha=>?_));have hlen:es.length≤1000000:=by rw[←he,bM]at hl;exact hl
 refine Nt [] s.ao 22 45 Tryz.underlying22 (W.d [] 4 s.ao.isNone (fun h0=>?_) (fun h0=>?_))
 ·have hb:es=[]:=Classical.byContradiction fun hne=>by
   obtain⟨bb,off,e⟩:=ha (by rw[hn];exact List.length_pos_iff.2 hne);rw[e]at h0;simp at h0
  subst hb;exact Ze [4] (.slice none 0 0) [] ⟨[],he,.inl (cH.nil 3),rfl⟩ (eC (fun I w hd hh e he=>by simp at he) eE)
 ·refine Nn [4] au (fun b1=>vV [] [] 3 32 0 s.n (.slice (some ⟨b1,0,none⟩) 0 0) (aY s) [] (es.flatMap de.cells) au (.inr ⟨rfl,rfl,rfl,b1,0,rfl⟩) (xM s [] hn ha) (jB es) (fun v' O' hg'=>Ze [] v' O' ⟨es,he,hg'.cast (by simp) (by omega),rfl⟩ (eC (fun I w hd hh=>eK (k:=iY (aY s)) I w hd hh) eE)))
theorem Xp(h c:Sl){t:Li} [hF:aZ (yX h c) t Γ](hl:(iQ t).length≤100000):
  aw tb Tryz.prog 42 [nd h c] Γ (fun v Δ=>∃u:Sl,v=aY u∧Δ=[kW u (iQ t)]):=by
 have hh0:t.h.length≤1000000:=by
  have:(iQ t).length=t.h.length+((t.c.flatMap gi).length+1):=by simp[iQ]
  omega
 refine aw.of_W au Tryz.func42 rfl ?_;obtain⟨ca,cn,cc⟩:=c;refine W.more (Δ:=[kW h t.h]) rfl (fun I w _ hh=>aT (hF.p hh).1) (W.more (Δ:=[lL ⟨ca,cn,cc⟩ t.c]) rfl (fun I w _ hh=>aT (aZ.p (k:=yX h ⟨ca,cn,cc⟩) (a:=t) inferInstance hh).2) (W.len gT lT.x ⟨ca,cn,cc⟩ rfl (fun h1 h2 h3=>?_)));simp only at h1 h2 h3;refine Y_ [] (PQ h (l:=t.h) hh0) ?_;rintro v0 O0 _ ⟨e0,I1,hg0,rfl⟩;refine rJ O0 (gY [] [3,14] (fun a:YO=>[(3,a.v),(14,.int .i64 a.z)]) (fun _=>[]) (fun a=>a.O) (fun a=>[lL ⟨ca,cn,cc⟩ t.c,iY a.v a.es]) (fun a=>a.z=a.i∧a.i≤cn∧a.es.map dE.r=t.h++(t.c.take a.i).flatMap gi∧qQ 3 a.O a.v a.es.length (a.es.flatMap de.cells)) (fun a=>cn-a.i) ⟨0,0,v0,O0,e0⟩ ⟨rfl,aH _,by simp[I1],hg0⟩ (eC eK (eC eK eE)) ?_);rintro⟨i,z,v,O,es⟩ K ⟨hz,hi,he,hg⟩ close;simp only at hz hi he hg;have hel:es.length=(t.h++(t.c.take i).flatMap gi).length:=by rw[←he,bM]
 by_cases hlt:i<cn
 ·obtain⟨x,hx⟩:∃x,t.c[i]? =some x:=⟨_,ah (by omega)⟩;have hb:=St t hx;rw[aA,←hel]at hb;refine sJ ⟨ca,cn,cc⟩ hx (fun b off fh fi ha=>?_);simp only at ha;subst ha;refine W.more (Δ:=[kW fh x.h]) rfl (fun I w _ hh=>aT (aZ.p (k:=zJ fh fi) (a:=x) inferInstance hh).1) (W.more (Δ:=[qA fi x.i]) rfl (fun I w _ hh=>aT (aZ.p (k:=zJ fh fi) (a:=x) inferInstance hh).2) ?_);obtain⟨ia,im,ic⟩:=fi;refine W.len kM mR.x ⟨ia,im,ic⟩ rfl (fun i1 i2 i3=>?_);simp only at i1 i2 i3;refine JZ fh rfl (fun eh hhe RC hha=>?_);have OT:(gi x).length=eh.length+((x.i.flatMap fQ).length+1):=by rw[gi,aA,aA,←hhe,bM];rfl
  refine bh [] 15 (decide (z<(cn:Int))) (ar (by omega)) (bI [15] 2 b off cn cc .i64 i z hz au hlt (cJ [] b (off+i*2) [aY fh,.slice ia im ic] au (bH b (off+i*2)) (vV [] O 3 32 es.length fh.n v (aY fh) (es.flatMap de.cells) (eh.flatMap de.cells) au hg (xM fh O RC hha) (jB eh) (fun v1 O1 hg1=>gY [] [3,25] (fun a:YO=>[(3,a.v),(25,.int .i64 a.z)]) (fun _=>[]) (fun a=>a.O) (fun a=>[lL ⟨some ⟨b,off,none⟩,cn,cc⟩ t.c,qA ⟨ia,im,ic⟩ x.i,iY a.v a.es]) (fun a=>a.z=a.i∧a.i≤im∧a.es.map dE.r=t.h++(t.c.take i).flatMap gi++(x.h++(x.i.take a.i).flatMap fQ)∧qQ 3 a.O a.v a.es.length (a.es.flatMap de.cells)) (fun a=>im-a.i) ⟨0,0,v1,O1,es++eh⟩ ⟨rfl,aH _,by simp[he,hhe],hg1.cast (by simp) (by simp[RC])⟩ (eC eK (eC eK (eC (fun I w hd hh=>iY.app (v:=v1) (eK (k:=iY v) I w hd hh) (eK (k:=iY (aY fh)) I w hd hh)) eE))) ?_))));rintro⟨j,zj,vj,Oj,ej⟩ K2 ⟨yj,hj,ZX,hgj⟩ close2;simp only at yj hj ZX hgj;have acw:ej.length=es.length+(x.h++(x.i.take j).flatMap fQ).length:=by rw[hel,←aA,←ZX,bM]
  by_cases Gu:j<im
  ·obtain⟨y,hy⟩:∃y,x.i[j]? =some y:=⟨_,ah (by omega)⟩;have Gl:=Oe x hy;rw[aA]at Gl;refine vB ⟨ia,im,ic⟩ hy (fun b2 off2 yf yp ha=>?_);simp only at ha;subst ha;refine W.more (Δ:=[kW yf y.f]) rfl (fun I w _ hh=>aT (aZ.p (k:=oE yf yp) (a:=y) inferInstance hh).1) (W.more (Δ:=[kW yp y.p]) rfl (fun I w _ hh=>aT (aZ.p (k:=oE yf yp) (a:=y) inferInstance hh).2) (JZ yf rfl (fun ef hfe Fj hfa=>JZ yp rfl (fun ep hpe hpn L8=>?_))));have hyl:(fQ y).length=ef.length+(ep.length+1):=by rw[fQ,aA,aA,←hfe,←hpe,bM,bM];rfl
   refine bh [] 26 (decide (zj<(im:Int))) (ar (by omega)) (bI [26] 2 b2 off2 im ic .i64 j zj yj au Gu (cJ [] b2 (off2+j*2) [aY yf,aY yp] au (bH b2 (off2+j*2)) (vV [] Oj 3 32 ej.length yf.n vj (aY yf) (ej.flatMap de.cells) (ef.flatMap de.cells) au hgj (xM yf Oj Fj hfa) (jB ef) (fun v2 O2 hg2=>vV [] O2 3 32 (ej.length+yf.n) yp.n v2 (aY yp) (ej.flatMap de.cells++ef.flatMap de.cells) (ep.flatMap de.cells) au hg2 (xM yp O2 hpn L8) (jB ep) (fun v3 O3 hg3=>cW [] 1 [.int .u8 17,.int .u8 0,.slice none 0 0] au (fun b4=>vV [] O3 3 32 (ej.length+yf.n+yp.n) 1 v3 (.slice (some ⟨b4,0,none⟩) 1 1) (ej.flatMap de.cells++ef.flatMap de.cells++ep.flatMap de.cells) [.int .u8 17,.int .u8 0,.slice none 0 0] au hg3 (cg b4 _ 1 3 rfl 1) (Ek 17) (fun v4 O4 hg4=>close2 [] _ _ ⟨j+1,IntKind.i64.wrap (zj+1),v4,O4,ej++(ef++(ep++[⟨⟨none,0,0⟩,gD 17⟩]))⟩ (by kernel_rfl) (by kernel_rfl) ⟨by simp only[af];omega,Gu,?_,hg4.cast (by simp[de,gD]) (by simp[Fj,hpn];omega)⟩ (by simp only;omega) (eC eK (eC eK (eC (fun I w hd hh=>iY.app (v1:=vj) (eK (k:=iY vj) I w hd hh) (iY.app (v:=vj) (eK (k:=iY (aY yf)) I w hd hh) (iY.app (v:=vj) (eK (k:=iY (aY yp)) I w hd hh) (iY.one (v:=vj) (E0 (.inl rfl) I w))))) eE))))))))));rw[fM hy];simp[ZX,hfe,hpe,fQ]
  ·have hjx:j=x.i.length:=by omega
   refine aO [] 26 (decide (zj<(im:Int))) (ak (by omega)) (cW [26] 1 [.int .u8 7,.int .u8 0,.slice none 0 0] au (fun b4=>vV [] Oj 3 32 ej.length 1 vj (.slice (some ⟨b4,0,none⟩) 1 1) (ej.flatMap de.cells) [.int .u8 7,.int .u8 0,.slice none 0 0] au hgj (cg b4 _ 1 3 rfl 1) (Ek 7) (hn:=(by
    rw[aR (l:=x.i) (by omega),aA,←hhe,bM]at acw;omega)) (fun v4 O4 hg4=>?_)))
   refine close [] _ _ ⟨i+1,IntKind.i64.wrap (z+1),v4,O4,ej++[⟨⟨none,0,0⟩,gD 7⟩]⟩ (by kernel_rfl) (by kernel_rfl) ⟨by simp only[af];omega,hlt,?_,hg4.cast (by simp[de,gD]) (by simp)⟩ (by simp only;omega) (eC eK (eC (fun I w hd hh=>iY.app (v1:=vj) (eK (k:=iY vj) I w hd hh) (iY.one (v:=vj) (E0 (.inr (.inl rfl)) I w))) eE));rw[fM hx];rw[aR (l:=x.i) (by omega)]at ZX;simp[ZX,gi]
 ·have RD:i=t.c.length:=by omega
  have hfl:(iQ t).length=es.length+1:=by
   rw[hel,aR (by omega)];simp[iQ];omega
  refine aO [] 15 (decide (z<(cn:Int))) (ak (by omega)) (cW [15] 1 [.int .u8 4,.int .u8 0,.slice none 0 0] au (fun b4=>vV [] O 3 32 es.length 1 v (.slice (some ⟨b4,0,none⟩) 1 1) (es.flatMap de.cells) [.int .u8 4,.int .u8 0,.slice none 0 0] au hg (cg b4 _ 1 3 rfl 1) (Ek 4) (fun v4 O4 hg4=>VL O4 hg4 (fun u hv g5 g1 g2=>?_))));subst hv;refine W.r [] (aY u) ⟨u,rfl,rfl⟩ (eC (fun I w hd hh=>?_) eE);have e:iQ t=(es++[(⟨⟨none,0,0⟩,gD 4⟩:dE)]).map dE.r:=by
   rw[aR (by omega)]at he;simp[iQ,he]
  rw[e];refine mB (v:=v) (es:=es++[(⟨⟨none,0,0⟩,gD 4⟩:dE)]) (by simp[g5]) g1 g2 (iY.app (v1:=v) (eK (k:=iY v) I w hd hh) (iY.one (v:=v) (E0 (.inr (.inr rfl)) I w))) ?_;have:=eK (k:=RA u.ao) I w hd hh;simpa [de,gD]using this
end
theorem Bn:∀{l m:List Im},jY l m=true→l.length=m.length
 | [],[],_=>rfl
 |x::l,y::m,h=>by
  simp only[jY,aK]at h;simp[Bn h.2]
 | [],_::_,h=>by simp[jY]at h
 |_::_,[],h=>by simp[jY]at h
theorem Bm:∀{l m:List Ce},jX l m=true→l.length=m.length
 | [],[],_=>rfl
 |x::l,y::m,h=>by
  simp only[jX,aK]at h;simp[Bm h.2]
 | [],_::_,h=>by simp[jX]at h
 |_::_,[],h=>by simp[jX]at h
theorem rX(n m:Nat):((n:Int)==(m:Int))=(n==m):=by
 by_cases h:n=m
 ·subst h;simp
 ·rw[beq_eq_false_iff_ne.2 h,beq_eq_false_iff_ne.2 (by omega)]
section
variable{Γ:List aC}
theorem Th(a b c d:Sl){x y:Im} [h1:aZ (oE a b) x Γ] [h2:aZ (oE c d) y Γ]:aw tb Tryz.prog 78 [nd a b,nd c d] Γ (jy (.bool (xq x y))):=by
 refine aw.of_W au Tryz.func78 rfl (qE (a.n=x.f.length∧b.n=x.p.length∧c.n=y.f.length∧d.n=y.p.length) rfl (fun I w _ hh=>by
  obtain⟨⟨_,_,e1,_⟩,_,_,e2,_⟩:=h1.p hh;obtain⟨⟨_,_,e3,_⟩,_,_,e4,_⟩:=h2.p hh;exact⟨e1,e2,e3,e4⟩) (fun⟨e1,e2,e3,e4⟩=>?_))
 have hl:xq x y=((a.n==c.n)&&(b.n==d.n)):=by rw[e1,e2,e3,e4];rfl
 refine W.d [] 12 ((a.n:Int)==(c.n:Int)) (fun hb=>?_) (fun hb=>?_)
 ·exact W.r [12] (.bool ((b.n:Int)==(d.n:Int))) ⟨by rw[hl,←rX,hb,dK,rX],rfl⟩ bX
 ·exact W.r [12] (.bool false) ⟨by rw[hl,←rX,hb];rfl,rfl⟩ bX
theorem aaF(a b:Sl){l m:List Im} [h1:aZ (qA a) l Γ] [h2:aZ (qA b) m Γ]:aw tb Tryz.prog 77 [aY a,aY b,.func (.func 78) #[] #[]] Γ (jy (.bool (jY l m))):=by
 refine aw.of_W au Tryz.func77 rfl ?_;obtain⟨aa,an,ac⟩:=a;obtain⟨ba,bn,bc⟩:=b;refine W.len kM mR.x ⟨aa,an,ac⟩ rfl (fun g1 g2 g3=>W.len kM mR.x ⟨ba,bn,bc⟩ rfl (fun k1 k2 k3=>?_));simp only at g1 g2 g3 k1 k2 k3;by_cases hne:an=bn
 ·refine aO [] 14 ((an:Int) != (bn:Int)) (by simp[hne]) (x7 [14] [6,17] (fun q:Nat×Int=>[(6,.bool false),(17,.int .i64 q.2)]) (fun _=>[]) (fun _=>[qA ⟨aa,an,ac⟩ l,qA ⟨ba,bn,bc⟩ m]) (fun q=>q.2=q.1∧q.1≤an∧jY (l.drop q.1) (m.drop q.1)=jY l m) (fun q=>an-q.1) (0,0) ⟨rfl,aH _,rfl⟩ (eC eK (eC eK eE)) ?_);rintro⟨i,z⟩ K ⟨hz,hi,hall⟩ close;simp only at hz hi hall;by_cases hlt:i<an
  ·obtain⟨x,hx⟩:∃x,l[i]? =some x:=⟨_,ah (by omega)⟩;obtain⟨y,hy⟩:∃y,m[i]? =some y:=⟨_,ah (by omega)⟩;rw[iJ hx,iJ hy,jY]at hall;refine vB ⟨aa,an,ac⟩ hx (fun b1 o1 f1 p1 ha=>vB ⟨ba,bn,bc⟩ hy (fun b2 o2 f2 p2 hb=>?_));simp only at ha hb;subst ha hb;refine bh [] 18 (decide (z<(an:Int))) (ar (by omega)) (bI [18] 2 b1 o1 an ac .i64 i z hz au hlt (cJ [] b1 (o1+i*2) [aY f1,aY p1] au (bH b1 (o1+i*2)) (bI [] 2 b2 o2 bn bc .i64 i z hz au (by omega) (cJ [] b2 (o2+i*2) [aY f2,aY p2] au (bH b2 (o2+i*2)) (W.c0 [] (Th f1 p1 f2 p2 (x:=x) (y:=y)) (W.d [] 30 (!xq x y) (fun hb=>?_) (fun hb=>?_)))))))
   ·exact W.r [30] (.bool false) ⟨by rw[←hall,(by simpa using hb:xq x y=false)];rfl,rfl⟩ bX
   ·refine close [30] _ _ (i+1,IntKind.i64.wrap (z+1)) (by kernel_rfl) (by kernel_rfl) ⟨by simp only[af];omega,hlt,?_⟩ (by simp only;omega) (eC eK (eC eK eE));rw[←hall,(by simpa using hb:xq x y=true),dK]
  ·refine aO [] 18 (decide (z<(an:Int))) (ak (by omega)) (W.r [18] (.bool true) ⟨?_,rfl⟩ bX);rw[←hall,bp (by omega),bp (by omega)];rfl
 ·refine bh [] 14 ((an:Int) != (bn:Int)) (bne_iff_ne.2 (fun h=>hne (by omega))) (W.r [14] (.bool false) ⟨?_,rfl⟩ bX);cases hq:jY l m with
  |false=>rfl
  |true=>exact absurd (by rw[g1,k1];exact Bn hq) hne
theorem Tg(a b c d:Sl){x y:Ce} [h1:aZ (zJ a b) x Γ] [h2:aZ (zJ c d) y Γ]:aw tb Tryz.prog 76 [nd a b,nd c d] Γ (jy (.bool (xo x y))):=by
 refine aw.of_W au Tryz.func76 rfl (qE (a.n=x.h.length∧c.n=y.h.length) rfl (fun I w _ hh=>by
  obtain⟨⟨_,_,e1,_⟩,_⟩:=h1.p hh;obtain⟨⟨_,_,e3,_⟩,_⟩:=h2.p hh;exact⟨e1,e3⟩) (fun⟨e1,e3⟩=>?_))
 have hl:xo x y=((a.n==c.n)&&(jY x.i y.i)):=by rw[e1,e3];rfl
 refine W.more (Δ:=[qA b x.i]) rfl (fun I w _ hh=>aT (aZ.p (k:=zJ a b) (a:=x) inferInstance hh).2) (W.more (Δ:=[qA d y.i]) rfl (fun I w _ hh=>aT (aZ.p (k:=zJ c d) (a:=y) inferInstance hh).2) (W.d [] 12 ((a.n:Int)==(c.n:Int)) (fun hb=>?_) (fun hb=>?_)))
 ·refine W.c0 [12] (aaF b d (l:=x.i) (m:=y.i)) (W.r [12] (.bool (jY x.i y.i)) ⟨by rw[hl,←rX,hb,dK],rfl⟩ bX)
 ·exact W.r [12] (.bool false) ⟨by rw[hl,←rX,hb];rfl,rfl⟩ bX
theorem aaE(a b:Sl){l m:List Ce} [h1:aZ (lL a) l Γ] [h2:aZ (lL b) m Γ]:aw tb Tryz.prog 75 [aY a,aY b,.func (.func 76) #[] #[]] Γ (jy (.bool (jX l m))):=by
 refine aw.of_W au Tryz.func75 rfl ?_;obtain⟨aa,an,ac⟩:=a;obtain⟨ba,bn,bc⟩:=b;refine W.len gT lT.x ⟨aa,an,ac⟩ rfl (fun g1 g2 g3=>W.len gT lT.x ⟨ba,bn,bc⟩ rfl (fun k1 k2 k3=>?_));simp only at g1 g2 g3 k1 k2 k3;by_cases hne:an=bn
 ·refine aO [] 14 ((an:Int) != (bn:Int)) (by simp[hne]) (x7 [14] [6,17] (fun q:Nat×Int=>[(6,.bool false),(17,.int .i64 q.2)]) (fun _=>[]) (fun _=>[lL ⟨aa,an,ac⟩ l,lL ⟨ba,bn,bc⟩ m]) (fun q=>q.2=q.1∧q.1≤an∧jX (l.drop q.1) (m.drop q.1)=jX l m) (fun q=>an-q.1) (0,0) ⟨rfl,aH _,rfl⟩ (eC eK (eC eK eE)) ?_);rintro⟨i,z⟩ K ⟨hz,hi,hall⟩ close;simp only at hz hi hall;by_cases hlt:i<an
  ·obtain⟨x,hx⟩:∃x,l[i]? =some x:=⟨_,ah (by omega)⟩;obtain⟨y,hy⟩:∃y,m[i]? =some y:=⟨_,ah (by omega)⟩;rw[iJ hx,iJ hy,jX]at hall;refine sJ ⟨aa,an,ac⟩ hx (fun b1 o1 f1 p1 ha=>sJ ⟨ba,bn,bc⟩ hy (fun b2 o2 f2 p2 hb=>?_));simp only at ha hb;subst ha hb;refine bh [] 18 (decide (z<(an:Int))) (ar (by omega)) (bI [18] 2 b1 o1 an ac .i64 i z hz au hlt (cJ [] b1 (o1+i*2) [aY f1,aY p1] au (bH b1 (o1+i*2)) (bI [] 2 b2 o2 bn bc .i64 i z hz au (by omega) (cJ [] b2 (o2+i*2) [aY f2,aY p2] au (bH b2 (o2+i*2)) (W.c0 [] (Tg f1 p1 f2 p2 (x:=x) (y:=y)) (W.d [] 30 (!xo x y) (fun hb=>?_) (fun hb=>?_)))))))
   ·exact W.r [30] (.bool false) ⟨by rw[←hall,(by simpa using hb:xo x y=false)];rfl,rfl⟩ bX
   ·refine close [30] _ _ (i+1,IntKind.i64.wrap (z+1)) (by kernel_rfl) (by kernel_rfl) ⟨by simp only[af];omega,hlt,?_⟩ (by simp only;omega) (eC eK (eC eK eE));rw[←hall,(by simpa using hb:xo x y=true),dK]
  ·refine aO [] 18 (decide (z<(an:Int))) (ak (by omega)) (W.r [18] (.bool true) ⟨?_,rfl⟩ bX);rw[←hall,bp (by omega),bp (by omega)];rfl
 ·refine bh [] 14 ((an:Int) != (bn:Int)) (bne_iff_ne.2 (fun h=>hne (by omega))) (W.r [14] (.bool false) ⟨?_,rfl⟩ bX);cases hq:jX l m with
  |false=>rfl
  |true=>exact absurd (by rw[g1,k1];exact Bm hq) hne
theorem Xs(a b c d:Sl){x y:Li} [h1:aZ (yX a b) x Γ] [h2:aZ (yX c d) y Γ]:aw tb Tryz.prog 43 [nd a b,nd c d] Γ (jy (.bool (GJ x y))):=by
 refine aw.of_W au Tryz.func43 rfl (qE (a.n=x.h.length∧c.n=y.h.length) rfl (fun I w _ hh=>by
  obtain⟨⟨_,_,e1,_⟩,_⟩:=h1.p hh;obtain⟨⟨_,_,e3,_⟩,_⟩:=h2.p hh;exact⟨e1,e3⟩) (fun⟨e1,e3⟩=>?_))
 have hl:GJ x y=((a.n==c.n)&&(jX x.c y.c)):=by rw[e1,e3];rfl
 refine W.more (Δ:=[lL b x.c]) rfl (fun I w _ hh=>aT (aZ.p (k:=yX a b) (a:=x) inferInstance hh).2) (W.more (Δ:=[lL d y.c]) rfl (fun I w _ hh=>aT (aZ.p (k:=yX c d) (a:=y) inferInstance hh).2) (W.d [] 12 ((a.n:Int)==(c.n:Int)) (fun hb=>?_) (fun hb=>?_)))
 ·refine W.c0 [12] (aaE b d (l:=x.c) (m:=y.c)) (W.r [12] (.bool (jX x.c y.c)) ⟨by rw[hl,←rX,hb,dK],rfl⟩ bX)
 ·exact W.r [12] (.bool false) ⟨by rw[hl,←rX,hb];rfl,rfl⟩ bX
end
theorem S3(w:World):(binOp BinOp.neq 20 .nilIface .nilIface).run Tryz.prog w=.ok (.bool false) w:=by kernel_rfl
theorem IK(p q:Addr)(w:World):
  CallsD Tryz.prog 72 #[.pointer (some p),.pointer (some q)] .returning w fun e u' w'=>e=.returned (.tuple #[])∧u'=.returning∧w'=w:=by
 refine callsD_of_wpS Tryz.func72 rfl fun c₀ cs hu=>?_;apply wpS_seq;apply wpS_region;simp[wpOpsS,go_sem,recoverD,hu,Exit.thenS];apply wpS_seq;apply wpS_region;simp[wpOpsS,go_sem,Exit.thenS,S3];refine wpS_cond (t:=false) (by simp[Act.eval,Array.replicate]) ?_;simp only[gN,dZ];refine wpS_of_wp (wp_skip ?_);cases c₀
 simp_all [bodyPostS,results]
theorem Ms(w:World):(binOp BinOp.neq 20 (.iface 149 (.agg #[])) .nilIface).run Tryz.prog w=.ok (.bool true) w:=by kernel_rfl
theorem Q0(w:World):(Instr.typeAssert (.iface 149 (.agg #[])) 20 149 true).run Tryz.prog w=.ok (.tuple #[.agg #[],.bool true]) w:=by kernel_rfl
theorem jt{w:World}{b o:Nat}{v:Value}{c:Array Value}{e:TypeId}(h:w.heap[b]? =some (.cells c e (0,0))):(w.setCell ⟨b,o,none⟩ v).heap[b]? =some (.cells (c.setIfInBounds o v) e (0,0)):=by
 simp[World.setCell,j1,h]
theorem eU{w:World}{b o k:Nat}{v:Value}(h:k≠b):(w.setCell ⟨b,o,none⟩ v).heap[k]? =w.heap[k]? :=by
 simp only[World.setCell,j1];rw[if_neg (fun e=>h e.symm)]
theorem oN{w:World}{b o:Nat}{c:Array Value}{e:TypeId}(h:w.heap[b]? =some (.cells c e (0,0))):w.cell? ⟨b,o,none⟩=c[o]? :=by simp[World.cell?,h]
theorem uU{w:World}{b o:Nat}{c:Array Value}{e:TypeId}(h:w.heap[b]? =some (.cells c e (0,0))):w.frozen? ⟨b,o,none⟩=false:=by simp[World.frozen?,h]
theorem kG{w:World}{x:Obj}{k:Nat}{y:Obj}(h:w.heap[k]? =some y):(w.alloc x).heap[k]? =some y:=by
 have:=(Array.getElem?_eq_some_iff.1 h).1;simp only[World.alloc];rw[Array.getElem?_push_lt this,←h];exact(Array.getElem?_eq_getElem this).symm
def uN(tb eb:Nat)(w:World):World:=((((w.alloc (.cells #[] 149)).setCell ⟨tb,0,none⟩ (.slice none 0 0)).setCell ⟨tb,1,none⟩ (.slice none 0 0)).setCell ⟨eb,0,none⟩ (.int .i64 20))
theorem F5(tb eb:Nat)(w:World)(x y z:Value)(et ee:TypeId)(h1:w.heap[tb]? =some (.cells #[x,y] et (0,0)))(h2:w.heap[eb]? =some (.cells #[z] ee (0,0)))(hne:tb≠eb):
  CallsD Tryz.prog 72 #[.pointer (some ⟨tb,0,none⟩),.pointer (some ⟨eb,0,none⟩)] (.panicking [{v:=.iface 149 (.agg #[]),recovered:=false}]) w fun e u' w'=>e=.returned (.tuple #[])∧u'=.panicking [{v:=.iface 149 (.agg #[]),recovered:=true}]∧w'=uN tb eb w:=by
 have a1:=kG (x:=.cells #[] 149) h1;have a2:=kG (x:=.cells #[] 149) h2;have b1:=jt (o:=0) (v:=.slice none 0 0) a1;have b2:((w.alloc (.cells #[] 149)).setCell ⟨tb,0,none⟩ (.slice none 0 0)).heap[eb]? =_:=(eU (fun e=>hne e.symm)).trans a2;have d2:(((w.alloc (.cells #[] 149)).setCell ⟨tb,0,none⟩ (.slice none 0 0)).setCell ⟨tb,1,none⟩ (.slice none 0 0)).heap[eb]? =_:=(eU (fun e=>hne e.symm)).trans b2;have c1:=oN (o:=0) a1;have z1:=uU (o:=0) a1;have c2:=oN (o:=1) b1;have z2:=uU (o:=1) b1;have c3:=oN (o:=0) d2;have z3:=uU (o:=0) d2;refine callsD_of_wpS Tryz.func72 rfl fun c₀ cs hu=>?_;apply wpS_seq;apply wpS_region;simp[wpOpsS,go_sem,recoverD,hu,Exit.thenS];apply wpS_seq;apply wpS_region;simp[wpOpsS,go_sem,Exit.thenS,Ms];refine wpS_cond (t:=true) (by simp[Act.eval,Array.replicate]) ?_;simp only[fj];apply wpS_seq;apply wpS_seq;apply wpS_region;simp[wpOpsS,go_sem,Exit.thenS,Q0,storeCells];apply wpS_seq;apply wpS_region;simp[wpOpsS,go_sem,Exit.thenS];refine wpS_cond (t:=false) (by simp[Act.eval,Array.replicate]) ?_;simp only[gN,dZ];refine wpS_of_wp (wp_skip ?_);simp only[Exit.thenS];apply wpS_region;simp[wpOpsS,go_sem,Exit.thenS,c1,z1,c2,z2,c3,z3];simp[bodyPostS,results,uN]
theorem T7{T:Tb}{P:Program}{rc:Code}{tm:List Value}{nb:Nat}{Oin:List (Nat×List Value)}{I:gd}{w:World}{ds:List Deferred}{fin:VS→List aC→Prop}{Q:Exit→Act→World→Prop}{Γ:List aC}(hT:T.Ok P)(hQ:∀l a w,¬Q (.goto l) a w)
  (hfin:∀s Γ a w' ρ,fin s Γ→iq T w ⟨I,gQ Oin [],ds⟩ Γ s a w' ρ→Q .normal a w'∧Q .ret a w')
  (vI:∀ch a w',T.pan ch→a.defers=ds→ka (gQ Oin []) w w'→(∃ks own,T.held ks own∧gB T own w'∧∀x∈ks,a.tmps.getD x.1 undef=x.2)→Q (.panic ch) a w')
  (hW:W T P fin ⟨⟨tm.map .val,List.replicate nb none,Oin,[]⟩,[.code rc]⟩ Γ)(hd:bj T I w)(hh:aD Γ I w)(ho:gB T Oin w)(hon:(Oin.map (·.1)).Nodup)(hx:∀b,gQ Oin [] b→¬I b):
  rc.wp P Q {tmps:=tm.toArray,defers:=ds} w:=by
 have tM:∀(t:Nat) (cs:List Value),(List.replicate nb (none:Option (List Value)))[t]? =some (some cs)→False:=by
  intro t cs ht;rw[c_]at ht;split at ht<;>simp at ht
 have hs0:iq T w ⟨I,gQ Oin [],ds⟩ Γ ⟨tm.map .val,List.replicate nb none,Oin,[]⟩ {tmps:=tm.toArray,defers:=ds} w (fun _=>0):=by
  refine⟨rfl,by simp,fun i sv hi=>?_,ka.refl _ _,fun t cs ht=>(tM t cs ht).elim,fun t u cs cs' ht=>(tM t cs ht).elim,fun i t off hi=>?_,hd,hh.up (fun b hb hI=>⟨fun _=>.inl hI,fun t cs ht=>(tM t cs ht).elim,fun cs hc=>hx b (.inl ⟨cs,hc⟩) hI,fun m hm=>absurd hm (by simp)⟩) (fun _ _ _=>rfl) (aj _),ho,fun b cs hb=>.inr (.inl ⟨cs,hb⟩),fun b cs hb t cs' ht=>(tM t cs' ht).elim,hon,fun b m hb=>absurd hb (by simp),fun b m hb=>absurd hb (by simp),by simp⟩
  ·simp only[bL]at hi;cases hv:tm[i]? with
   |none=>rw[hv]at hi;simp at hi
   |some v=>
    rw[hv]at hi;simp only[di,aq]at hi;subst hi;simp[rel,dG,hv]
  ·simp only[bL]at hi;cases hv:tm[i]? with
   |none=>rw[hv]at hi;simp at hi
   |some v=>rw[hv]at hi;simp at hi
 have:=hW.sound (w0:=w) (I0:=⟨I,gQ Oin [],ds⟩) (Q:=Q) hT hQ hfin vI rfl;rw[dB rfl]at this;exact this _ w _ hs0
theorem tK{P:Program}{ops:Array Oper}{Q:Exit→Act→World→Prop}{i:Nat}{rest:List Nat}{o:Oper}{a:Act}{v:Value}{w w':World}(hi:ops[i]? =some o)(hg:o.guard=none)(hr:(execOp a.eval o).run P w=.ok (.value v) w')(hk:wpOps P ops Q rest (a.put o.dst v) w'):wpOps P ops Q (i::rest) a w:=by
 rw[wpOps_cons];unfold wpOp;rw[hi];simp only;rw[show Region.wanted o (yielded ops a.tmps)=true from by unfold Region.wanted;rw[hg],if_pos rfl];left;unfold Oper.wp;rw[hr];exact hk
theorem Wq{P:Program}{ops:Array Oper}{Q:Exit→Act→World→Prop}{i:Nat}{rest:List Nat}{o:Oper}{a:Act}{d:Deferred}{w w':World}(hi:ops[i]? =some o)(hg:o.guard=none)(hk:wpOps P ops Q rest ({a with defers:=d::a.defers}.put o.dst undef) w')(hr:(execOp a.eval o).run P w=.ok (.defer d) w':=by kernel_rfl):wpOps P ops Q (i::rest) a w:=by
 rw[wpOps_cons];unfold wpOp;rw[hi];simp only;rw[show Region.wanted o (yielded ops a.tmps)=true from by unfold Region.wanted;rw[hg],if_pos rfl];left;unfold Oper.wp;rw[hr];exact hk
section
variable{T:Tb}{P:Program}{fin:VS→List aC→Prop}{c:fF}{Γ:List aC}
theorem abF(D:List Nat)(hk:fin ((jl (aE T (aV T D 999 c))).getD ⟨[],[],[],[]⟩) Γ)(h:(jl (aE T (aV T D 999 c))).isSome=true:=by kernel_rfl):W T P fin c Γ:=by
 refine ez D 999 ?_;generalize aV T D 999 c=c1 at*;cases he:aE T c1<;>rw[he]at h hk<;>simp[jl]at h hk;exact W.ret he hk
theorem VI(D:List Nat)(n:Nat)(v:Value)(ks:List (Nat×Value))(own:List (Nat×List Value))(hp:T.pan [{v,recovered:=false}])(hh:T.held ks own)(hk:∀x∈ks,lI x.1 (XJ (aV T D n c))=false∧(aV T D n c).s.tmps[x.1]? =some (.val x.2))(h:xH T (aV T D n c)=some v:=by kernel_rfl)(ho:(aV T D n c).s.own=own:=by kernel_rfl):W T P fin c Γ:=
 W.pan D n v (h:=h) hp ⟨ks,by rw[ho];exact hh,hk⟩
end
def DX(rs:List Re)(v:Value)(Δ:List aC):Prop:=
 (∃(t:Li) (h c:Sl),so rs=some (t,[])∧v=.tuple #[nd h c,.int .i64 0]∧Δ=[yX h c t])∨((∀t,so rs≠some (t,[]))∧v=.tuple #[nd ⟨none,0,0⟩ ⟨none,0,0⟩,.int .i64 20]∧Δ=[])
abbrev tbQ(B:Prop)(tv ev:Nat):Tb:={sw B with pins:=[2,3],held:=fun ks own=>ks=[(2,fu tv),(3,fu ev)]∧(∃x y,(tv,[x,y])∈own)∧∃z,(ev,[z])∈own}
theorem zx(B:Prop)(tv ev:Nat):(tbQ B tv ev).Ok Tryz.prog:=⟨au.mixed,au.ty⟩
theorem dD.q{B:Prop}{tv ev:Nat}{f:FuncId}{args:List Value}{Oin:List (Nat×List Value)}{Min:List (Nat×List (Value×Value))}{Γ:List aC}{post:Value→List (Nat×List Value)→List (Nat×List (Value×Value))→List aC→Prop}(h:dD (sw B) Tryz.prog f args Oin Min Γ post):dD (tbQ B tv ev) Tryz.prog f args Oin Min Γ post:=h
def JJ(fn:Func):Code:=match fn.body with
 |some (.seq _ (.seq _ c))=>c
 |_=>.skip
def Vw(rs:List Re)(tv ev:Nat)(s:VS)(Γ:List aC):Prop:=
 ∃(t:Li) (h c:Sl),so rs=some (t,[])∧s.tmps[2]? =some (.val (fu tv))∧s.tmps[3]? =some (.val (fu ev))∧(tv,[aY h,aY c])∈s.own∧(ev,[.int .i64 0])∈s.own∧∀I w,bj (tbQ True tv ev) I w→aD Γ I w→aD [yX h c t] I w
theorem JA(s:Sl){rs:List Re}{Γ:List aC} [h:aZ (kW s) rs Γ](hlen:rs.length≤100000)(tv ev:Nat)(fv:Value):
  W (tbQ (∀t,so rs≠some (t,[])) tv ev) Tryz.prog (Vw rs tv ev) ⟨⟨([aY s,undef,fu tv,fu ev,undef,fv]++List.replicate 17 undef).map .val,List.replicate 23 none,[(tv,[.slice none 0 0,.slice none 0 0]),(ev,[.int .i64 0])],[]⟩,[.code (JJ Tryz.f41)]⟩ Γ:=by
 have hd0:rs.drop 0=rs:=rfl;refine W.len de dE.r s rfl (fun n1 n2 n3=>vD 9 (fun pb=>No [] [] (PO pb s 0) [(tv,[.slice none 0 0,.slice none 0 0]),(ev,[.int .i64 0])] [] [] [] ⟨rfl,by rfl⟩ ⟨[(2,fu tv),(3,fu ev)],⟨rfl,⟨_,_,.head _⟩,_,.tail _ (.head _)⟩,fun x hx=>by
  simp only[aF,aJ,b_]at hx;rcases hx with rfl|rfl
  ·exact⟨rfl,by kernel_rfl⟩
  ·exact⟨rfl,by kernel_rfl⟩⟩ (by kernel_rfl) (by kernel_rfl) (by kernel_rfl) (aaH (∀t,so rs≠some (t,[])) pb s 0 (rs:=rs) hlen (fun hno t=>by rw[hd0]at hno;rw[hno];simp)).q ?_))
 rintro _ _ _ _ ⟨t,hs,cs,at2,hp,rfl,rfl,rfl,rfl⟩;rw[hd0]at hp;refine oF [] ([]++(PO pb s at2++[(tv,[.slice none 0 0,.slice none 0 0]),(ev,[.int .i64 0])])) (PO pb s at2) [(ev,[.int .i64 0])] 2 tv 0 [.slice none 0 0,.slice none 0 0] (nd hs cs) [aY hs,aY cs] (zx _ tv ev) rfl rfl (by intro u hu;simp[Value.cells]at hu;rcases hu with rfl|rfl<;>rfl) (aj 2) rfl ?_;refine bN [] 0 pb 0 (zx _ tv ev) (bN [] 1 pb (0+0) (zx _ tv ev) (dS [] (PO pb s at2++(tv,[aY hs,aY cs])::[(ev,[.int .i64 0])]) pb (0+0+1) 1 [aY s,.int .i64 (at2:Int)] (.int .i64 (at2:Int)) (zx _ tv ev) (.head _) rfl ?_));by_cases hlt:at2<s.n
 ·have hne:∀t,so rs≠some (t,[]):=fun t' e=>by
   rw[hp]at e;injection e with e;injection e with _ e;have:=dM List.length e;simp at this;omega
  refine bh [] 19 (decide ((at2:Int)<(s.n:Int))) (ar (by omega)) (VI [19] 1 yW [(2,fu tv),(3,fu ev)] (PO pb s at2++(tv,[aY hs,aY cs])::[(ev,[.int .i64 0])]) ⟨hne,rfl⟩ ⟨rfl,⟨aY hs,aY cs,by simp⟩,.int .i64 0,by simp⟩ (fun x hx=>by
   simp only[aF,aJ,b_]at hx;rcases hx with rfl|rfl
   ·exact⟨by kernel_rfl,by kernel_rfl⟩
   ·exact⟨by kernel_rfl,by kernel_rfl⟩))
 ·have hnil:rs.drop at2=[]:=bp (by omega);rw[hnil]at hp;refine aO [] 19 (decide ((at2:Int)<(s.n:Int))) (ak (by omega)) (wM [19] (PO pb s at2++(tv,[aY hs,aY cs])::[(ev,[.int .i64 0])]) tv 0 2 [aY hs,aY cs] [aY hs,aY cs] (zx _ tv ev) rfl rfl (oF [] (PO pb s at2++(tv,[aY hs,aY cs])::[(ev,[.int .i64 0])]) (PO pb s at2) [(ev,[.int .i64 0])] 2 tv 0 [aY hs,aY cs] (nd hs cs) [aY hs,aY cs] (zx _ tv ev) rfl rfl (by intro u hu;simp[Value.cells]at hu;rcases hu with rfl|rfl<;>rfl) (aj 2) rfl ?_));refine oF [] (PO pb s at2++(tv,[aY hs,aY cs])::[(ev,[.int .i64 0])]) (PO pb s at2++[(tv,[aY hs,aY cs])]) [] 1 ev 0 [.int .i64 0] (.int .i64 0) [.int .i64 0] (zx _ tv ev) rfl rfl (KH _ _) (aj 1) rfl ?_;have lV:∀(own:List (Nat×List Value)),own=PO pb s at2++[(tv,[aY hs,aY cs])]++(ev,[.int .i64 0])::[]→(tv,[aY hs,aY cs])∈own∧(ev,[.int .i64 0])∈own:=fun own e=>by
   subst e;exact⟨by simp,by simp⟩
  refine abF [] ⟨t,hs,cs,hp,by kernel_rfl,by kernel_rfl,(lV _ (by kernel_rfl)).1,(lV _ (by kernel_rfl)).2,fun I w hd hh=>eC eK eE I w hd hh⟩
theorem CB:Tryz.f41.results= #[.cell 2 25,.cell 3 33]:=by kernel_rfl
theorem jH{w:World}{x:Obj}{k:Nat}(h:k<w.heap.size:=by omega):(w.alloc x).heap[k]? =w.heap[k]? :=by
 simp only[World.alloc];rw[Array.getElem?_push_lt h];exact(Array.getElem?_eq_getElem h).symm
theorem ni(w:World)(x:Obj):(w.alloc x).heap[w.heap.size]? =some x:=by
 simp only[World.alloc];exact Array.getElem?_push_size
theorem BN{tm:Array Value}{tv ev:Nat}{w:World}{x y z:Value}{et ee:TypeId}(h2:tm.getD 2 undef=fu tv)(h3:tm.getD 3 undef=fu ev)(g1:w.heap[tv]? =some (.cells #[x,y] et (0,0)))(g2:w.heap[ev]? =some (.cells #[z] ee (0,0))):(results Tryz.f41 tm).run Tryz.prog w=.ok (.tuple #[.agg #[x,y],z]) w:=by
 have c1:w.cell? ⟨tv,0,none⟩=some x:=oN (o:=0) g1;have c2:w.cell? ⟨tv,1,none⟩=some y:=oN (o:=1) g1;have c3:w.cell? ⟨ev,0,none⟩=some z:=oN (o:=0) g2;rw[dG]at h2 h3;unfold results;rw[CB];simp[go_sem,h2,h3,c1,c2,c3]
section
variable{Γ:List aC}
theorem PT(s:Sl){rs:List Re} [h:aZ (kW s) rs Γ](hlen:rs.length≤100000):aw tb Tryz.prog 41 [aY s] Γ (DX rs):=by
 refine⟨⟨_,Tryz.func41,by kernel_rfl,by kernel_rfl⟩,fun I w hd hh=>?_⟩;obtain⟨w1,hw1⟩:∃w1,w1=w.alloc (.cells #[.slice none 0 0,.slice none 0 0] 25):=⟨_,rfl⟩;obtain⟨w2,hw2⟩:∃w2,w2=w1.alloc (.cells #[.int .i64 0] 33):=⟨_,rfl⟩;obtain⟨tv,htv⟩:∃tv,tv=w.heap.size:=⟨_,rfl⟩;obtain⟨ev,hev⟩:∃ev,ev=w1.heap.size:=⟨_,rfl⟩;have hs1:w1.heap.size=w.heap.size+1:=by rw[hw1];simp
 have hs2:w2.heap.size=w.heap.size+2:=by rw[hw2,World.size_alloc,hs1]
 have hne:tv≠ev:=by omega
 have g1:w2.heap[tv]? =some (.cells #[.slice none 0 0,.slice none 0 0] 25 (0,0)):=by
  rw[hw2,jH,hw1,htv];exact ni _ _
 have g2:w2.heap[ev]? =some (.cells #[.int .i64 0] 33 (0,0)):=by
  rw[hw2,hev];exact ni _ _
 have hold:∀k,k<w.heap.size→w2.heap[k]? =w.heap[k]? :=fun k hk=>by
  rw[hw2,jH,hw1,jH (h:=hk)]
 have ZO:∀{w':World},w'.os=w2.os→w'.tape=w2.tape→w'.output=w2.output→w2.heap.size≤w'.heap.size→(∀k,k<w2.heap.size→k≠tv→k≠ev→w'.heap[k]? =w2.heap[k]?)→Below w.heap.size w w':=fun{w'} a1 a2 a3 a4 a5=>
  ⟨by rw[a1,hw2,hw1];rfl,by rw[a2,hw2,hw1];rfl,by rw[a3,hw2,hw1];rfl,by omega,fun k hk=>by rw[a5 k (by omega) (by omega) (by omega),hold k hk]⟩
 have hX:∀b,gQ [(tv,[.slice none 0 0,.slice none 0 0]),(ev,[.int .i64 0])] [] b↔(b=tv∨b=ev):=fun b=>by
  unfold gQ;constructor
  ·rintro(⟨cs,hc⟩|⟨m,hm⟩)
   ·simp only[aF,aG,aJ,b_]at hc;rcases hc with h|h
    ·exact .inl h.1
    ·exact .inr h.1
   ·simp at hm
  ·rintro(rfl|rfl)
   ·exact .inl ⟨_,.head _⟩
   ·exact .inl ⟨_,.tail _ (.head _)⟩
 refine calls_of_wp_defers Tryz.func41 rfl ?_;have key:(JJ Tryz.f41).wp Tryz.prog (bodyPostD Tryz.prog Tryz.f41 (fun e w'=>∃v Δ,e=.returned v∧DX rs v Δ∧Below w.heap.size w w'∧aD Δ (fun b=>b<w.heap.size→I b) w')) {tmps:=([aY s,undef,fu tv,fu ev,undef,.func (.func 72) #[] #[fu tv,fu ev]]++List.replicate 17 undef).toArray,defers:=[{target:=.fn (.func 72) #[fu tv,fu ev],args:= #[]}]} w2:=by
  refine T7 (T:=tbQ (∀t,so rs≠some (t,[])) tv ev) (zx _ tv ev) (fun l a w h=>h) ?_ ?_ (JA s (rs:=rs) hlen tv ev _) (I:=fun b=>b<w.heap.size∧I b) ?_ (hh.up (fun _ hb h=>⟨hb,h⟩) (fun b hb _=>hold b hb) (by omega)) ?_ ?_ ?_
  ·rintro s' Γ' a w' ρ ⟨t,h',c',hp,t2,t3,o1,o2,hf⟩ hs;have r2:a.tmps.getD 2 undef=fu tv:=hs.tmps 2 _ t2;have r3:a.tmps.getD 3 undef=fu ev:=hs.tmps 3 _ t3;obtain⟨e1,_,q1⟩:=hs.own _ _ o1;obtain⟨e2,_,q2⟩:=hs.own _ _ o2;have hL:Leaves Tryz.prog Tryz.f41 a.tmps (fun e w'=>∃v Δ,e=.returned v∧DX rs v Δ∧Below w.heap.size w w'∧aD Δ (fun b=>b<w.heap.size→I b) w') a.defers .returning w':=by
    rw[hs.defers];refine leaves_cons (f:=72) (args:= #[fu tv,fu ev]) (by simp) (by simp[go_sem]) ((IK ⟨tv,0,none⟩ ⟨ev,0,none⟩ w').mono ?_);rintro e u' w'' ⟨rfl,rfl,rfl⟩;refine⟨_,BN r2 r3 q1 q2,_,[yX h' c' t],rfl,.inl ⟨t,h',c',hp,rfl,rfl⟩,ZO hs.below.os hs.below.tape hs.below.output hs.below.size (fun k k1 k2 k3=>hs.below.block k k1 (fun hx=>((hX k).1 hx).elim k2 k3)),?_⟩;refine(hf _ _ hs.dataOK hs.facts).up (fun b _ hI hb=>?_) (fun _ _ _=>rfl) (aj _);rcases hI.1 (by omega)with h|h
    ·exact h.2
    ·rcases(hX b).1 h with h|h<;>omega
   exact⟨hL,hL⟩
  ·rintro ch a w' ⟨hB,rfl⟩ acs hk ⟨ks,own,⟨rfl,⟨x,y,m1⟩,z,m2⟩,hown,htm⟩;have r2:a.tmps.getD 2 undef=fu tv:=htm (2,fu tv) (.head _);have r3:a.tmps.getD 3 undef=fu ev:=htm (3,fu ev) (.tail _ (.head _));obtain⟨e1,_,q1⟩:=hown _ _ m1;obtain⟨e2,_,q2⟩:=hown _ _ m2;show Leaves Tryz.prog Tryz.f41 a.tmps _ a.defers _ w';rw[acs];refine leaves_cons (f:=72) (args:= #[fu tv,fu ev]) (by simp) (by simp[go_sem]) ((F5 tv ev w' x y z e1 e2 q1 q2 hne).mono ?_);rintro e u' w'' ⟨rfl,rfl,rfl⟩;have a1:=kG (x:=.cells #[] 149) q1;have a2:=kG (x:=.cells #[] 149) q2;have b1:=jt (o:=1) (v:=.slice none 0 0) (jt (o:=0) (v:=.slice none 0 0) a1);have d1:(uN tv ev w').heap[tv]? =some (.cells #[.slice none 0 0,.slice none 0 0] e1 (0,0)):=(eU hne).trans b1;have d2:(uN tv ev w').heap[ev]? =some (.cells #[.int .i64 20] e2 (0,0)):=jt ((eU (fun e=>hne e.symm)).trans ((eU (fun e=>hne e.symm)).trans a2));refine⟨_,BN r2 r3 d1 d2,_,[],rfl,.inr ⟨hB,rfl,rfl⟩,ZO hk.os hk.tape hk.output (by simp only[uN,pZ,World.size_alloc];have:=hk.size;omega) (fun k k1 k2 k3=>?_),aD.nil _ _⟩;unfold uN;rw[eU k3,eU k2,eU k2,jH (h:=(by have:=hk.size;omega))];exact hk.block k k1 (fun hx=>((hX k).1 hx).elim k2 k3)
  ·intro b cs e f hb he;by_cases h0:b<w.heap.size
   ·rw[hold b h0]at hb;exact⟨h0,hd b cs e f hb he⟩
   ·by_cases h1:b=tv
    ·rw[h1,g1]at hb;injection hb with hb;injection hb with _ hb _;subst hb;exact absurd (show tb.dat 25=true from he) (by decide+kernel)
    ·by_cases h2:b=ev
     ·rw[h2,g2]at hb;injection hb with hb;injection hb with _ hb _;subst hb;exact absurd (show tb.dat 33=true from he) (by decide+kernel)
     ·have:=cw hb;omega
  ·intro b cs hb;simp only[aF,aG,aJ,b_]at hb;rcases hb with⟨rfl,rfl⟩|⟨rfl,rfl⟩
   ·exact⟨_,(by decide+kernel:tb.dat 25=false),g1⟩
   ·exact⟨_,(by decide+kernel:tb.dat 33=false),g2⟩
  ·simp[hne]
  ·intro b hb hI;rcases(hX b).1 hb with h|h<;>(have:=hI.1;omega)
 refine wp_seq (wp_region ?_);show wpOps Tryz.prog _ _ [0,1] _ _;refine tK (v:=fu tv) (w':=w1) rfl rfl (by rw[htv,hw1];kernel_rfl) (tK (v:=fu ev) (w':=w2) rfl rfl (by rw[hev,hw2];kernel_rfl) (wp_seq (wp_region ?_)));show wpOps Tryz.prog _ _ [0,1] _ _;refine tK (v:=.func (.func 72) #[] #[fu tv,fu ev]) (w':=w2) rfl rfl (by kernel_rfl) (Wq (d:={target:=.fn (.func 72) #[fu tv,fu ev],args:= #[]}) (w':=w2) rfl rfl (Eq.mp ?_ key));kernel_rfl
end
section
variable{Γ:List aC}
theorem Tt(h c:Sl){t:Li} [hF:aZ (yX h c) t Γ](hl:(iQ t).length≤100000):aw tb Tryz.prog 27 [nd h c] Γ (jy (.bool (lS t))):=by
 refine aw.of_W au Tryz.func27 rfl (W.c1 [] (Xp h c (t:=t) hl) (fun u=>jD [] (PT u (rs:=iQ t) hl) ?_));rintro _ _ (⟨t2,h2,c2,hp,rfl,rfl⟩|⟨hno,rfl,rfl⟩)
 ·have hv:lS t=GJ t t2:=by unfold lS;rw[hp]
  refine bh [] 13 ((0:Int)==0) rfl (W.c0 [13] (Xs h c h2 c2 (x:=t) (y:=t2)) (W.r [13] (.bool (GJ t t2)) ⟨by rw[hv],rfl⟩ bX))
 ·have hv:lS t=false:=by
   unfold lS;split
   ·rename_i u' hq;exact absurd hq (hno _)
   ·rfl
  refine aO [] 13 ((20:Int)==0) rfl (W.r [13] (.bool false) ⟨by rw[hv],rfl⟩ bX)
end
def Ed(x:Im):Int:=cC x 26 0
def lO(x:Im):Rat:=match dJ x 27 with
 |some r=>xN r.b
 |none=>((1:Int):Rat)
def Nx(x:Im):Rat:=match dJ x 28 with
 |some r=>xN r.b
 |none=>0
def qX(x:Im):Rat:=Nx x/((45:Int):Rat)
def oI(x:Im):Int:=Vg (qX x) % 8
def nD(x:Im):Bool:=Ed x != 0&&Ed x != -32768
def jb(x:Im):Bool:= !nD x&&(decide (0<(lO x).num.sign)&&decide ((qX x).den=1))
def qH(x:Im):Bool:=Ed x != 0
def VG(x:Im)(v:Value)(Δ:List aC):Prop:=
 (nD x=true∧∃(n:Sl) (a:Bool) (m:Sl) (b:Bool),v=.tuple #[.bool false,qv n a m b,.int .i64 0,.bool false]∧Δ=[])∨
 (nD x=false∧∃(n:Sl) (a:Bool) (m:Sl) (b:Bool),v=.tuple #[.bool (qH x),qv n a m b,.int .i64 (oI x),.bool (jb x)]∧Δ=[QF n a m b (50,lO x)])
theorem Mu(x:Im):jP (oI x)=true:=by
 unfold oI jP;simp only[aK,cY];omega
theorem Xc(x:Im):0≤oI x∧oI x≤7:=by
 unfold oI;omega
theorem Sk(d:Nat):(rN (d:Int) 1==0)=decide (d=1):=by
 unfold rN;by_cases h:d=1
 ·subst h;rfl
 ·rw[ak h];split
  ·rfl
  ·rw[if_neg (by omega)];rfl
theorem aaB{x:Im}(h:nD x=false)(hs:¬(lO x).num.sign>0):jb x=false:=by
 unfold jb;rw[h,ak hs];rfl
theorem Xm{x:Im}(h:nD x=false)(hs:(lO x).num.sign>0):jb x=decide ((qX x).den=1):=by
 unfold jb;rw[h,ar hs];rfl
section
variable{Γ:List aC}
theorem xC(f p:Sl){x:Im} [h:aZ (oE f p) x Γ](hx:qu x):aw tb Tryz.prog 84 [nd f p] Γ (VG x):=by
 obtain⟨z,hz⟩:∃z,cC x 26 0=z:=⟨_,rfl⟩;have hzb:Ed x=z:=hz;have UK:qH x=(z != 0):=by unfold qH;rw[hzb]
 have hsh:=hx.short;refine aw.of_W au Tryz.func84 rfl (bR [] (dW 1 (h1:=(by decide)) (h2:=(by decide))) (fun u1 d1=>bz [] (cD u1 d1) (fun nm am mm bm=>jD [] (iR f p (x:=x) 26 0 hx (.inr (.inl rfl))) ?_)));rw[hz];rintro _ _ ⟨rfl,rfl⟩;obtain⟨g,YE⟩:∃g,lO x=g:=⟨_,rfl⟩;obtain⟨q,Ox⟩:∃q,q=qX x:=⟨_,rfl⟩;have aad:oI x=Vg q % 8:=by unfold oI;rw[Ox]
 have hsm:jP (Vg q % 8)=true:=by have:=Mu x;unfold oI at this;rw[←Ox]at this;exact this
 have h8:∀k r,E9 k=some ⟨5,8,1,1⟩→dJ x k=some r→r.b.length=8:=fun k r hk hr=>by obtain⟨_,l1,l2,l3⟩:=hx.len hr hk;simp only at l1 l2 l3;omega
 by_cases h1:z=0∨z= -32768
 rotate_left
 ·have hbad:nD x=true:=by unfold nD;rw[hzb];simp;omega
  refine bh [] 26 (z != 0) (by simp;omega) (bh [26] 29 (z != -32768) (by simp;omega) (W.r [29] (.tuple #[.bool false,qv nm am mm bm,.int .i64 0,.bool false]) (.inl ⟨hbad,nm,am,mm,bm,rfl,rfl⟩) bX))
 have hbad:nD x=false:=by unfold nD;rw[hzb];rcases h1 with h|h<;>rw[h]<;>rfl
 by_cases h0:z=0
 case' pos=>refine aO [] 26 (z != 0) (by simpa using h0) ?_
 case' neg=>
  refine bh [] 26 (z != 0) (by simpa using h0) (aO [26] 29 (z != -32768) (by simpa [h0]using h1) ?_)
 all_goals
  cases hm:dJ x 27
  case' none=>
   refine W.c0 [29,26] (ri f p (x:=x) 27 hsh hm) (aO [] 36 false rfl ?_);have WC:((1:Int):Rat)=g:=by rw[←YE];unfold lO;rw[hm]
   rw[WC]
  case' some rm=>
   have hm8:=h8 27 rm rfl hm;refine W.c1 [29,26] (rj f p (x:=x) 27 hsh hm) (fun um=>bh [] 36 true rfl (W.more (Δ:=[BF um rm.b]) (by kernel_rfl) (uu um) (Fv um (by kernel_rfl) (fun g1 g2 g3 g4=>jT [36] (Γ':=[RA um.ao (rm.b.map (Value.int .u8))]) (fun I w _ hh=>aT (aZ.p (k:=BF um) (a:=rm.b) inferInstance hh).2.2.2) (Qa um.ao um.n um.c rm.b g1 g3 g2.1) ?_))));rw[show LM rm.b=0 by unfold LM;rw[if_pos hm8]];rintro _ _ ⟨nm,am,mm,bm,rfl,rfl⟩;have WC:xN rm.b=g:=by rw[←YE];unfold lO;rw[hm]
   rw[WC]
  all_goals
   cases ha:dJ x 28
   case' none=>
    refine W.c0 [36] (ri f p (x:=x) 28 hsh ha) (aO [] 48 false rfl (bR [48] (dW 45 (h1:=(by decide)) (h2:=(by decide))) (fun u6 d6=>bz [] (cD u6 d6) (fun n7 a7 m7 b7=>jT [] (mK (L':=0)) (Jv ⟨none,0,0⟩ false ⟨none,0,0⟩ false n7 a7 m7 b7 (a:=0)) ?_))));rintro _ _ ⟨n8,a8,m8,b8,rfl,rfl⟩;have heq:(0:Rat)/((45:Int):Rat)=q:=by rw[Ox];unfold qX Nx;rw[ha]
    rw[heq]
   case' some ra=>
    have ha8:=h8 28 ra rfl ha;refine W.c1 [36] (rj f p (x:=x) 28 hsh ha) (fun ua=>bh [] 48 true rfl (W.more (Δ:=[BF ua ra.b]) (by kernel_rfl) (uu ua) (Fv ua (by kernel_rfl) (fun k1 k2 k3 k4=>jT [48] (Γ':=[RA ua.ao (ra.b.map (Value.int .u8))]) (fun I w _ hh=>aT (aZ.p (k:=BF ua) (a:=ra.b) inferInstance hh).2.2.2) (Qa ua.ao ua.n ua.c ra.b k1 k3 k2.1) ?_))));rw[show LM ra.b=0 by unfold LM;rw[if_pos ha8]];rintro _ _ ⟨na,aa,ma,ba,rfl,rfl⟩;refine bR [] (dW 45 (h1:=(by decide)) (h2:=(by decide))) (fun u6 d6=>bz [] (cD u6 d6) (fun n7 a7 m7 b7=>bz [] (Jv na aa ma ba n7 a7 m7 b7 (a:=xN ra.b)) (fun n8 a8 m8 b8=>?_)));have heq:xN ra.b/((45:Int):Rat)=q:=by rw[Ox];unfold qX Nx;rw[ha]
    rw[heq]
   all_goals
    refine bR [] (P9 n8 a8 m8 b8 (q:=q)) (fun u9 d9=>bR [] (dW 8 (h1:=(by decide)) (h2:=(by decide))) (fun u10 d10=>bz [] (pM u9 d9 u10 d10 (x:=Vg q) (y:=8) (by decide)) (fun u11 d11 v11 e11=>W.c0 [] (ve v11 e11 (x:=Vg q % 8) hsm) (W.c0 [] (nH nm am mm bm (q:=g)) ?_))));by_cases hsg:g.num.sign>0
    ·refine bh [] 82 (decide (g.num.sign>0)) (ar hsg) (bR [82] (np n8 a8 m8 b8 (q:=q)) (fun u14 d14=>bR [82] (dW 1 (h1:=(by decide)) (h2:=(by decide))) (fun u15 d15=>W.c0 [82] (EU u14 d14 u15 d15 (x:=(q.den:Int)) (y:=1)) (W.r [82] (.tuple #[.bool (z != 0),qv nm am mm bm,.int .i64 (Vg q % 8),.bool (rN (q.den:Int) 1==0)]) (.inr ⟨hbad,nm,am,mm,bm,by rw[UK,aad,Xm hbad (by rw[YE];exact hsg),Sk,←Ox],rfl⟩) (pq (by rw[YE]))))))
    ·refine aO [] 82 (decide (g.num.sign>0)) (ak hsg) (W.r [82] (.tuple #[.bool (z != 0),qv nm am mm bm,.int .i64 (Vg q % 8),.bool false]) (.inr ⟨hbad,nm,am,mm,bm,by rw[UK,aad,aaB hbad (by rw[YE];exact hsg)],rfl⟩) (pq (by rw[YE])))
end
def sI(x:Im):Int:=if cC x 15 0=0 then 1 else cC x 15 0
def Aa(x:Im):Int:=rh (bT x) (sI x) (cC x 33 0) (cC x 48 0) (cC x 49 0)
def uk(x:Im):Int:=if Aa x=7 then 0 else Aa x
def jk(x:Im):List (Sn×Sn):=if Aa x=0∧cC x 15 0≠0 then sk (iO (bT x)).1.reverse (iO (bT x)).2.reverse (sI x) (cC x 33 0) (cC x 48 0) (cC x 49 0)else []
def Av(x:Im)(v:Value)(Δ:List aC):Prop:=
 ∃(ao:Option Addr) (c:Nat) (l:List j4),v=.tuple #[.slice ao l.length c,.int .i64 (uk x)]∧l.length≤c∧l.map j4.num=jk x∧Δ=[OL gH ao (130,l)]
theorem BR(I:gd)(w:World):aD [OL gH none (130,[])] I w:=aT ⟨fun e he=>by simp at he,RA.nil _ _ _⟩
def iB(x:Im):Bool:=
 if cz x=8 then decide (4≤(bT x).length)&&decide ((bT x).getD 0 ⟨0,0⟩=(bT x).getD ((bT x).length-1) ⟨0,0⟩)
 else if cz x=45 then decide ((bT x).length=5)&&decide ((bT x).getD 0 ⟨0,0⟩=(bT x).getD 4 ⟨0,0⟩)
 else if cz x=9 then uk x==0
 else if cz x=10 then jb x&&decide (0<(bJ x).1)&&decide (0<(bJ x).2)&&decide ((bT x).length=1)
 else if cz x=11 then jb x&&decide (0<(bJ x).1)&&decide (0<(bJ x).2)&&decide ((bT x).length=3)
 else if cz x=12 then jb x
 else true
theorem Ka(n m:Nat):((n:Int)==(m:Int))=decide (n=m):=by
 by_cases h:n=m
 ·subst h;simp
 ·rw[ak h];simp;omega
theorem uV{α:Type}(l:List α)(i:Nat)(d:α)(h:i<l.length:=by omega):l[i]? =some (l.getD i d):=by
 rw[dw,ah h];rfl
section
variable{Γ:List aC}
def PtI(u:Sl)(l:List Dp):Prop:=u.n=l.length∧(u.n≤u.c∧u.c≤9223372036854775807)∧(l≠ []→∃bb off,u.ao=some ⟨bb,off,none⟩)
theorem Tu{u:Sl}{l:List Dp}{I:gd}{w:World}(h:(sS u l).p I w):PtI u l:=by
 obtain⟨h1,h2,h4⟩:=h;refine⟨h1,h2,fun hne=>?_⟩;obtain⟨bb,off,ha,_⟩:=h4 (by cases l with|nil=>exact absurd rfl hne|cons a r=>simp[ed]);exact⟨bb,off,ha⟩
theorem rn(f p:Sl){x:Im} [h:aZ (oE f p) x Γ](hx:qu x):aw tb Tryz.prog 80 [nd f p] Γ (fun v Δ=>∃u:Sl,PtI u (bT x)∧v=aY u∧Δ=[sS u (bT x)]):=by
 refine(pX (fun v Δ=>∃u:Sl,PtI u (bT x)∧v=aY u∧Δ=[sS u (bT x)]) (P8 f p (x:=x) hx) ?_).post (fun _ _ h=>h.2);rintro v Δ ⟨u,rfl,rfl⟩ I w hh;exact⟨u,Tu hh.h0',rfl,rfl⟩
theorem Ju(f p:Sl){x:Im} [h:aZ (oE f p) x Γ](hx:qu x):aw tb Tryz.prog 82 [nd f p] Γ (Av x):=by
 obtain⟨E,hE⟩:∃E,Aa x=E:=⟨_,rfl⟩;have hE':rh (bT x) (sI x) (cC x 33 0) (cC x 48 0) (cC x 49 0)=E:=hE;refine aw.of_W au Tryz.func82 rfl (W.c0 [] (iR f p (x:=x) 15 0 hx (.inr (.inr rfl))) ?_);by_cases h0:cC x 15 0=0
 ·skip
  have hw:sI x=1:=by unfold sI;rw[if_pos h0]
  refine bh [] 10 (cC x 15 0==0) (by rw[h0];decide) (jD [10] (rn f p (x:=x) hx) ?_);rintro _ _ ⟨u2,⟨g1,g2,g3⟩,rfl,rfl⟩;refine W.c0 [] (iR f p (x:=x) 33 0 hx (.inl rfl)) (W.c0 [] (iR f p (x:=x) 48 0 hx (.inr (.inr rfl))) (W.c0 [] (iR f p (x:=x) 49 0 hx (.inr (.inr rfl))) (jT [] (Γ':=[RA u2.ao ((bT x).flatMap ed)]) (fun I w _ hh=>aT (aZ.p (k:=sS u2) (a:=bT x) inferInstance hh).2.2) (KS u2.ao u2.n u2.c (bT x) 1 (cC x 33 0) (cC x 48 0) (cC x 49 0) g1) ?_)));rw[←hw];rintro _ _ (⟨he,rfl,rfl⟩|⟨he,ao,c,l,rfl,hc,hl,rfl⟩)
  ·rw[hE']at he⊢;by_cases h7:E=7
   ·refine bh [] 26 (E==7) (by rw[h7];decide) (W.r [34,30,26] (.tuple #[.slice none 0 0,.int .i64 0]) ⟨none,0,[],by unfold uk;rw[hE,if_pos h7];rfl,aj _,by unfold jk;rw[if_neg (by rw[hE];exact fun q=>he q.1)];rfl,rfl⟩ (fun I w _ _=>BR I w))
   ·refine aO [] 26 (E==7) (by simpa using h7) ?_;have hres:Av x (.tuple #[.slice none 0 0,.int .i64 E]) [OL gH none (130,[])]:=⟨none,0,[],by unfold uk;rw[hE,if_neg h7];rfl,aj _,by unfold jk;rw[if_neg (by rw[hE];exact fun q=>he q.1)];rfl,rfl⟩;refine W.c0 [26] (iR f p (x:=x) 15 0 hx (.inr (.inr rfl))) (bh [26] 30 (cC x 15 0==0) (by rw[h0];decide) (aO [26,30] 34 (E==0) (by simpa using he) (W.r [34] (.tuple #[.slice none 0 0,.int .i64 E]) hres (fun I w _ _=>BR I w))))
  ·rw[hE']at he;refine aO [] 26 ((0:Int)==7) (by decide) (W.c0 [26] (iR f p (x:=x) 15 0 hx (.inr (.inr rfl))) ?_);have hpe:uk x=0:=by unfold uk;rw[hE,he];rfl
   refine bh [26] 30 (cC x 15 0==0) (by rw[h0];decide) (bh [26,30] 34 ((0:Int)==0) (by decide) (W.r [34] (.tuple #[.slice none 0 0,.int .i64 0]) ⟨none,0,[],by rw[hpe];rfl,aj _,by unfold jk;rw[if_neg (fun q=>q.2 h0)];rfl,rfl⟩ (fun I w _ _=>BR I w)))
 ·skip
  have hw:sI x=cC x 15 0:=by unfold sI;rw[if_neg h0]
  refine aO [] 10 (cC x 15 0==0) (by simpa using h0) (jD [10] (rn f p (x:=x) hx) ?_);rintro _ _ ⟨u2,⟨g1,g2,g3⟩,rfl,rfl⟩;refine W.c0 [] (iR f p (x:=x) 33 0 hx (.inl rfl)) (W.c0 [] (iR f p (x:=x) 48 0 hx (.inr (.inr rfl))) (W.c0 [] (iR f p (x:=x) 49 0 hx (.inr (.inr rfl))) (jT [] (Γ':=[RA u2.ao ((bT x).flatMap ed)]) (fun I w _ hh=>aT (aZ.p (k:=sS u2) (a:=bT x) inferInstance hh).2.2) (KS u2.ao u2.n u2.c (bT x) (cC x 15 0) (cC x 33 0) (cC x 48 0) (cC x 49 0) g1) ?_)));rw[←hw];rintro _ _ (⟨he,rfl,rfl⟩|⟨he,ao,c,l,rfl,hc,hl,rfl⟩)
  ·rw[hE']at he⊢;by_cases h7:E=7
   ·refine bh [] 26 (E==7) (by rw[h7];decide) (W.r [34,30,26] (.tuple #[.slice none 0 0,.int .i64 0]) ⟨none,0,[],by unfold uk;rw[hE,if_pos h7];rfl,aj _,by unfold jk;rw[if_neg (by rw[hE];exact fun q=>he q.1)];rfl,rfl⟩ (fun I w _ _=>BR I w))
   ·refine aO [] 26 (E==7) (by simpa using h7) ?_;have hres:Av x (.tuple #[.slice none 0 0,.int .i64 E]) [OL gH none (130,[])]:=⟨none,0,[],by unfold uk;rw[hE,if_neg h7];rfl,aj _,by unfold jk;rw[if_neg (by rw[hE];exact fun q=>he q.1)];rfl,rfl⟩;refine W.c0 [26] (iR f p (x:=x) 15 0 hx (.inr (.inr rfl))) (aO [26] 30 (cC x 15 0==0) (by simpa using h0) (W.r [34,26,30] (.tuple #[.slice none 0 0,.int .i64 E]) hres (fun I w _ _=>BR I w)))
  ·rw[hE']at he;refine aO [] 26 ((0:Int)==7) (by decide) (W.c0 [26] (iR f p (x:=x) 15 0 hx (.inr (.inr rfl))) ?_);have hpe:uk x=0:=by unfold uk;rw[hE,he];rfl
   refine aO [26] 30 (cC x 15 0==0) (by simpa using h0) (W.r [34,26,30] (.tuple #[.slice ao l.length c,.int .i64 0]) ⟨ao,c,l,by rw[hpe],hc,by rw[hl];unfold jk;rw[if_pos ⟨by rw[hE,he],h0⟩],rfl⟩ (fun I w _ hh=>aT (aZ.p (k:=OL gH ao) (a:=(130,l)) inferInstance hh)))
theorem Hk(f p:Sl){x:Im} [h:aZ (oE f p) x Γ](hx:qu x):aw tb Tryz.prog 85 [nd f p] Γ (jy (.bool (jb x))):=by
 refine aw.of_W au Tryz.func85 rfl (jD [] (xC f p (x:=x) hx) ?_);rintro _ _ (⟨hb,n,a,m,b,rfl,rfl⟩|⟨hb,n,a,m,b,rfl,rfl⟩)
 ·exact W.r [] (.bool false) ⟨by unfold jb;rw[hb];rfl,rfl⟩ bX
 ·exact W.r [] (.bool (jb x)) ⟨rfl,rfl⟩ bX
theorem Ts(f p:Sl){x:Im} [h:aZ (oE f p) x Γ](hx:qu x)(hk:cz x=8∨cz x=9∨cz x=10∨cz x=11∨cz x=12∨cz x=21∨cz x=45):aw tb Tryz.prog 46 [nd f p] Γ (jy (.bool (iB x))):=by
 obtain⟨R,hR⟩:∃R,iB x=R:=⟨_,rfl⟩;rw[hR];unfold iB at hR;have pk:=j7 f p (x:=x) (Γ:=Γ) hx;refine aw.of_W au Tryz.func46 rfl (jD [] (rn f p (x:=x) hx) ?_);rintro _ _ ⟨u,⟨g1,g2,g3⟩,rfl,rfl⟩;obtain⟨l,hl⟩:∃l,bT x=l:=⟨_,rfl⟩;rw[hl]at hR g1 g3⊢;refine W.c0 [] (j7 f p (x:=x) hx) ?_;obtain⟨k,hkk⟩:∃k,cz x=k:=⟨_,rfl⟩;have Gp:∀(Γ2:List aC) [h2:aZ (oE f p) x Γ2],aw tb Tryz.prog 81 [nd f p] Γ2 (jy (.int .u8 (cz x))):=fun Γ2 h2=>j7 f p (x:=x) hx;rw[hkk]at hR hk Gp⊢;rcases hk with rfl|rfl|rfl|rfl|rfl|rfl|rfl
 ·rw[if_pos rfl]at hR;by_cases hlen:4≤l.length
  ·refine bh [17] 22 (decide ((u.n:Int)≥4)) (ar (by omega)) ?_;obtain⟨bb,off,hao⟩:=g3 (by rintro rfl;simp at hlen);obtain⟨ua,un,uc⟩:=u;simp only at g1 g2 hao hlen;subst hao;refine bI [22] 2 bb off un uc .i64 0 0 rfl au (by omega) (cJ [22] bb (off+0*2) (ed (l.getD 0 ⟨0,0⟩)) au (fun I w hd hh j v hv=>kH bb off un uc (uV l 0 ⟨0,0⟩) I w hd hh j v hv) (bI [22] 2 bb off un uc .i64 (l.length-1) (IntKind.i64.wrap ((un:Int)-1)) (by rw[af];omega) au (by omega) (cJ [22] bb (off+(l.length-1)*2) (ed (l.getD (l.length-1) ⟨0,0⟩)) au (fun I w hd hh j v hv=>kH bb off un uc (uV l (l.length-1) ⟨0,0⟩) I w hd hh j v hv) (Fx [22] 58 (l.getD 0 ⟨0,0⟩) (l.getD (l.length-1) ⟨0,0⟩) (W.r [22] (.bool (decide (l.getD 0 ⟨0,0⟩=l.getD (l.length-1) ⟨0,0⟩))) ⟨by rw[←hR,ar hlen,dK],rfl⟩ bX)))))
  ·refine aO [17] 22 (decide ((u.n:Int)≥4)) (ak (by omega)) (W.r [22] (.bool false) ⟨by rw[←hR,ak hlen,fw],rfl⟩ bX)
 ·refine aO [17] 34 false rfl (bh [34] 48 true rfl (jD [48] (Ju f p (x:=x) hx) ?_));rintro _ _ ⟨ao,c,l2,rfl,hc,hl2,rfl⟩;exact W.r [] (.bool (uk x==0)) ⟨by rw[←hR];rfl,rfl⟩ bX
 ·rw[if_neg (by decide),if_neg (by decide),if_neg (by decide),if_pos rfl]at hR;refine aO [17] 34 false rfl (aO [34] 48 false rfl (bh [48] 57 true rfl (W.c0 [57] (tY f p (x:=x) hx) (jD [] (xC f p (x:=x) hx) ?_))));rintro _ _ (⟨hb,n,a,m,b,rfl,rfl⟩|⟨hb,n,a,m,b,rfl,rfl⟩)
  ·have ht:jb x=false:=by unfold jb;rw[hb];rfl
   rw[ht]at hR;refine W.c0 [] (Gp _) (aO [74] 76 false rfl (aO [76] 80 false rfl (aO [80] 84 false rfl (W.r [84] (.bool false) ⟨by rw[←hR];rfl,rfl⟩ bX))))
  ·refine W.c0 [] (Gp _) (W.d [74] 76 (jb x) (fun ht=>?_) (fun ht=>?_))
   ·rw[ht,dK]at hR;by_cases h1:0<(bJ x).1
    ·refine bh [76] 80 (decide ((bJ x).1>0)) (ar h1) ?_;rw[ar h1,dK]at hR;by_cases h2:0<(bJ x).2
     ·refine bh [80] 84 (decide ((bJ x).2>0)) (ar h2) ?_;rw[ar h2,dK]at hR;exact W.r [84] (.bool ((u.n:Int)==1)) ⟨by rw[←hR,g1];exact dM Value.bool (Ka l.length _),rfl⟩ bX
     ·refine aO [80] 84 (decide ((bJ x).2>0)) (ak h2) ?_;rw[ak h2,fw]at hR;exact W.r [84] (.bool false) ⟨by rw[←hR],rfl⟩ bX
    ·refine aO [76] 80 (decide ((bJ x).1>0)) (ak h1) ?_;rw[ak h1,fw,fw]at hR;refine aO [80] 84 false rfl (W.r [84] (.bool false) ⟨by rw[←hR],rfl⟩ bX)
   ·rw[ht,fw,fw,fw]at hR;refine aO [76] 80 false rfl (aO [80] 84 false rfl (W.r [84] (.bool false) ⟨by rw[←hR],rfl⟩ bX))
 ·rw[if_neg (by decide),if_neg (by decide),if_neg (by decide),if_neg (by decide),if_pos rfl]at hR;refine aO [17] 34 false rfl (aO [34] 48 false rfl (aO [48] 57 false rfl (W.c0 [57] (tY f p (x:=x) hx) (jD [] (xC f p (x:=x) hx) ?_))));rintro _ _ (⟨hb,n,a,m,b,rfl,rfl⟩|⟨hb,n,a,m,b,rfl,rfl⟩)
  ·have ht:jb x=false:=by unfold jb;rw[hb];rfl
   rw[ht]at hR;refine W.c0 [] (Gp _) (aO [74] 76 false rfl (aO [76] 80 false rfl (aO [80] 84 false rfl (W.r [84] (.bool false) ⟨by rw[←hR];rfl,rfl⟩ bX))))
  ·refine W.c0 [] (Gp _) (W.d [74] 76 (jb x) (fun ht=>?_) (fun ht=>?_))
   ·rw[ht,dK]at hR;by_cases h1:0<(bJ x).1
    ·refine bh [76] 80 (decide ((bJ x).1>0)) (ar h1) ?_;rw[ar h1,dK]at hR;by_cases h2:0<(bJ x).2
     ·refine bh [80] 84 (decide ((bJ x).2>0)) (ar h2) ?_;rw[ar h2,dK]at hR;exact W.r [84] (.bool ((u.n:Int)==3)) ⟨by rw[←hR,g1];exact dM Value.bool (Ka l.length _),rfl⟩ bX
     ·refine aO [80] 84 (decide ((bJ x).2>0)) (ak h2) ?_;rw[ak h2,fw]at hR;exact W.r [84] (.bool false) ⟨by rw[←hR],rfl⟩ bX
    ·refine aO [76] 80 (decide ((bJ x).1>0)) (ak h1) ?_;rw[ak h1,fw,fw]at hR;refine aO [80] 84 false rfl (W.r [84] (.bool false) ⟨by rw[←hR],rfl⟩ bX)
   ·rw[ht,fw,fw,fw]at hR;refine aO [76] 80 false rfl (aO [80] 84 false rfl (W.r [84] (.bool false) ⟨by rw[←hR],rfl⟩ bX))
 ·refine aO [17] 34 false rfl (aO [34] 48 false rfl (aO [48] 57 false rfl (bh [57] 90 true rfl (W.c0 [90] (Hk f p (x:=x) hx) (W.r [] (.bool (jb x)) ⟨by rw[←hR];rfl,rfl⟩ bX)))))
 ·refine aO [17] 34 false rfl (aO [34] 48 false rfl (aO [48] 57 false rfl (aO [57] 90 false rfl (W.r [90] (.bool true) ⟨by rw[←hR];rfl,rfl⟩ bX))))
 ·rw[if_neg (by decide),if_pos rfl]at hR;refine bh [17] 34 true rfl ?_;by_cases hlen:l.length=5
  ·refine bh [34] 39 ((u.n:Int)==5) (by rw[g1,hlen];decide) ?_;obtain⟨bb,off,hao⟩:=g3 (by rintro rfl;simp at hlen);obtain⟨ua,un,uc⟩:=u;simp only at g1 g2 hao hlen;subst hao;refine bI [39] 2 bb off un uc .i64 0 0 rfl au (by omega) (cJ [39] bb (off+0*2) (ed (l.getD 0 ⟨0,0⟩)) au (fun I w hd hh j v hv=>kH bb off un uc (uV l 0 ⟨0,0⟩) I w hd hh j v hv) (bI [39] 2 bb off un uc .i64 (4) 4 rfl au (by omega) (cJ [39] bb (off+(4)*2) (ed (l.getD (4) ⟨0,0⟩)) au (fun I w hd hh j v hv=>kH bb off un uc (uV l (4) ⟨0,0⟩) I w hd hh j v hv) (Fx [39] 58 (l.getD 0 ⟨0,0⟩) (l.getD (4) ⟨0,0⟩) (W.r [39] (.bool (decide (l.getD 0 ⟨0,0⟩=l.getD 4 ⟨0,0⟩))) ⟨by rw[←hR,ar hlen,dK],rfl⟩ bX)))))
  ·refine aO [34] 39 ((u.n:Int)==5) (by rw[g1];simpa using fun h=>hlen (by omega)) (W.r [39] (.bool false) ⟨by rw[←hR,ak hlen,fw],rfl⟩ bX)
end
abbrev FO(fb:Nat)(cs:Sl)(bn cn dn:Nat)(most:Int)(sh:Value):List (Nat×List Value):=[(fb,[aY cs,.map (some bn),.map (some cn),.map (some dn),.int .i64 most,sh])]
def Lk:Tb:={tbM [44,45,47,48,87,89,90,28] False undef with cloc:=true}
theorem bK:Lk.Ok Tryz.prog:=⟨au.mixed,au.ty⟩
theorem aw.mF{f:FuncId}{args:List Value}{Γ:List aC}{post:Value→List aC→Prop}(h:aw tb Tryz.prog f args Γ post):aw Lk Tryz.prog f args Γ post:=h
def mM(nm:List (ByteArray×Int))(x:Im):Option Int:=(ig x).map fun s=>(gC (strOfNums s) nm).getD (-1)
def i_(nm:List (ByteArray×Int))(c:Ce):List Int:=c.i.filterMap (mM nm)
def Vs(c:Ce):Prop:=∀x∈c.i,qu x
def cu{α:Type}(l:List (α×Int)):List (α×Value):=l.map fun e=>(e.1,.int .i64 e.2)
theorem mV{α:Type} [DecidableEq α](k:α):∀l:List (α×Int),gC k (cu l)=(gC k l).map (Value.int .i64)
 | []=>rfl
 |(j,v)::l=>by
  show gC k ((j,Value.int .i64 v)::cu l)=_;by_cases h:k=j
  ·simp[gC,h]
  ·simp only[gC,h,dZ];exact mV k l
structure abB where
 i:Nat
 z:Int
 v:Value
 O:List (Nat×List Value)
section
variable{Γ:List aC}
theorem Jt(fb bn cn dn:Nat)(cs:Sl)(most:Int)(sh:Value)(c:Int){i:Nat}(hc:c=i){t:List Ce} [h:aZ (lL cs) t Γ]{x:Ce}(hx:t[i]? =some x)(hok:Vs x)(OT:x.i.length≤100000)(nm:List (ByteArray×Int)):
  dD Lk Tryz.prog 44 [fu fb,.int .i64 c] (FO fb cs bn cn dn most sh) [(bn,bV ea (cu nm))] Γ (fun v O M Δ=>∃u:Sl,u.n=(i_ nm x).length∧v=aY u∧O=FO fb cs bn cn dn most sh∧M=[(bn,bV ea (cu nm))]∧Δ=[NL u (i_ nm x)]):=by
 refine dD.of_W bK Tryz.func44 rfl ?_;obtain⟨ca,cm,cc⟩:=cs;refine W.len gT lT.x ⟨ca,cm,cc⟩ rfl (fun h1 h2 h3=>?_);simp only at h1 h2 h3;have hil:i<cm:=by rw[h1];exact(List.getElem?_eq_some_iff.1 hx).1
 refine sJ ⟨ca,cm,cc⟩ hx (fun b off fh fi ha=>?_);simp only at ha;subst ha;refine W.more (Δ:=[qA fi x.i]) rfl (fun I w _ hh=>aT (aZ.p (k:=zJ fh fi) (a:=x) inferInstance hh).2) ?_;obtain⟨ia,im,ic⟩:=fi;refine W.len kM mR.x ⟨ia,im,ic⟩ rfl (fun i1 i2 i3=>?_);simp only at i1 i2 i3;refine bN [] 0 fb 0 bK (dS [] (FO fb ⟨some ⟨b,off,none⟩,cm,cc⟩ bn cn dn most sh) fb (0+0) 1 [.slice (some ⟨b,off,none⟩) cm cc,.map (some bn),.map (some cn),.map (some dn),.int .i64 most,sh] (.slice (some ⟨b,off,none⟩) cm cc) bK (.head _) rfl (bI [] 2 b off cm cc .i64 i c hc bK hil (bN [] 1 b (off+i*2) bK (cX [] 1 b (off+i*2+1) (.slice ia im ic) bK (fun I w hd hh=>bH (T:=Lk) b (off+i*2) I w hd hh 1 _ rfl) (gY [] [5,21] (fun a:abB=>[(5,a.v),(21,.int .i64 a.z)]) (fun _=>[]) (fun a=>FO fb ⟨some ⟨b,off,none⟩,cm,cc⟩ bn cn dn most sh++a.O) (fun a=>[qA ⟨ia,im,ic⟩ x.i]) (fun a=>a.z=a.i∧a.i≤im∧cH 1 a.O a.v ((x.i.take a.i).filterMap (mM nm)).length (((x.i.take a.i).filterMap (mM nm)).map (Value.int .i64))) (fun a=>im-a.i) ⟨0,0,.slice none 0 0,[]⟩ ⟨rfl,aH _,cH.nil 1⟩ (eC eK eE) ?_)))));rintro⟨j,z,v,O⟩ K ⟨hz,hj,hg⟩ close;simp only at hz hj hg;by_cases hlt:j<im
 ·obtain⟨y,hy⟩:∃y,x.i[j]? =some y:=⟨_,ah (by omega)⟩;have hyok:=hok y (aM hy);have hlen:((x.i.take j).filterMap (mM nm)).length≤100000:=by
   have h1:=List.length_filterMap_le (mM nm) (x.i.take j);have h2:=List.length_take_le j x.i;omega
  refine vB ⟨ia,im,ic⟩ hy (fun b2 off2 yf yp ha=>?_);simp only at ha;subst ha;refine bh [] 22 (decide (z<(im:Int))) (ar (by omega)) (bI [22] 2 b2 off2 im ic .i64 j z hz bK hlt (cJ [] b2 (off2+j*2) [aY yf,aY yp] bK (bH b2 (off2+j*2)) (W.c0 [] (xA yf yp (x:=y) hyok).mF ?_)));cases hn:ig y with
  |none=>
   refine aO [] 30 (none:Option (List Int)).isSome rfl (close [30] _ _ ⟨j+1,IntKind.i64.wrap (z+1),v,O⟩ (by kernel_rfl) (by kernel_rfl) ⟨by simp only[af];omega,hlt,?_⟩ (by simp only;omega) (eC eK eE));rw[fM hy,List.filterMap_append];simpa [mM,hn]using hg
  |some nn=>
   have Et:mM nm y=some ((gC (strOfNums nn) nm).getD (-1)):=by unfold mM;rw[hn];rfl
   have next:∀v' O',cH 1 O' v' (((x.i.take j).filterMap (mM nm)).length+1) (((x.i.take j).filterMap (mM nm)).map (Value.int .i64)++[.int .i64 ((gC (strOfNums nn) nm).getD (-1))])→cH 1 O' v' ((x.i.take (j+1)).filterMap (mM nm)).length (((x.i.take (j+1)).filterMap (mM nm)).map (Value.int .i64)):=fun v' O' hg'=>by
    rw[fM hy,List.filterMap_append];simpa [Et]using hg'
   refine bh [] 30 (some nn:Option (List Int)).isSome rfl (bN [30] 1 fb 0 bK (dS [] (FO fb ⟨some ⟨b,off,none⟩,cm,cc⟩ bn cn dn most sh++O) fb (0+1) 1 [.slice (some ⟨b,off,none⟩) cm cc,.map (some bn),.map (some cn),.map (some dn),.int .i64 most,sh] (.map (some bn)) bK (.head _) rfl (vC [] ea 69 9 3 true (FO fb ⟨some ⟨b,off,none⟩,cm,cc⟩ bn cn dn most sh++O) [(bn,bV ea (cu nm))] bn (strOfNums nn) (cu nm) (.int .i64 0) bK (.head _) ?_)));rw[mV];cases hk:gC (strOfNums nn) nm with
   |none=>
    rw[hk]at next
    refine bh [] 41 true rfl (cW [41] 1 [.int .i64 (-1)] bK (fun b8=>W.app [] (FO fb ⟨some ⟨b,off,none⟩,cm,cc⟩ bn cn dn most sh++O) (FO fb ⟨some ⟨b,off,none⟩,cm,cc⟩ bn cn dn most sh) O [] 1 8 ((x.i.take j).filterMap (mM nm)).length 1 v (.slice (some ⟨b8,0,none⟩) 1 1) (((x.i.take j).filterMap (mM nm)).map (Value.int .i64)) [.int .i64 (-1)] bK hg (cg b8 _ 1 1 rfl 1) (by simp[Value.oneCell']) (fun v' O' hg'=>close [] _ _ ⟨j+1,IntKind.i64.wrap (z+1),v',O'⟩ (by kernel_rfl) (by simp only[ai];kernel_rfl) ⟨by simp only[af];omega,hlt,next v' O' hg'⟩ (by simp only;omega) (eC eK eE))))
   |some q=>
    rw[hk]at next
    refine aO [] 41 false rfl (cW [41] 1 [.int .i64 q] bK (fun b8=>W.app [] (FO fb ⟨some ⟨b,off,none⟩,cm,cc⟩ bn cn dn most sh++O) (FO fb ⟨some ⟨b,off,none⟩,cm,cc⟩ bn cn dn most sh) O [] 1 8 ((x.i.take j).filterMap (mM nm)).length 1 v (.slice (some ⟨b8,0,none⟩) 1 1) (((x.i.take j).filterMap (mM nm)).map (Value.int .i64)) [.int .i64 q] bK hg (cg b8 _ 1 1 rfl 1) (by simp[Value.oneCell']) (fun v' O' hg'=>close [] _ _ ⟨j+1,IntKind.i64.wrap (z+1),v',O'⟩ (by kernel_rfl) (by simp only[ai];kernel_rfl) ⟨by simp only[af];omega,hlt,next v' O' hg'⟩ (by simp only;omega) (eC eK eE))))
 ·have hx2:x.i.take j=x.i:=aR (by omega);rw[hx2]at hg;refine aO [] 22 (decide (z<(im:Int))) (ak (by omega)) ?_;obtain⟨u,rfl⟩:=iz hg;refine l9 (FO fb ⟨some ⟨b,off,none⟩,cm,cc⟩ bn cn dn most sh) O [] (by rw[ai O];kernel_rfl) hg (fun g5 g1 g2=>ku [22] (aY u) (FO fb ⟨some ⟨b,off,none⟩,cm,cc⟩ bn cn dn most sh) [(bn,bV ea (cu nm))] ⟨u,g5,rfl,rfl,rfl,rfl⟩ (eC (fun I w hd hh=>⟨g5,⟨g1,g2⟩,eK (k:=RA u.ao) I w hd hh⟩) eE))
end
def mg(c:Ce):ByteArray:=strOfNums (qW c)
def ll(s:ByteArray):List Ce→Nat→Option Nat
 | [],_=>none
 |c::r,i=>if s=mg c then some i else ll s r (i+1)
def kr(t:List Ce)(s:ByteArray):Option Nat:=ll s t 0
theorem Gx{s:ByteArray}:∀{t:List Ce} {i k:Nat},ll s t i=some k→i≤k∧k<i+t.length
 | [],i,k,h=>by simp[ll]at h
 |c::r,i,k,h=>by
  unfold ll at h;split at h
  ·injection h with h;subst h;simp
  ·have:=Gx h;simp only[aB];omega
theorem OW{s:ByteArray}{t:List Ce}{k:Nat}(h:kr t s=some k):k<t.length:=by
 have:=Gx h;omega
def yA:List Ce→Nat→List (ByteArray×Int)→List (ByteArray×Int)
 | [],_,nm=>nm
 |c::r,i,nm=>yA r (i+1) (if(gC (mg c) nm).isSome then nm else la (mg c) (i:Int) nm)
def cA(t:List Ce):List (ByteArray×Int):=yA t 0 []
theorem CO(s:ByteArray):∀(t:List Ce) (i:Nat) (nm:List (ByteArray×Int)),gC s (yA t i nm)=match gC s nm with
  |some v=>some v
  |none=>(ll s t i).map fun k:Nat=>(k:Int)
 | [],i,nm=>by cases h:gC s nm<;>simp[yA,ll,h]
 |c::r,i,nm=>by
  unfold yA ll;rw[CO s r (i+1)];by_cases hs:s=mg c
  ·subst hs;cases h:gC (mg c) nm with
   |some v=>simp[h]
   |none=>simp[iI]
  ·cases h:gC (mg c) nm with
   |some v=>simp[hs]
   |none=>simp[iI,hs]
theorem vW(s:ByteArray)(t:List Ce):gC s (cA t)=(kr t s).map fun k:Nat=>(k:Int):=by
 unfold cA;rw[CO];rfl
def j6(t:List Ce)(x:Im):Option Nat:=(ig x).bind fun s=>kr t (strOfNums s)
def iA(t:List Ce)(c:Nat):List Im:=(t.getD c ⟨[],[]⟩).i
def eS(t:List Ce)(c:Nat):List Nat:=(iA t c).filterMap (j6 t)
def pD(t:List Ce)(c:Ce):Bool:=c.i.any fun x=>(ig x).isSome&&(j6 t x).isNone
def lost(t:List Ce):Bool:=t.any (pD t)
theorem tO(t:List Ce)(x:Im):mM (cA t) x=(ig x).map fun s=>match kr t (strOfNums s)with
  |some k=>(k:Int)
  |none=> -1:=by
 unfold mM;cases ig x with
 |none=>rfl
 |some s=>
  simp only[di,vW];cases kr t (strOfNums s)<;>rfl
theorem Ja{t:List Ce}{c:Ce}(h:pD t c=false):i_ (cA t) c=(c.i.filterMap (j6 t)).map fun k:Nat=>(k:Int):=by
 unfold i_;unfold pD at h;rw[dO]at h;revert h;generalize c.i=l;intro h
 induction l with
 |nil=>rfl
 |cons x l ih=>
  have hx:=h x (by simp);have hl:=ih (fun y hy=>h y (by simp[hy]));cases hn:ig x with
  |none=>
   rw[oL (by rw[tO,hn];rfl),oL (by unfold j6;rw[hn];rfl)];exact hl
  |some s=>
   cases hi:kr t (strOfNums s)with
   |none=>unfold j6 at hx;simp[hn,hi]at hx
   |some k=>
    rw[kC (b:=(k:Int)) (by rw[tO,hn];simp[hi]),kC (b:=k) (by unfold j6;rw[hn];simp[hi]),bQ,hl]
theorem uY{t:List Ce}{c:Ce}:(∃k∈i_ (cA t) c,k<0)↔pD t c=true:=by
 unfold i_ pD;simp only[List.mem_filterMap,nR,tO];constructor
 ·rintro⟨k,⟨x,hx,hk⟩,h0⟩;refine⟨x,hx,?_⟩;unfold j6;cases hn:ig x with
  |none=>rw[hn]at hk;simp at hk
  |some s=>
   rw[hn]at hk;simp only[di,aq,k7,vT,dK]at hk⊢;cases hi:kr t (strOfNums s)with
   |none=>rfl
   |some j=>
    rw[hi]at hk;simp only at hk;omega
 ·rintro⟨x,hx,h⟩;cases hn:ig x with
  |none=>rw[hn]at h;simp at h
  |some s=>
   unfold j6 at h;rw[hn]at h;simp only[k7,vT,dK]at h;have hi:kr t (strOfNums s)=none:=by simpa using h
   exact⟨-1,⟨x,hx,by rw[hn];simp[hi]⟩,by decide⟩
def ph(t:List Ce):List Ce→Nat→Bool
 | [],_=>false
 |c::r,i=> !(kr t (mg c)==some i)||ph t r (i+1)
def v_(t:List Ce):Bool:=ph t t 0
theorem A_{s:ByteArray}:∀{t:List Ce} {i:Nat},(∃c∈t,mg c=s)→∃k,ll s t i=some k
 | [],i,h=>by obtain⟨c,hc,_⟩:=h;simp at hc
 |c::r,i,h=>by
  unfold ll;split
  ·exact⟨_,rfl⟩
  ·rename_i hne;obtain⟨d,hd,he⟩:=h;simp only[aF]at hd;rcases hd with rfl|hd
   ·exact absurd he.symm hne
   ·exact A_ ⟨d,hd,he⟩
def js(g:Nat→Option Nat):List Nat→Nat→Option Nat
 | [],m=>some m
 |k::r,m=>match g k with
  |some d=>js g r (max m d)
  |none=>none
def dep(t:List Ce):Nat→Nat→Option Nat
 |0,_=>none
 |n+1,c=>(js (dep t n) (eS t c) 0).map (· +1)
theorem lC{g:Nat→Option Nat}:∀{l:List Nat} {m r:Nat},js g l m=some r→m≤r∧∀k∈l,∃d,g k=some d∧d≤r
 | [],m,r,h=>by
  simp only[js,aq]at h;subst h;exact⟨aj _,fun k hk=>by simp at hk⟩
 |k::l,m,r,h=>by
  unfold js at h;cases hg:g k with
  |none=>rw[hg]at h;simp at h
  |some d=>
   rw[hg]at h;obtain⟨h1,h2⟩:=lC h;refine⟨by omega,fun j hj=>?_⟩;simp only[aF]at hj;rcases hj with rfl|hj
   ·exact⟨d,hg,by omega⟩
   ·exact h2 j hj
theorem m_{g g':Nat→Option Nat}:∀{l:List Nat} {m:Nat},(∀k∈l,g k=g' k)→js g l m=js g' l m
 | [],m,_=>rfl
 |k::l,m,h=>by
  unfold js;rw[h k (by simp)];cases g' k with
  |none=>rfl
  |some d=>exact m_ fun j hj=>h j (by simp[hj])
theorem F_{t:List Ce}:∀{n c d:Nat},dep t n c=some d→dep t (n+1) c=some d
 |0,c,d,h=>by simp[dep]at h
 |n+1,c,d,h=>by
  unfold dep at h⊢;rw[←h];have hs:∃r,js (dep t n) (eS t c) 0=some r:=by
   cases hq:js (dep t n) (eS t c) 0 with
   |none=>rw[hq]at h;simp at h
   |some r=>exact⟨r,rfl⟩
  obtain⟨r,hr⟩:=hs;congr 1;refine m_ fun k hk=>?_;obtain⟨d',h1,h2⟩:=(lC hr).2 k hk;rw[h1];exact F_ h1
theorem nX{t:List Ce}{n c d:Nat}(h:dep t n c=some d):∀{m:Nat},n≤m→dep t m c=some d
 |m,hm=>by
  induction m with
  |zero=>
   obtain rfl:n=0:=by omega
   exact h
  |succ m ih=>
   by_cases hnm:n≤m
   ·exact F_ (ih hnm)
   ·obtain rfl:n=m+1:=by omega
    exact h
theorem NT{t:List Ce}{n m c d e:Nat}(h:dep t n c=some d)(g:dep t m c=some e):d=e:=by
 have h1:=nX h (m:=max n m) (by omega);have h2:=nX g (m:=max n m) (by omega);rw[h1]at h2;exact Option.some.inj h2
theorem Ei{t:List Ce}{n c d:Nat}(h:dep t n c=some d):0<d:=by
 cases n with
 |zero=>simp[dep]at h
 |succ n=>
  unfold dep at h;cases hq:js (dep t n) (eS t c) 0 with
  |none=>rw[hq]at h;simp at h
  |some r=>
   rw[hq]at h;simp only[di,aq]at h;omega
theorem NS{t:List Ce}:∀{n c d:Nat},dep t n c=some d→d≤n
 |0,c,d,h=>by simp[dep]at h
 |n+1,c,d,h=>by
  unfold dep at h;cases hq:js (dep t n) (eS t c) 0 with
  |none=>rw[hq]at h;simp at h
  |some r=>
   rw[hq]at h;simp only[di,aq]at h;have key:∀(l:List Nat) (m:Nat),js (dep t n) l m=some r→r≤max m n:=by
    intro l
    induction l with
    |nil=>intro m hm;simp only[js,aq]at hm;omega
    |cons k l ih=>
     intro m hm;unfold js at hm;cases hg:dep t n k with
     |none=>rw[hg]at hm;simp at hm
     |some e=>
      rw[hg]at hm;have:=ih _ hm;have:=NS hg;omega
   have:=key _ _ hq;omega
def sY(t:List Ce)(c d:Nat):Prop:=∃n,dep t n c=some d
theorem sY.kid{t:List Ce}{c d k:Nat}(h:sY t c d)(hk:k∈eS t c):∃e,sY t k e∧e<d:=by
 obtain⟨n,h⟩:=h;cases n with
 |zero=>simp[dep]at h
 |succ n=>
  unfold dep at h;cases hq:js (dep t n) (eS t c) 0 with
  |none=>rw[hq]at h;simp at h
  |some r=>
   rw[hq]at h;simp only[di,aq]at h;obtain⟨e,h1,h2⟩:=(lC hq).2 k hk;exact⟨e,⟨n,h1⟩,by omega⟩
theorem sY.uniq{t:List Ce}{c d e:Nat}(h:sY t c d)(g:sY t c e):d=e:=by
 obtain⟨n,h⟩:=h;obtain⟨m,g⟩:=g;exact NT h g
theorem sY.of{t:List Ce}{c:Nat}{g:Nat→Option Nat}{r:Nat}(h:js g (eS t c) 0=some r)(hg:∀k d,g k=some d→sY t k d):sY t c (r+1):=by
 have key:∀(l:List Nat) (m:Nat),js g l m=some r→∃n,js (dep t n) l m=some r:=by
  intro l
  induction l with
  |nil=>intro m hm;exact⟨0,hm⟩
  |cons k l ih=>
   intro m hm;unfold js at hm;cases hk:g k with
   |none=>rw[hk]at hm;simp at hm
   |some d=>
    rw[hk]at hm;obtain⟨n1,h1⟩:=ih _ hm;obtain⟨n2,h2⟩:=hg k d hk;refine⟨max n1 n2,?_⟩;unfold js;rw[nX h2 (by omega)];simp only;rw[←h1];refine m_ fun j hj=>?_;obtain⟨e,h3,_⟩:=(lC h1).2 j hj;rw[h3];exact nX h3 (by omega)
 obtain⟨n,hn⟩:=key _ _ h;exact⟨n+1,by unfold dep;rw[hn];rfl⟩
theorem F9{g:Nat→Option Nat}:∀{l:List Nat} {a m:Nat},js g l a=some m→m=a∨∃k∈l,g k=some m
 | [],a,m,h=>by
  simp only[js,aq]at h;exact .inl h.symm
 |k::l,a,m,h=>by
  unfold js at h;cases hg:g k with
  |none=>rw[hg]at h;simp at h
  |some d=>
   rw[hg]at h;rcases F9 h with h|⟨j,hj,hm⟩
   ·by_cases hd:d≤a
    ·exact .inl (by omega)
    ·exact .inr ⟨k,by simp,by rw[hg,h];congr 1;omega⟩
   ·exact .inr ⟨j,by simp[hj],hm⟩
theorem sY.some_kid{t:List Ce}{c d:Nat}(h:sY t c d):(d=1)∨(eS t c≠ []∧∃k∈eS t c,∃e,sY t k e∧d=e+1):=by
 obtain⟨n,h⟩:=h;cases n with
 |zero=>simp[dep]at h
 |succ n=>
  unfold dep at h;cases hq:js (dep t n) (eS t c) 0 with
  |none=>rw[hq]at h;simp at h
  |some r=>
   rw[hq]at h;simp only[di,aq]at h;rcases F9 hq with h0|⟨k,hk,hm⟩
   ·exact .inl (by omega)
   ·exact .inr ⟨fun e=>by rw[e]at hk;simp at hk,k,hk,r,⟨n,hm⟩,h.symm⟩
theorem su{f g:Nat→Nat}{c a:Nat}:∀{l:List Nat},c∈l→(∀j∈l,f j≤g j)→f c+a≤g c→(l.map f).sum+a≤(l.map g).sum
 | [],h,_,_=>by simp at h
 |j::l,h,h1,h2=>by
  have hle:∀l':List Nat,(∀j∈l',f j≤g j)→(l'.map f).sum≤(l'.map g).sum:=by
   intro l'
   induction l' with
   |nil=>intro _;exact aj _
   |cons x l' ih=>
    intro hx;have:=hx x (by simp);have:=ih fun y hy=>hx y (by simp[hy]);simp only[bQ,dC];omega
  simp only[bQ,dC];simp only[aF]at h;rcases h with rfl|h
  ·have:=hle l fun y hy=>h1 y (by simp[hy]);omega
  ·have:=su h (fun y hy=>h1 y (by simp[hy])) h2;have:=h1 j (by simp);omega
open Classical in
theorem So{t:List Ce}{w:Nat→Nat}{A B:Nat}(hA:∀j,j<t.length→eS t j≠ []→A≤w j)(hB:∀j,j<t.length→B≤w j)(hk:∀c k,k∈eS t c→k<t.length):
  ∀(d c:Nat),c<t.length→sY t c d→A*(d-1)+B≤((List.range t.length).map fun j=>if ∃e,e≤d∧sY t j e then w j else 0).sum:=by
 intro d
 induction d with
 |zero=>
  intro c _ ⟨n,hd⟩;have:=Ei hd;omega
 |succ d ih=>
  intro c hc hd;rcases hd.some_kid with h1|⟨hne,k,hkm,e,hke,hde⟩
  ·have:=su (f:=fun _=>0) (g:=fun j=>if ∃e,e≤d+1∧sY t j e then w j else 0) (c:=c) (a:=B) (l:=List.range t.length) (by simpa using hc) (fun j _=>aH _) (by
    simp only[bU];rw[if_pos ⟨d+1,aj _,hd⟩];exact hB c hc)
   obtain rfl:d=0:=by omega
   simp at this⊢;omega
  ·obtain rfl:e=d:=by omega
   have h2:=ih k (hk c k hkm) hke;have h3:=su (f:=fun j=>if ∃e',e'≤e∧sY t j e' then w j else 0) (g:=fun j=>if ∃e',e'≤e+1∧sY t j e' then w j else 0) (c:=c) (a:=A) (l:=List.range t.length) (by simpa using hc) (fun j _=>by
    by_cases hj:∃e',e'≤e∧sY t j e'
    ·obtain⟨e',h4,h5⟩:=hj;rw[if_pos ⟨e',h4,h5⟩,if_pos ⟨e',by omega,h5⟩];exact aj _
    ·rw[if_neg hj];exact aH _) (by
    have hno:¬ ∃e',e'≤e∧sY t c e':=fun⟨e',h4,h5⟩=>by
     have:=hd.uniq h5;omega
    rw[if_neg hno,if_pos ⟨e+1,aj _,hd⟩,bU];exact hA c hc hne)
   obtain⟨n,hn⟩:=hke;have hp:=Ei hn;have e1:A*(e+1-1)=A*(e-1)+A:=by
    obtain⟨q,rfl⟩:∃q,e=q+1:=⟨e-1,by omega⟩;simp[fD]
   omega
theorem nG{t:List Ce}{c k:Nat}(h:k∈eS t c):k<t.length:=by
 unfold eS at h;obtain⟨x,_,hx⟩:=List.mem_filterMap.1 h;unfold j6 at hx;cases hn:ig x with
 |none=>rw[hn]at hx;simp at hx
 |some s=>
  rw[hn]at hx;exact OW hx
open Classical in
theorem LL{t:List Ce}{c d:Nat}(hc:c<t.length)(h:sY t c d):d≤t.length:=by
 have h1:=So (t:=t) (w:=fun _=>1) (A:=1) (B:=1) (fun _ _ _=>aj _) (fun _ _=>aj _) (fun c k hk=>nG hk) d c hc h;have h2:∀l:List Nat,(l.map fun j=>if ∃e,e≤d∧sY t j e then 1 else 0).sum≤l.length:=by
  intro l
  induction l with
  |nil=>exact aj _
  |cons x l ih=>
   simp only[bQ,dC,aB];split<;>omega
 have:=h2 (List.range t.length);rw[ib]at this;omega
inductive Nu(t:List Ce):Nat→Nat→Prop
 |one {a b:Nat}:b∈eS t a→Nu t a b
 |more {a b c:Nat}:b∈eS t a→Nu t b c→Nu t a c
theorem Nu.trans{t:List Ce}{a b c:Nat}(h:Nu t a b)(g:Nu t b c):Nu t a c:=by
 induction h with
 |one h=>exact .more h g
 |more h _ ih=>exact .more h (ih g)
theorem Nu.dep{t:List Ce}{a b d:Nat}(h:Nu t a b)(hd:sY t a d):∃e,sY t b e∧e<d:=by
 induction h generalizing d with
 |one h=>exact hd.kid h
 |more h _ ih=>
  obtain⟨e,h1,h2⟩:=hd.kid h;obtain⟨e',h3,h4⟩:=ih h1;exact⟨e',h3,by omega⟩
theorem S4{t:List Ce}{a d:Nat}(h:Nu t a a):¬sY t a d:=fun hd=>by
 obtain⟨e,h1,h2⟩:=h.dep hd;have:=hd.uniq h1;omega
def Zw(t:List Ce):Prop:=∃c,c<t.length∧∀d,¬sY t c d
def Kf(t:List Ce):Prop:=∃c,c<t.length∧dep t 64 c=none
def jg(t:List Ce)(g:Nat→Int)(x:Im):Int:=
 if cz x=8∨cz x=45 then 1 else if cz x=9 then(if jk x=[]then 0 else 1)
 else if cz x=10∨cz x=11 then(match j6 t x with
  |some k=>g k*(bJ x).1*(bJ x).2
  |none=>0)else 0
def jc(t:List Ce):Nat→Nat→Int
 |0,_=>0
 |n+1,c=>((iA t c).map (jg t (jc t n))).sum
structure Sh where
 a:Int
 k:Int
 p:List Dp
abbrev LR:=Except Int (List Sh)
def gl{α:Type}(f:α→LR):List α→LR
 | []=>.ok []
 |a::l=>match f a with
  | .error e=>.error e
  | .ok s=>match gl f l with
   | .error e=>.error e
   | .ok s'=>.ok (s++s')
def gS:List (Sn×Sn)→Except Int (List Dp)
 | []=>.ok []
 |p::r=>if tN p.1.nr∧tN p.2.nr then(match gS r with
   | .ok l=>.ok (⟨p.1.nr,p.2.nr⟩::l)
   | .error e=>.error e)else .error 26
def iU(x:Im)(l:List (Sn×Sn)):LR:=match gS l with
 | .ok p=>.ok [⟨cC x 13 0,if cz x=45 then cC x 46 0 else cC x 14 0,p⟩]
 | .error e=>.error e
def farP(V:On)(p:Sn×Sn):Option (Sn×Sn):=
 if p.1.m≤2∧p.1.n≤2 then
  some (r2 (V.u0 p.1.n0 p.1.n1 p.2.n0 p.2.n1) (V.u1 p.1.n0 p.1.n1 p.2.n0 p.2.n1),r2 (V.v0 p.1.n0 p.1.n1 p.2.n0 p.2.n1) (V.v1 p.1.n0 p.1.n1 p.2.n0 p.2.n1))
 else if V.o % 2≠0∨V.b≠0∨V.d≠0 then none
 else some (V.farX p.1 p.2,V.farY p.1 p.2)
def farL(V:On):List (Sn×Sn)→List (Sn×Sn)×Bool
 | []=>([],true)
 |p::r=>match farP V p with
  |some q=>(q::(farL V r).1,(farL V r).2)
  |none=>([],false)
def Gi(a b:Int):Rat:=Rat.divInt a b
def pH(of:Dp→Int)(p:List Dp)(cols rows i k:Int):Rat:=
 if p.length=3 then((of (p.getD 0 ⟨0,0⟩):Rat)+Gi ((of (p.getD 1 ⟨0,0⟩)-of (p.getD 0 ⟨0,0⟩))*i) cols)+Gi ((of (p.getD 2 ⟨0,0⟩)-of (p.getD 0 ⟨0,0⟩))*k) rows
 else(of (p.getD 0 ⟨0,0⟩):Rat)
def tX(x:Im)(i k:Int):On:=⟨qH x,oI x,lO x,pH Dp.x (bT x) (bJ x).1 (bJ x).2 i k,0,pH Dp.y (bT x) (bJ x).1 (bJ x).2 i k,0⟩
def nv(t:List Ce)(n:Nat)(g:Nat→On→LR)(x:Im)(V:On):LR:=
 match j6 t x with
  |none=>.ok []
  |some c=>if jc t n c=0 then .ok []
   else gl (fun k:Nat=>gl (fun i:Nat=>g c ((tX x i k).then V)) (List.range (bJ x).1.toNat)) (List.range (bJ x).2.toNat)
def Ea(V:On)(p:Dp):Sn×Sn:=(V.X p.x p.y,V.Y p.x p.y)
def jN(t:List Ce)(n:Nat)(g:Nat→On→LR)(V:On)(x:Im):LR:=
 if cz x=8∨cz x=45 then iU x ((bT x).dropLast.map (Ea V))
 else if cz x=9 then
  (if(farL V (jk x)).2=true then(if jk x=[]then .ok []else iU x (farL V (jk x)).1)
   else match gS (farL V (jk x)).1 with
   | .ok _=>.error 25
   | .error e=>.error e)
 else if cz x=10∨cz x=11 then nv t n g x V
 else .ok []
def fL(t:List Ce):Nat→Nat→On→LR
 |0,_,_=>.ok []
 |n+1,c,V=>gl (jN t n (fL t n) V) (iA t c)
def eN(t:List Ce)(c:Nat):Bool:=(List.range t.length).any fun a=>(eS t a).contains c
def tF(t:List Ce):Bool:=v_ t||t.any fun c=>c.i.any fun x=> !iB x
def mZ(t:List Ce)(c:Nat):Int:=if eN t c=true then 0 else jc t 64 c
def sP(t:List Ce):Int:=((List.range t.length).map (mZ t)).sum
def yo(t:List Ce)(c:Nat):LR:=if eN t c=true then .ok []else fL t 64 c Fm
def zH(t:List Ce):LR:=gl (yo t) (List.range t.length)
open Classical in
noncomputable def pt (t:List Ce) (n:Int):LR:=
 if lost t=true then .error 23 else if Zw t then .error 24 else if tF t=true∨Kf t then .error 25 else if sP t>n then .error 27 else zH t
open Classical in
noncomputable def mL (t:Li) (n:Int):LR:=
 if n<0∨n>100000 then .error 1 else if lS t=false then .error 20 else pt t.c n
theorem lJ{p q:oy (List Re)}{l x m:List Re}(h:fP p q l=some (x,m)):∃a b m1,p l=some (a,m1)∧q m1=some (b,m)∧x=a++b:=by
 unfold fP at h;split at h
 ·rename_i a m1 h1;split at h
  ·rename_i b m2 h2;simp only[aq,aG]at h;obtain⟨rfl,rfl⟩:=h;exact⟨a,b,m1,h1,h2,rfl⟩
  ·simp at h
 ·simp at h
theorem ns{k:Int}{ks:List Int}{l x m:List Re}(h:dq (k::ks) l=some (x,m))(hk:0≤k∧k<256:=by decide):∃r x',x=r::x'∧r.k=k∧fr r=true:=by
 unfold dq at h;rw[if_pos (.inl hk.2)]at h;split at h
 ·rename_i r m1 h1;split at h
  ·rename_i rs m2 h2;simp only[aq,aG]at h;obtain⟨rfl,rfl⟩:=h;obtain⟨_,h3,h4⟩:=fO h1;exact⟨r,rs,rfl,by omega,h4⟩
  ·simp at h
 ·simp at h
theorem ju.fields{x:Im}(h:ju x):∃r f m,x.f=r::f∧pB r.k=true∧fP (dq [r.k,294,303]) (gJ r.k) (fQ x)=some (x.f,m):=by
 obtain⟨h1,h2⟩:=h;cases hl:fQ x with
 |nil=>rw[hl]at h1;simp[eg]at h1
 |cons r l=>
  rw[hl]at h1 h2;simp only[eg]at h1;unfold fZ at h2;split at h2
  ·rename_i f m1 hf;obtain⟨⟨f',rfl⟩,g1⟩:=xJ h1 hf;split at h2
   ·rename_i p m2 hp;split at h2
    ·rename_i r' m3 hm;simp only[aq,aG]at h2;obtain⟨rfl,rfl⟩:=h2;exact⟨r,f',m1,rfl,h1,hf⟩
    ·simp at h2
   ·simp at h2
  ·simp at h2
theorem ju.im{x:Im}(h:ju x):qu x:=by
 obtain⟨r,f,m,hf,_,hp⟩:=h.fields;exact⟨by rw[hf];simp,(f_ (cU _) (pN _)).2 _ _ _ hp⟩
theorem ju.kind{x:Im}(h:ju x):cz x=8∨cz x=9∨cz x=10∨cz x=11∨cz x=12∨cz x=21∨cz x=45:=by
 obtain⟨r,f,m,hf,hk,_⟩:=h.fields;unfold cz;rw[hf];simp only[pB,dI,eJ]at hk;simp only[List.headD_cons];omega
theorem Od{l:List Re}{k:Int}(h:∃r∈l,r.k=k):∃r,l.find? (fun r=>r.k==k)=some r:=by
 obtain⟨r,hr,hk⟩:=h;cases hf:l.find? (fun r=>r.k==k)with
 |some q=>exact⟨q,rfl⟩
 |none=>
  have:=List.find?_eq_none.1 hf r hr;simp[hk]at this
theorem ju.ref{x:Im}(h:ju x)(hk:cz x=10∨cz x=11):∃s,ig x=some s:=by
 obtain⟨r,f,m,hf,_,hp⟩:=h.fields;have hr:r.k=cz x:=by unfold cz;rw[hf];rfl
 obtain⟨a,b,m1,_,h2,hx⟩:=lJ hp;have key:∀q,fP (dq [18]) q m1=some (b,m)→∃s,ig x=some s:=by
  intro q hq;obtain⟨c,d,m2,h3,_,rfl⟩:=lJ hq;obtain⟨r',c',rfl,hk',_⟩:=ns h3;obtain⟨s,hs⟩:=Od (l:=x.f) (k:=18) ⟨r',by rw[hx];simp,hk'⟩;exact⟨fI s.b,by unfold ig dJ;rw[hs];rfl⟩
 rcases hk with hk|hk<;>rw[hr,hk]at h2
 ·exact key _ h2
 ·exact key _ h2
def Nh(r:Re):Prop:=kU r.b
def Ys(c:Ce):Prop:=∀x∈c.i,∀r∈x.f,Nh r
theorem XS{a b:Int}(ha:0≤a∧a<256)(hb:0≤b∧b<256): -32768≤XR a b∧XR a b≤32767:=by
 unfold XR;split<;>omega
theorem XU{a b c d:Int}(ha:0≤a∧a<256)(hb:0≤b∧b<256)(hc:0≤c∧c<256)(hd:0≤d∧d<256): -2147483648≤TG a b c d∧TG a b c d≤2147483647:=by
 unfold TG;split<;>omega
theorem DM:∀{l:List Int},kU l→∀z∈dU l,-32768≤z∧z≤32767
 | [],_,z,h=>by simp[dU]at h
 | [_],_,z,h=>by simp[dU]at h
 |a::b::r,hb,z,h=>by
  simp only[dU,aF]at h;rcases h with rfl|h
  ·exact XS (hb a (by simp)) (hb b (by simp))
  ·exact DM (fun y hy=>hb y (by simp[hy])) z h
theorem GM:∀{l:List Int},kU l→∀z∈e_ l,-2147483648≤z∧z≤2147483647
 | [],_,z,h=>by simp[e_]at h
 | [_],_,z,h=>by simp[e_]at h
 | [_,_],_,z,h=>by simp[e_]at h
 | [_,_,_],_,z,h=>by simp[e_]at h
 |a::b::c::d::r,hb,z,h=>by
  simp only[e_,aF]at h;rcases h with rfl|h
  ·exact XU (hb a (by simp)) (hb b (by simp)) (hb c (by simp)) (hb d (by simp))
  ·exact GM (fun y hy=>hb y (by simp[hy])) z h
theorem Gn{l:List Int}{A B:Int}(h:∀z∈l,A≤z∧z≤B)(k:Nat)(h0:A≤0∧0≤B:=by decide):A≤l.getD k 0∧l.getD k 0≤B:=by
 rw[dw];cases hk:l[k]? with
 |none=>simpa using h0
 |some z=>exact h z (aM hk)
theorem wZ{x:Im}(h:∀r∈x.f,Nh r):(bJ x).1≤32767∧(bJ x).2≤32767:=by
 unfold bJ;cases hf:dJ x 19 with
 |none=>exact⟨by decide,by decide⟩
 |some r=>
  have hb:=DM (h r (kO hf).1);have h0:=Gn hb 0;have h1:=Gn hb 1;simp only;refine⟨?_,h1.2⟩;cases hs:dU r.b with
  |nil=>simp
  |cons a l=>rw[hs]at h0;simpa using h0.2
theorem Hp{A B:Int}:∀{l:List Int},(∀z∈l,A≤z∧z≤B)→∀d∈kh l,(A≤d.x∧d.x≤B)∧A≤d.y∧d.y≤B
 | [],_,d,h=>by simp[kh]at h
 | [_],_,d,h=>by simp[kh]at h
 |a::b::r,hb,d,h=>by
  simp only[kh,aF]at h;rcases h with rfl|h
  ·exact⟨hb a (by simp),hb b (by simp)⟩
  ·exact Hp (fun y hy=>hb y (by simp[hy])) d h
theorem yL{x:Im}(h:∀r∈x.f,Nh r):∀d∈bT x,(-2147483648≤d.x∧d.x≤2147483647)∧ -2147483648≤d.y∧d.y≤2147483647:=by
 unfold bT;cases hf:dJ x 16 with
 |none=>intro d hd;simp at hd
 |some r=>exact Hp (GM (h r (kO hf).1))
theorem nw{x:Im}(h:iB x=true)(hk:cz x=10∨cz x=11):jb x=true∧0<(bJ x).1∧0<(bJ x).2∧((bT x).length=1∨(bT x).length=3):=by
 unfold iB at h;rcases hk with hk|hk<;>rw[hk]at h<;>simp at h
 ·exact⟨h.1.1.1,h.1.1.2,h.1.2,.inl h.2⟩
 ·exact⟨h.1.1.1,h.1.1.2,h.1.2,.inr h.2⟩
theorem E5{x:Im}(h:iB x=true)(hk:cz x=8∨cz x=45):4≤(bT x).length:=by
 unfold iB at h;rcases hk with hk|hk<;>rw[hk]at h<;>simp at h
 ·exact h.1
 ·omega
theorem JS{x:Im}(h:jb x=true):nD x=false∧0<(lO x).num.sign:=by
 unfold jb at h;simp only[aK,cF,cY]at h;exact⟨h.1,h.2.1⟩
theorem wU{t:List Ce}:∀{n c d:Nat},dep t n c=some d→jc t (n+1) c=jc t n c
 |0,c,d,h=>by simp[dep]at h
 |n+1,c,d,h=>by
  have hr:∃r,js (dep t n) (eS t c) 0=some r:=by
   unfold dep at h;cases hq:js (dep t n) (eS t c) 0 with
   |none=>rw[hq]at h;simp at h
   |some r=>exact⟨r,rfl⟩
  obtain⟨r,hr⟩:=hr;unfold jc;congr 1;refine jz fun x hx=>?_;unfold jg;cases hk:j6 t x with
  |none=>rfl
  |some k=>
   have hkm:k∈eS t c:=List.mem_filterMap.2 ⟨x,hx,hk⟩;obtain⟨e,he,_⟩:=(lC hr).2 k hkm;simp only;rw[wU he]
section
variable{N M K J:Nat}{p q r s:Rat}
theorem cq.int{z:Int}(h:z.natAbs≤K):cq 1 K (z:Rat):=⟨z,by rw[show((1:Nat):Rat)=1 from rfl,sT],h⟩
theorem cq.zero(N K:Nat):cq N K 0:=⟨0,by rw[Rat.zero_mul];rfl,aH _⟩
theorem zM{z:Int}(M:Nat)(h:z.natAbs≤K):cq M (M*K) (z:Rat):=by
 have:=(cq.int h).scale M
 rwa [fE]at this
theorem cq.mulI{z:Int}(hq:cq M K q)(h:z.natAbs≤J):cq M (K*J) (q*(z:Rat)):=by
 have:=hq.mul (cq.int h)
 rwa [fE]at this
theorem x9{z:Int}(h:0<z):cq z.toNat 1 (Rat.divInt 1 z):=⟨1,by
 have e:((z.toNat:Nat):Rat)=(z:Rat):=by
  have:((z.toNat:Nat):Int)=z:=ov (qy h)
  calc((z.toNat:Nat):Rat)=(((z.toNat:Nat):Int):Rat):=rfl
   _=(z:Rat):=by rw[this]
 have hne:(z:Rat)≠0:=fun e0=>by
  have:z=0:=Rat.intCast_inj.1 e0;omega
 rw[e,jn,lz,Rat.mul_assoc,Rat.inv_mul_cancel _ hne,sT],by decide⟩
end
def cS(N K:Nat)(S:Sn):Prop:=cq N K S.p∧cq N K S.q∧cq N K S.r∧cq N K S.s
theorem cS.neg{N K:Nat}{S:Sn}(h:cS N K S):cS N K S.neg:=⟨h.1.neg,h.2.1.neg,h.2.2.1.neg,h.2.2.2.neg⟩
structure Lu(P:Sn×Sn):Prop where
 em:P.2.m=P.1.m
 en:P.2.n=P.1.n
 m0:0≤P.1.m
 n0:0≤P.1.n
 mb:P.1.m.natAbs<2^67
 nb:P.1.n.natAbs<2^67
 c:∃M,0<M∧M≤2^136∧cS M (2^170) P.1∧cS M (2^170) P.2
structure YZ(M:Nat)(q:Pa):Prop where
 x:q.d.x.natAbs<2^34
 y:q.d.y.natAbs<2^34
 a:cq M (2^101) q.a
 b:cq M (2^101) q.b
 c:cq M (2^101) q.c
 e:cq M (2^101) q.e
theorem ui{M:Nat}(hM:M≤2^136){q r s:Rat}{d e:Int}(hq:cq M (2^167) q)(hr:cq M (2^101) r)(hs:cq M (2^101) s)(hd:d.natAbs<2^34)(he:e.natAbs<2^34):cq M (2^170) (q+r*(d:Rat)+s*(e:Rat)):=
 ((hq.add (hr.mulI (gg hd))).add (hs.mulI (gg he))).mono (by decide)
theorem qh{M:Nat}(hM:M≤2^136){q r:Rat}{d:Int}(hq:cq M (2^167) q)(hr:cq M (2^101) r)(hd:d.natAbs<2^34):cq M (2^170) (q+r*(d:Rat)):=
 (hq.add (hr.mulI (gg hd))).mono (by decide)
theorem Kv{M:Nat}(hM:M≤2^136){z:Int}(h: -2147483648≤z∧z≤2147483648:=by omega):cq M (2^167) (z:Rat):=
 (zM M (K:=2^31) (by show z.natAbs≤2147483648;omega)).mono (aP (aX hM (aj _)) (by decide))
theorem ID{M:Nat}(h0:0<M)(hM:M≤2^136){m n:Int}{p:Dp}{u v:Pa}(hm0:0≤m)(hn0:0≤n)(hm:m.natAbs<2^67)(hn:n.natAbs<2^67)(hp:iL 2147483648 p)(hu:YZ M u)(hv:YZ M v):Lu (al m n p [u,v]):=by
 unfold iL at hp;have px:=Kv hM (z:=p.x);have py:=Kv hM (z:=p.y);have z0:=cq.zero M (2^167);exact⟨rfl,rfl,hm0,hn0,hm,hn,M,h0,hM,⟨ui hM px hu.a hv.a hu.x hv.x,ui hM z0 hu.b hv.b hu.x hv.x,ui hM z0 hu.c hv.c hu.x hv.x,ui hM z0 hu.e hv.e hu.x hv.x⟩,
  ⟨ui hM py hu.a hv.a hu.y hv.y,ui hM z0 hu.b hv.b hu.y hv.y,ui hM z0 hu.c hv.c hu.y hv.y,ui hM z0 hu.e hv.e hu.y hv.y⟩⟩
theorem Zh{M:Nat}(h0:0<M)(hM:M≤2^136){m n:Int}{p:Dp}{u:Pa}(hm0:0≤m)(hn0:0≤n)(hm:m.natAbs<2^67)(hn:n.natAbs<2^67)(hp:iL 2147483648 p)(hu:YZ M u):Lu (al m n p [u]):=by
 unfold iL at hp;have px:=Kv hM (z:=p.x);have py:=Kv hM (z:=p.y);have z0:=cq.zero M (2^167);exact⟨rfl,rfl,hm0,hn0,hm,hn,M,h0,hM,⟨qh hM px hu.a hu.x,qh hM z0 hu.b hu.x,qh hM z0 hu.c hu.x,qh hM z0 hu.e hu.x⟩,
  ⟨qh hM py hu.a hu.y,qh hM z0 hu.b hu.y,qh hM z0 hu.c hu.y,qh hM z0 hu.e hu.y⟩⟩
def CE(d:Dp):Nat:=2*(2*(kA d).toNat)
theorem Fc{d e:Dp}{q:Rat}(hd:iL 4294967296 d)(h0:0<kA d)(he:kA d=kA e)(hq:cq 2 (2^34) q):YZ (CE e) (jQ d q):=by
 have g:cq (CE e) (2^101) (q*Rat.divInt 1 (kA d)):=by
  have:=(hq.mul (x9 h0)).scale 2;rw[he]at this⊢;exact this.mono (by decide)
 exact⟨(lM hd).1,(lM hd).2,cq.zero _ _,g,cq.zero _ _,cq.zero _ _⟩
theorem E_{d e:Dp}{q:Rat}(hd:iL 4294967296 d)(h0:0<kA d)(he:kA d=kA e)(hq:cq 2 (2^34) q):YZ (CE e) (lK d q):=by
 have g:cq (CE e) (2^101) (q*Rat.divInt 1 (kA d*2)):=by
  have:=hq.mul (x9 (show 0<kA d*2 by omega));rw[show 2*(kA d*2).toNat=CE e by unfold CE;omega]at this;exact this.mono (by decide)
 exact⟨(lM hd).1,(lM hd).2,cq.zero _ _,cq.zero _ _,cq.zero _ _,g⟩
theorem Vl{p d:Dp}(hp:iL 2147483648 p)(hd:iL 4294967296 d)(h0:kA d≠0){h b:Rat}(hh:cq 2 (2^34) h)(hb:cq 2 (2^34) b)(r:Bool):∀P∈mD p d h b r,Lu P:=by
 have hm:=Cd hd;have oP:0<kA d:=by have:=wz d;omega
 have t1:=Aj hd;obtain⟨s1,s2⟩:=TM d;have h2:(2:Int).natAbs<2^67:=by decide
 have g0:0<CE d:=by unfold CE;omega
 have gM:CE d≤2^136:=by
  have:(kA d).toNat<2^67:=by omega
  unfold CE;exact aP (aX (aj 2) (aX (aj 2) (gg this))) (by decide)
 have ud:=Fc hd oP rfl hb;have uh:=Fc hd oP rfl hh;have ul:=Fc t1.1 (by rw[s1];exact oP) s1 hh;have ur:=Fc t1.2.1 (by rw[s2];exact oP) s2 hh;have sd:=E_ hd oP rfl hh;have sl:=E_ t1.1 (by rw[s1];exact oP) s1 hh;have sr:=E_ t1.2.1 (by rw[s2];exact oP) s2 hh;have e0:0≤kA d:=qy oP;have e2:(0:Int)≤2:=by decide
 intro P hP;unfold mD at hP;cases r with
 |false=>
  simp only[aF,gN,dZ,az,aJ,b_]at hP;rcases hP with rfl|rfl
  ·exact ID g0 gM e0 e2 hm h2 hp ud ul
  ·exact ID g0 gM e0 e2 hm h2 hp ud ur
 |true=>
  simp only[aF,fj,eA,aJ,b_]at hP;rcases hP with rfl|(rfl|rfl|rfl)|rfl
  ·exact ID g0 gM e0 e2 hm h2 hp ud ul
  ·exact ID g0 gM e0 e2 hm h2 hp sd sl
  ·exact Zh g0 gM e0 e2 hm h2 hp uh
  ·exact ID g0 gM e0 e2 hm h2 hp sd sr
  ·exact ID g0 gM e0 e2 hm h2 hp ud ur
theorem SS{p d e:Dp}(hp:iL 2147483648 p)(hd:iL 4294967296 d)(he:iL 4294967296 e)(h0:qF (eY d) e≠0){h:Rat}(hh:cq 2 (2^34) h):Lu (gn p d e h):=by
 have hm:=Cd hd;have hn:=Cd he;have ht:=C0 hd he;have tl:=Aj hd;have te:=Aj he;have hc:=C0 tl.1 he;obtain⟨C,hC⟩:∃C,C=qF (eY d) e*qF (eY d) e:=⟨_,rfl⟩;have hC0:0<C:=by
  rw[hC];rcases Int.lt_or_gt_of_ne h0 with h|h
  ·exact Int.mul_pos_of_neg_of_neg h h
  ·exact Int.mul_pos h h
 have hCb:C.toNat≤2^134:=by
  have e1:C.toNat=(qF (eY d) e).natAbs*(qF (eY d) e).natAbs:=by rw[←cL,←hC];omega
  rw[e1];exact aP (aX (gg hc) (gg hc)) (by decide)
 have hk:cq (2*C.toNat) (2^34) (h/(C:Rat)):=by
  have e1:h/(C:Rat)=h*Rat.divInt 1 C:=by
   rw[jn,lz,lz,show((1:Int):Rat)=1 from rfl,Rat.one_mul]
  rw[e1];exact hh.mul (x9 hC0)
 rw[hC]at hk;have i1:∀{z:Int},z.natAbs<2^67→cq (2*C.toNat) (2^101) (h/((qF (eY d) e*qF (eY d) e:Int):Rat)*(z:Rat)):=fun hz=>by
  rw[←hC]at hk⊢;exact(hk.mulI (gg hz)).mono (by decide)
 have A6:(-(qF d e)).natAbs<2^67:=by rw[Int.natAbs_neg];exact ht
 exact ID (by omega) (aP (aX (aj 2) hCb) (by decide)) (wz d) (wz e) hm hn hp ⟨(lM tl.1).1,(lM tl.1).2,cq.zero _ _,i1 hn,i1 A6,cq.zero _ _⟩ ⟨(lM te.1).1,(lM te.1).2,cq.zero _ _,i1 A6,i1 hm,cq.zero _ _⟩
theorem Bq{h:Rat}(hh:cq 2 (2^34) h):∀(c w:List Dp),(∀p∈c,iL 2147483648 p)→(∀d∈w,iL 4294967296 d)→(∀(i:Nat) (d e:Dp),w[i]? =some d→w[i+1]? =some e→qF (eY d) e≠0)→∀P∈gE h c w,Lu P
 |p::c,d::e::w,hc,hw,hx=>fun P hP=>by
  simp only[gE,aF]at hP;rcases hP with rfl|hP
  ·exact SS (hc p (by simp)) (hw d (by simp)) (hw e (by simp)) (hx 0 d e rfl rfl) hh
  ·exact Bq hh c (e::w) (fun q hq=>hc q (cQ _ hq)) (fun q hq=>hw q (cQ _ hq)) (fun i a b ha hb=>hx (i+1) a b ha hb) P hP
 | [],_,_,_,_=>fun P hP=>by simp[gE]at hP
 |_::_,[],_,_,_=>fun P hP=>by simp[gE]at hP
 |_::_,[_],_,_,_=>fun P hP=>by simp[gE]at hP
theorem Ws{w:Int}(h:1≤w∧w≤2147483647):cq 2 (2^34) (Rat.divInt w 2):=by
 have:=(x9 (show(0:Int)<2 by decide)).mulI (z:=w) (J:=2^34) (by show w.natAbs≤17179869184;omega);have e:Rat.divInt 1 2*(w:Rat)=Rat.divInt w 2:=by
  rw[jn,jn,lz,lz,show((1:Int):Rat)=1 from rfl,Rat.one_mul,Rat.mul_comm]
 rw[e,ly]at this;exact this
theorem Qn{c w:List Dp}(hf:Lr c w)(hw:0<w.length)(hb:¬ ∃(i:Nat) (d e:Dp),w[i]? =some d∧w[i+1]? =some e∧e=jw d)(hc:∀p∈c,iL 2147483648 p){width kind bg en:Int}(h1:1≤width)(h2:width≤2147483647)(h3: -2147483647≤bg∧bg≤2147483647)(h4: -2147483647≤en∧en≤2147483647):∀P∈sk c w width kind bg en,Lu P:=by
 have hl:=hf.len;have nZ:∀(i:Nat) (d:Dp),w[i]? =some d→∃a b,a∈c∧b∈c∧a≠b∧d=gA a b:=fun i d hd=>by
  have hi:=(List.getElem?_eq_some_iff.1 hd).1;obtain⟨n1,e1⟩:=hf.way i _ _ d (ah (by omega)) (ah (by omega)) hd;exact⟨_,_,d_ _,d_ _,n1,e1⟩
 have OM:∀(i:Nat) (d:Dp),w[i]? =some d→mi d=1:=fun i d hd=>by
  obtain⟨a,b,_,_,h,e⟩:=nZ i d hd;rw[e];exact Hz h
 have hin:∀d∈w,iL 4294967296 d:=fun d hd=>by
  obtain⟨i,hi⟩:=mS hd;obtain⟨a,b,ha,hb,h,e⟩:=nZ i d hi;rw[e];exact Rr (hc a ha) (hc b hb) h
 have IZ:∀(i:Nat) (d e:Dp),w[i]? =some d→w[i+1]? =some e→qF (eY d) e≠0:=fun i d e hd he=>
  F8 (OM i d hd) (OM (i+1) e he) (hf.turn i d e hd he) (fun h=>hb ⟨i,d,e,hd,he,h⟩)
 have hh:=Ws ⟨h1,h2⟩;have ei:∀z:Int,-2147483647≤z∧z≤2147483647→cq 2 (2^34) (z:Rat):=fun z hz=>(zM 2 (K:=2^31) (by show z.natAbs≤2147483648;omega)).mono (by decide);have e1:cq 2 (2^34) (pj kind bg en (Rat.divInt width 2)).1∧cq 2 (2^34) (pj kind bg en (Rat.divInt width 2)).2:=by
  unfold pj;split
  ·exact⟨hh,hh⟩
  ·split
   ·exact⟨ei bg h3,ei en h4⟩
   ·exact⟨cq.zero _ _,cq.zero _ _⟩
 have g0:∀k,k<c.length→iL 2147483648 (c.getD k ⟨0,0⟩):=fun k hk=>by
  rw[dw,ah hk];exact hc _ (d_ _)
 have g1:∀k,k<w.length→iL 4294967296 (w.getD k ⟨0,0⟩)∧kA (w.getD k ⟨0,0⟩)≠0:=fun k hk=>by
  rw[dw,ah hk];exact⟨hin _ (d_ _),JO (EG (OM k _ (ah hk)))⟩
 have s0:kA (jw (w.getD 0 ⟨0,0⟩))≠0:=by
  have:=(g1 0 hw).2;unfold kA jw at*;simp only[s8];exact this
 have t0:=Vl (g0 0 (by omega)) (Aj (g1 0 hw).1).2.2 s0 hh e1.1 (kind==1);have t1:=Vl (g0 (c.length-1) (by omega)) (g1 (w.length-1) (by omega)).1 (g1 (w.length-1) (by omega)).2 hh e1.2 (kind==1);have ht:∀p∈c.tail,iL 2147483648 p:=fun p hp=>hc p (List.mem_of_mem_tail hp);intro P hP;unfold sk at hP;simp only[eA,List.mem_reverse]at hP;rcases hP with(((hP|hP)|hP)|hP)|hP
 ·exact t0 P (sR hP)
 ·exact Bq hh _ _ ht hin IZ P hP
 ·exact t1 P hP
 ·exact Bq hh.neg _ _ ht hin IZ P hP
 ·exact t0 P (fm hP)
theorem F6:∀(gj:List Dp) (s:List Dp×List Dp),(∀p∈gj,iL 2147483648 p)→(∀p∈s.1,iL 2147483648 p)→∀p∈(gj.foldl push s).1,iL 2147483648 p
 | [],_,_,h=>h
 |q::r,s,hq,h=>F6 r (push s q) (fun p hp=>hq p (cQ _ hp)) (fun p hp=>by
  obtain⟨R,w⟩:=s
  match R,h with
  | [],h=>
   simp[push]at hp;subst hp;exact hq _ o7
  |l::R',h=>
   simp only[push]at hp;split at hp
   ·exact h p hp
   ·split at hp
    ·rcases List.mem_cons.1 hp with rfl|hp
     ·exact hq _ o7
     ·exact h p (cQ _ hp)
    ·rcases List.mem_cons.1 hp with rfl|hp
     ·exact hq _ o7
     ·exact h p hp)
theorem Zi{ps:List Dp}{width kind bg en:Int}(h0:rh ps width kind bg en=0):(∀P∈sk (iO ps).1.reverse (iO ps).2.reverse width kind bg en,Lu P)∧(sk (iO ps).1.reverse (iO ps).2.reverse width kind bg en).length≤40000:=by
 obtain⟨h8,hb,ho,hc2,ZP⟩:=Mv h0;have hok:j_ (iO ps).1 (iO ps).2:=zL ps ([],[]) rfl;have hne:(iO ps).1≠ []:=fun e=>by rw[e]at hc2;simp at hc2
 have hf:=Oh hok hne;have hl:=hf.len;have hw:0<(iO ps).2.reverse.length:=by
  rw[fC]at hl;omega
 have hin:∀p∈(iO ps).1.reverse,iL 2147483648 p:=fun p hp=>F6 ps ([],[]) (US ho) (by simp) p (List.mem_reverse.1 hp);have hnb:¬ ∃(i:Nat) (d e:Dp),(iO ps).2.reverse[i]? =some d∧(iO ps).2.reverse[i+1]? =some e∧e=jw d:=fun h=>by
  rw[(J8 _).2 h]at ZP;simp at ZP
 obtain⟨_,w1,w2,w3,w4,w5,w6⟩:=FG.1 hb;refine⟨Qn hf hw hnb hin w1 w2 ⟨w3,w4⟩ ⟨w5,w6⟩,?_⟩;have AW:(iO ps).1.reverse.tail.length=(iO ps).2.reverse.length:=by rw[List.length_tail,hl];omega
 have hwl:(iO ps).2.reverse.length≤8191:=by
  have:=F7 ps ([],[]);simp only[a_,bU]at this;rw[fC];exact aP this h8
 have a1:=xS ((iO ps).1.reverse.getD 0 ⟨0,0⟩) (jw ((iO ps).2.reverse.getD 0 ⟨0,0⟩)) (Rat.divInt width 2) (pj kind bg en (Rat.divInt width 2)).1 (kind==1);have a2:=xS ((iO ps).1.reverse.getD ((iO ps).1.reverse.length-1) ⟨0,0⟩) ((iO ps).2.reverse.getD ((iO ps).2.reverse.length-1) ⟨0,0⟩) (Rat.divInt width 2) (pj kind bg en (Rat.divInt width 2)).2 (kind==1);have m1:=pE (Rat.divInt width 2) _ _ AW;have m2:=pE (-(Rat.divInt width 2)) _ _ AW;unfold sk;simp only[aA,fC,jK,dP]at a1 a2 m1 m2 hwl⊢;omega
theorem Qj{x:Im}:(∀P∈jk x,Lu P)∧(jk x).length≤40000:=by
 unfold jk;split
 ·rename_i h;exact Zi h.1
 ·exact⟨fun P hP=>by simp at hP,aH _⟩
def M(s:Rat)(e:Nat):Rat:=s*RU (4*(78-(e:Int)))
def ebytes(neg:Bool)(e:Nat)(n:Int):List Int:=[(if neg then 128 else 0)+e,n/281474976710656 % 256,n/1099511627776 % 256,n/4294967296 % 256,n/16777216 % 256,n/65536 % 256,n/256 % 256,n % 256]
section
variable{Γ:List aC}{L:Nat}{fin:VS→List aC→Prop}
end
section
variable{Γ:List aC}{L:Nat}{fin:VS→List aC→Prop}
end
theorem Zx{zs:List Int}(h:zs.length=8):∃z0 z1 z2 z3 z4 z5 z6 z7,zs=[z0,z1,z2,z3,z4,z5,z6,z7]:=by
 match zs,h with
 | [_,_,_,_,_,_,_,_],_=>exact⟨_,_,_,_,_,_,_,_,rfl⟩
theorem NA{zs:List Int}(h:zs.length=8)(hb:kU zs):0≤be (zs.drop 1)∧be (zs.drop 1)<72057594037927936:=by
 obtain⟨z0,z1,z2,z3,z4,z5,z6,z7,rfl⟩:=Zx h;have b1:=hb z1 (by simp);have b2:=hb z2 (by simp);have b3:=hb z3 (by simp);have b4:=hb z4 (by simp);have b5:=hb z5 (by simp);have b6:=hb z6 (by simp);have b7:=hb z7 (by simp);simp only[be,List.drop_succ_cons,h_,oU,List.foldl_nil];omega
section
variable{Γ:List aC}{L:Nat}{fin:VS→List aC→Prop}
end
end Go.Proofs.YtgaaopjagcaojaaGreat
