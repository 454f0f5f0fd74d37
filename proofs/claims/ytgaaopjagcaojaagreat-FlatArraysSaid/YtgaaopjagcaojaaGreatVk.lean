import Derived.Test.YtgaaopjagcaojaaGreatOz
import Derived.Test.YtgaaopjagcaojaaGreatOw
import Derived.Test.YtgaaopjagcaojaaGreatOv
import Derived.Test.YtgaaopjagcaojaaGreatPr
import Derived.Test.YtgaaopjagcaojaaGreatTb
import Derived.MapKept
import Derived.Test.YtgaaopjagcaojaaGreatVy
import Derived.ChangeSame
set_option linter.unusedSimpArgs false
set_option linter.unusedVariables false
namespace Go.Proofs.YtgaaopjagcaojaaGreat
open Go.RowKit Go.IntWalk
structure KD(cs ws:List Dp):Prop where
 len:cs.length=ws.length+1
 way:∀(i:Nat) (a b d:Dp),cs[i]? =some a→cs[i+1]? =some b→ws[i]? =some d→a≠b∧d=gF a b
 turn:∀(i:Nat) (d e:Dp),ws[i]? =some d→ws[i+1]? =some e→d≠e
theorem KD.snoc{cs ws:List Dp}{a b:Dp}(h:KD cs ws)(ha:cs.getLast?=some a)(hab:a≠b)(hw:ws.getLast?≠some (gF a b)):KD (cs++[b]) (ws++[gF a b]):=by
 have hl:=h.len;rw[gj,hl,eI]at ha;rw[gj]at hw;refine⟨by simp[hl],fun i x y d h1 h2 h3=>?_,fun i d e h1 h2=>?_⟩
 ·by_cases hi:i<ws.length
  ·rw[dD (by omega)]at h1 h2 h3;exact h.way i x y d h1 h2 h3
  ·have hi2:i=ws.length:=by
    have:=(List.getElem?_eq_some_iff.1 h3).1;simp at this;omega
   subst hi2;rw[dD (by omega),ha]at h1;rw[e_ (by omega),hl]at h2;rw[e_ (by omega)]at h3;simp at h1 h2 h3;subst h1 h2 h3;exact⟨hab,rfl⟩
 ·by_cases hi:i+1<ws.length
  ·rw[dD (by omega)]at h1 h2;exact h.turn i d e h1 h2
  ·have hi2:i+1=ws.length:=by
    have:=(List.getElem?_eq_some_iff.1 h2).1;simp at this;omega
   rw[dD (by omega),show i=ws.length-1 by omega]at h1;rw[e_ (by omega),hi2]at h2;simp at h2;subst h2;rintro rfl;exact hw h1
theorem Nv:∀{R U:List Dp},j5 R U→R≠ []→KD R.reverse U.reverse
 | [],_,_,h=>absurd rfl h
 | [a],U,h,_=>by
  simp only[j5]at h;subst h;exact⟨rfl,fun i x y d h1 h2 h3=>by simp at h3,fun i d e h1 h2=>by simp at h1⟩
 |b::a::r,U,⟨d,v,hU,hab,hd,hv,hok⟩,_=>by
  subst hU hd;have ih:=Nv hok (by simp);rw[List.reverse_cons,List.reverse_cons (a:=gF a b)];exact ih.snoc (by rw[List.getLast?_reverse];rfl) hab (by rw[List.getLast?_reverse];exact hv)
theorem CB:∀U:List Dp,ta U=true↔∃(i:Nat) (d e:Dp),U[i]? =some e∧U[i+1]? =some d∧e=jn d
 | []=>by simp[ta]
 | [a]=>by simp[ta]
 |e::d::r=>by
  have ih:=CB (d::r);simp only[ta,eu,dj,ih];constructor
  ·rintro(h|⟨i,x,y,h1,h2,h3⟩)
   ·exact⟨0,d,e,rfl,rfl,h⟩
   ·exact⟨i+1,x,y,h1,h2,h3⟩
  ·rintro⟨i,x,y,h1,h2,h3⟩;cases i with
   |zero=>
    simp at h1 h2;subst h1 h2;exact .inl h3
   |succ i=>exact .inr ⟨i,x,y,h1,h2,h3⟩
theorem Jj(U:List Dp):ta U=true↔∃(i:Nat) (d e:Dp),U.reverse[i]? =some d∧U.reverse[i+1]? =some e∧e=jn d:=by
 rw[CB];constructor
 ·rintro⟨i,d,e,h1,h2,h3⟩;have hi:=(List.getElem?_eq_some_iff.1 h2).1;refine⟨U.length-2-i,d,e,?_,?_,h3⟩
  ·rw[List.getElem?_reverse (by omega),show U.length-1-(U.length-2-i)=i+1 by omega,h2]
  ·rw[List.getElem?_reverse (by omega),show U.length-1-(U.length-2-i+1)=i by omega,h1]
 ·rintro⟨i,d,e,h1,h2,h3⟩;have hi:=(List.getElem?_eq_some_iff.1 h2).1;simp only[fC]at hi;rw[List.getElem?_reverse (by omega)]at h1 h2;refine⟨U.length-2-i,d,e,?_,?_,h3⟩
  ·rw[show U.length-2-i=U.length-1-(i+1)by omega,h2]
  ·rw[show U.length-2-i+1=U.length-1-i by omega,h1]
theorem G5{p q:Dp}(h:p≠q):lW (gF p q)=1:=by
 have hv:=Be h;unfold gF;generalize(⟨q.x-p.x,q.y-p.y⟩:Dp)=v at*;have h1:=Jq v hv;have h2:=rJ (pN v);have h3:=Nc hv;rw[h1]at h2;rcases h3 with h3|h3
 ·exact Int.eq_one_of_mul_eq_self_left h3 h2.1.symm
 ·exact Int.eq_one_of_mul_eq_self_left h3 h2.2.symm
theorem Ej{d:Dp}(h:lW d=1):d.x≠0∨d.y≠0:=by
 by_cases hx:d.x=0
 ·by_cases hy:d.y=0
  ·unfold lW at h;rw[hx,hy]at h;simp at h
  ·exact .inr hy
 ·exact .inl hx
theorem I3{d:Dp}(h:d.x≠0∨d.y≠0):kt d≠0:=by
 unfold kt;have h1:0≤d.x*d.x:=by rcases Int.le_total 0 d.x with h|h;exact eZ h h;exact jN h h
 have h2:0≤d.y*d.y:=by rcases Int.le_total 0 d.y with h|h;exact eZ h h;exact jN h h
 rcases h with h|h
 ·have:d.x*d.x≠0:=kg h h;omega
 ·have:d.y*d.y≠0:=kg h h;omega
theorem Qh{p q:Dp}(hp:iJ 2147483648 p)(hq:iJ 2147483648 q)(h:p≠q):iJ 4294967296 (gF p q):=by
 have hm:=rJ ⟨q.x-p.x,q.y-p.y⟩;have hg:=tF (Be h);unfold iJ at*;simp only at hm;have bx: -4294967296≤(gF p q).x∧(gF p q).x≤4294967296:=uA hg hm.1 (by omega) (by omega);have byy: -4294967296≤(gF p q).y∧(gF p q).y≤4294967296:=uA hg hm.2 (by omega) (by omega);omega
theorem FH{d e:Dp}(hd:lW d=1)(he:lW e=1)(h1:d≠e)(h2:e≠jn d):qC (eY d) e≠0:=by
 intro h0;have hx:d.x*e.y=d.y*e.x:=by
  unfold qC eY at h0;simp only at h0;have: -d.y*e.x= -(d.y*e.x):=Int.neg_mul _ _;omega
 have hn:d.x.natAbs*e.y.natAbs=d.y.natAbs*e.x.natAbs:=by rw[←cK,hx,cK]
 have cd:Nat.Coprime d.x.natAbs d.y.natAbs:=by unfold lW at hd;unfold Nat.Coprime;omega
 have ce:Nat.Coprime e.x.natAbs e.y.natAbs:=by unfold lW at he;unfold Nat.Coprime;omega
 have kx:d.x.natAbs=e.x.natAbs:=by
  apply Nat.dvd_antisymm
  ·exact Nat.Coprime.dvd_of_dvd_mul_left cd (by rw[←hn];exact Nat.dvd_mul_right _ _)
  ·exact Nat.Coprime.dvd_of_dvd_mul_right ce (by rw[hn];exact Nat.dvd_mul_left _ _)
 have ky:d.y.natAbs=e.y.natAbs:=by
  apply Nat.dvd_antisymm
  ·exact Nat.Coprime.dvd_of_dvd_mul_left cd.symm (by rw[hn];exact Nat.dvd_mul_right _ _)
  ·exact Nat.Coprime.dvd_of_dvd_mul_right ce.symm (by rw[←hn];exact Nat.dvd_mul_left _ _)
 have hm:∀(P:d.x=0∨d.y=0),False:=fun hz=>by
  rcases hz with hz|hz
  ·have:e.x=0:=by omega
   rcases Int.natAbs_eq_natAbs_iff.1 ky with h|h
   ·exact h1 (Dp.eq_iff.2 ⟨by omega,h⟩)
   ·exact h2 (Dp.eq_iff.2 ⟨by unfold jn;simp only;omega,by unfold jn;simp only;omega⟩)
  ·have:e.y=0:=by omega
   rcases Int.natAbs_eq_natAbs_iff.1 kx with h|h
   ·exact h1 (Dp.eq_iff.2 ⟨h,by omega⟩)
   ·exact h2 (Dp.eq_iff.2 ⟨by unfold jn;simp only;omega,by unfold jn;simp only;omega⟩)
 rcases Int.natAbs_eq_natAbs_iff.1 kx with hx1|hx1<;>rcases Int.natAbs_eq_natAbs_iff.1 ky with hy1|hy1
 ·exact h1 (Dp.eq_iff.2 ⟨hx1,hy1⟩)
 ·have e1:e.x=d.x:=hx1.symm;have e2:e.y= -d.y:=by omega
  rw[e1,e2,Int.mul_neg,iq d.y d.x]at hx;have:d.x*d.y=0:=by omega
  exact hm (Int.mul_eq_zero.1 this)
 ·have e1:e.x= -d.x:=by omega
  have e2:e.y=d.y:=hy1.symm;rw[e1,e2,Int.mul_neg,iq d.y d.x]at hx;have:d.x*d.y=0:=by omega
  exact hm (Int.mul_eq_zero.1 this)
 ·exact h2 (Dp.eq_iff.2 ⟨by unfold jn;simp only;omega,by unfold jn;simp only;omega⟩)
theorem o8(h:Rat):∀(c w:List Dp),c.length=w.length→(gK h c w).length=w.length-1
 |_,[],hl=>by cases ‹List Dp› <;>simp[gK]at*
 | [],_::_,hl=>by simp at hl
 |p::c,[d],hl=>by simp[gK]
 |p::c,d::e::w,hl=>by
  have:=o8 h c (e::w) (by simp at hl⊢;omega);simp only[gK,aF,this];omega
theorem mQ(h:Rat):∀(c w:List Dp) (j:Nat) (p d e:Dp),c[j]? =some p→w[j]? =some d→w[j+1]? =some e→(gK h c w)[j]? =some (gx p d e h)
 | [],_,j,p,d,e,h1,h2,h3=>by simp at h1
 |_::_,[],j,p,d,e,h1,h2,h3=>by simp at h2
 |_::_,[a],j,p,d,e,h1,h2,h3=>by simp at h3
 |q::c,a::b::w,j,p,d,e,h1,h2,h3=>by
  cases j with
  |zero=>
   simp at h1 h2 h3;subst h1 h2 h3;rfl
  |succ j=>
   simp only[gK,fL]at h1 h2 h3⊢;exact mQ h c (b::w) j p d e h1 h2 h3
theorem lH{α:Type}{l:List α}{j:Nat}{x:α}(h:l[j]? =some x):l.take (j+1)=l.take j++[x]:=by
 obtain⟨hj,rfl⟩:=List.getElem?_eq_some_iff.1 h;exact List.take_succ_eq_append_getElem hj
theorem xX{α:Type}{l:List α}{j:Nat}{x:α}(h:l[j]? =some x):(l.drop j).reverse=(l.drop (j+1)).reverse++[x]:=by
 obtain⟨hj,rfl⟩:=List.getElem?_eq_some_iff.1 h;rw[bI hj,List.reverse_cons]
section
variable{Γ:List aE}
theorem eJ{F:aE}{Δ:List aE}(h:∀(I:f_) (w:World),bB tb I w→aG Γ I w→F.p I w)(h':∀(I:f_) (w:World),bB tb I w→aG Γ I w→aG Δ I w):∀(I:f_) (w:World),bB tb I w→aG Γ I w→aG (F::Δ) I w:=fun I w hd hh=>aG.cons (h I w hd hh) (h' I w hd hh)
theorem gE{α:Type}{k:α→aE}{a:α} [h:aZ k a Γ]:∀(I:f_) (w:World),bB tb I w→aG Γ I w→(k a).p I w:=fun I w _ hh=>h.p hh
theorem tA:∀(I:f_) (w:World),bB tb I w→aG Γ I w→aG [] I w:=fun I w _ _=>aG.nil _ _
theorem CO{L:Nat}{l:List jJ}(e:jJ) [h:aZ (OS gD) (L,l) Γ] [hx:aZ (SF e.x) (L,e.X) Γ] [hy:aZ (SF e.y) (L,e.Y) Γ]:∀(I:f_) (w:World),bB tb I w→aG Γ I w→(OS gD (L,l++[e])).p I w:=fun I w _ hh x hx'=>by
 rcases List.mem_append.1 hx' with h1|h1
 ·exact h.p hh x h1
 ·simp only[aD,aC,bp]at h1;subst h1;exact⟨hx.p hh,hy.p hh⟩
theorem Nm{L:Nat}{l l2:List jJ}{ao:Option Addr} [h:aZ (OS gD) (L,l) Γ] [hx:aZ (OL gD ao) (L,l2) Γ]:∀(I:f_) (w:World),bB tb I w→aG Γ I w→(OS gD (L,l++l2)).p I w:=fun I w _ hh x hx'=>by
 rcases List.mem_append.1 hx' with h1|h1
 ·exact h.p hh x h1
 ·exact(hx.p hh).1 x h1
theorem OP(B:Nat)(k:Int) [aZ (dY B) [.int .i64 0,.int .i64 1,.int .i64 2,.int .i64 4] Γ]:
  au tb Tryz.prog 233 [.slice (some ⟨B,0,none⟩) 4 4,.int .i64 k] Γ (fun v Δ=>∃z:Int,v=.int .i64 z∧Δ=[]∧decide (z≥0)=(decide (k=0)||decide (k=1)||decide (k=2)||decide (k=4))):=by
 refine au.of_W aB Tryz.func233 rfl ?_;refine j2 [] 5 ?_;refine cA [9] 1 B 0 4 4 .i64 0 0 rfl aB (by decide) ?_;refine eg [] 1 B 0 (.int .i64 0) aB (fun I w _ hh=>by rw[oM (aZ.p (k:=dY B) (a:=[.int .i64 0,.int .i64 1,.int .i64 2,.int .i64 4]) inferInstance hh)];rfl) ?_;refine W.d [] 16 (k==0) (fun h=>?_) (fun h0=>?_)
 ·exact W.r [16] (.int .i64 0) ⟨0,rfl,rfl,by have:=eq_of_beq h;subst this;decide⟩ bU
 refine cA [9,16] 1 B 0 4 4 .i64 1 1 rfl aB (by decide) ?_;refine eg [] 1 B 1 (.int .i64 1) aB (fun I w _ hh=>by rw[oM (aZ.p (k:=dY B) (a:=[.int .i64 0,.int .i64 1,.int .i64 2,.int .i64 4]) inferInstance hh)];rfl) ?_;refine W.d [] 16 (k==1) (fun h=>?_) (fun h1=>?_)
 ·exact W.r [16] (.int .i64 1) ⟨1,rfl,rfl,by have:=eq_of_beq h;subst this;decide⟩ bU
 refine cA [9,16] 1 B 0 4 4 .i64 2 2 rfl aB (by decide) ?_;refine eg [] 1 B 2 (.int .i64 2) aB (fun I w _ hh=>by rw[oM (aZ.p (k:=dY B) (a:=[.int .i64 0,.int .i64 1,.int .i64 2,.int .i64 4]) inferInstance hh)];rfl) ?_;refine W.d [] 16 (k==2) (fun h=>?_) (fun h2=>?_)
 ·exact W.r [16] (.int .i64 2) ⟨2,rfl,rfl,by have:=eq_of_beq h;subst this;decide⟩ bU
 refine cA [9,16] 1 B 0 4 4 .i64 3 3 rfl aB (by decide) ?_;refine eg [] 1 B 3 (.int .i64 4) aB (fun I w _ hh=>by rw[oM (aZ.p (k:=dY B) (a:=[.int .i64 0,.int .i64 1,.int .i64 2,.int .i64 4]) inferInstance hh)];rfl) ?_;refine W.d [] 16 (k==4) (fun h=>?_) (fun h3=>?_)
 ·exact W.r [16] (.int .i64 3) ⟨3,rfl,rfl,by have:=eq_of_beq h;subst this;decide⟩ bU
 refine W.r [9,16] (.int .i64 (-1)) ⟨-1,rfl,rfl,?_⟩ bU;have e0:k≠0:=by simpa using h0
 have e1:k≠1:=by simpa using h1
 have e2:k≠2:=by simpa using h2
 have e3:k≠4:=by simpa using h3
 simp[e0,e1,e2,e3]
theorem RV(B:Nat)(k:Int) [aZ (dY B) [.int .i64 0,.int .i64 1,.int .i64 2,.int .i64 4] Γ]:
  au tb Tryz.prog 184 [.slice (some ⟨B,0,none⟩) 4 4,.int .i64 k] Γ (jv (.bool (decide (k=0)||decide (k=1)||decide (k=2)||decide (k=4)))):=by
 refine au.of_W aB Tryz.func184 rfl ?_;refine aj [] (OP B k) ?_;rintro _ _ ⟨z,rfl,rfl,hz⟩;exact W.r [] (.bool (decide (z≥0))) ⟨by rw[hz],rfl⟩ bU
theorem Fg{α:Type}{p:α→Bool}:∀{l:List α},(∀i (h:i<l.length),p (l[i]'h)=false)→l.any p=false
 | [],_=>rfl
 |a::r,h=>by
  rw[List.any_cons,Fg (fun i hi=>h (i+1) (by simpa using hi)),Bool.or_false];exact h 0 (by simp)
theorem OQ(ao:Option Addr)(n c:Nat)(fK:List Dp) [aZ (RA ao) (fK.flatMap d_) Γ](hn:n=fK.length)(hn2:n≤8191):
  au tb Tryz.prog 234 [.slice ao n c,.func (.func 186) #[] #[]] Γ (fun v Δ=>∃z:Int,v=.int .i64 z∧Δ=[]∧decide (z≥0)=fK.any tQ):=by
 refine au.of_W aB Tryz.func234 rfl ?_;refine xT [] [8] (fun a:Nat×Int=>[(8,.int .i64 a.2)]) (fun _=>[]) (fun _=>[RA ao (fK.flatMap d_)]) (fun a=>a.2=a.1∧a.1≤n∧∀i (h:i<fK.length),i<a.1→tQ (fK[i]'h)=false) (fun a=>n-a.1) (0,0) ⟨rfl,aM _,fun i _ h=>by omega⟩ oX ?_;rintro⟨i,z⟩ K ⟨hz,hi,hall⟩ close;simp only at hz hi hall;by_cases hlt:i<n
 rotate_left
 ·refine aS [] 9 (decide (z<(n:Int))) (ak (by omega)) ?_;exact W.r [9] (.int .i64 (-1)) ⟨-1,rfl,rfl,by rw[Fg (fun j hj=>hall j hj (by omega))];rfl⟩ bU
 have hil:i<fK.length:=by omega
 have Ie:∀(j:Nat) (v:Value),(d_ (fK[i]'hil))[j]? =some v→(fK.flatMap d_)[i*2+j]? =some v:=fun j v hv=>Ni hil hv;have lK:=dW hil;have hnext:tQ (fK[i]'hil)=false→∀j (h:j<fK.length),j<i+1→tQ (fK[j]'h)=false:=fun ho j h hj=>by
  by_cases zL:j<i
  ·exact hall j h zL
  ·obtain rfl:j=i:=by omega
   exact ho
 generalize hp:fK[i]'hil=p at*;refine Fb ao (hm:=rfl) (by intro e;have:=nT fK;rw[e]at this;simp at this;omega) (fun ba of e=>?_);subst e;refine bD [] 9 (decide (z<(n:Int))) (aw (by omega)) ?_;refine cA [9] 2 ba of n c .i64 i z hz aB hlt ?_;refine de [] ba (of+i*2) (d_ p) aB (eD ba of (i*2) Ie) ?_;refine aj [] (Wx p) ?_;rintro _ _ ⟨rfl,rfl⟩;refine W.d [] 16 (tQ p) (fun hb=>?_) (fun hb=>?_)
 ·refine W.r [16] (.int .i64 z) ⟨z,rfl,rfl,?_⟩ bU;rw[aw (by omega)];exact(List.any_eq_true.2 ⟨p,lK,hb⟩).symm
 ·exact close [16] _ _ (i+1,IntKind.i64.wrap (z+1)) (by kernel_rfl) (by kernel_rfl) ⟨by simp only[ah];omega,hlt,hnext hb⟩ (by simp only;omega) oX
theorem OI(ao:Option Addr)(n c:Nat)(fK:List Dp) [aZ (RA ao) (fK.flatMap d_) Γ](hn:n=fK.length)(hn2:n≤8191):
  au tb Tryz.prog 185 [.slice ao n c,.func (.func 186) #[] #[]] Γ (jv (.bool (fK.any tQ))):=by
 refine au.of_W aB Tryz.func185 rfl ?_;refine aj [] (OQ ao n c fK hn hn2) ?_;rintro _ _ ⟨z,rfl,rfl,hz⟩;exact W.r [] (.bool (decide (z≥0))) ⟨by rw[hz],rfl⟩ bU
theorem WH(p d:Dp)(x y:Int)(hx:x=d.x)(hy:y=d.y)(hq bq:Qw){h b:Rat}{L L1:Nat} [aZ (QG hq) (L,h) Γ] [aZ (QG bq) (L1,b) Γ](r:Bool)(hp:iJ 2147483648 p)(hd:iJ 4294967296 d)(h0:kt d≠0)(hL:L≤5∧L1≤5:=by omega):
  au tb Tryz.prog 189 [dv p,.agg #[.int .i64 x,.int .i64 y],qv hq.n hq.a hq.m hq.b,qv bq.n bq.a bq.m bq.b,.bool r] Γ (UB (mh p d h b r)):=by
 subst hx hy;cases r
 ·exact WI p d hq bq hp hd h0
 ·exact WJ p d hq bq hp hd h0
end
section
variable{T:Tb}{P:Program}{fin:VS→List aE→Prop}{c:fM}{Γ:List aE}
def I8(z:Nat)(O:List (Nat×List Value))(v:Value)(n:Nat)(xs:List Value)(ao:Option Addr)(ys:List Value):Prop:=
 (O=[]∧v=.slice ao n n∧0<n∧xs.length=n*z∧ys=xs)∨(cG z O v n xs∧ao=none∧ys=[])
theorem Cs(D:List Nat)(O:List (Nat×List Value))(z bytes n m:Nat)(ao:Option Addr)(v x:Value)(xs ys news:List Value)(hT:T.Ok P)
   [hrp:aZ (RA ao) ys Γ](hg:I8 z O v n xs ao ys)(hm:0<m)(hx:qP T Γ O x m z news)(h1:∀u∈news,u.oneCell'=true)
  (hn:n+m≤1000000)(hb:bytes≤100000000)
  (hk:∀v' O',cG z O' v' (n+m) (xs++news)→W T P fin (nh (aJ T (bh T D 999 c)) O' v') Γ)(h:pZ T (aJ T (bh T D 999 c))=some (O,z,bytes,v,x):=by kernel_rfl):W T P fin c Γ:=by
 rcases hg with⟨rfl,rfl,h0,hl,rfl⟩|⟨hg,rfl,rfl⟩
 ·refine Mr D [] z bytes n m ao x ys news hT (h:=h) hl h0 hm hx hn hb (fun g cap cur k1 k2 k3 k4=>hk _ _ ⟨?_,.inr ⟨g,cap,cur,rfl,rfl,k1,k2,k3,k4⟩⟩);obtain⟨_,_,_,hnl,_⟩:=hx;rw[az,hl,hnl,ed]
 ·exact W.app D O [] O [] z bytes n m v x xs news hT (h:=h) (by simp) hg hx h1 hn hb (fun v' O' hg'=>by simpa using hk v' O' hg')
end
structure LnV where
 p:Dp
 d:Dp
 r:Rat
 m:Int
 sl:Bool
structure SY where
 a:LnV
 b:LnV
 m:Int
 n:Int
structure LnC where
 p:Dp
 d:Dp
 S:Int
 s:Sl
 R:Int
 t:Sl
 M:Int
 u:Sl
 sl:Bool
structure TwE where
 a:LnC
 b:LnC
 M:Int
 u:Sl
 N:Int
 v:Sl
 va:Rat
 ma:Int
 vb:Rat
 mb:Int
 m:Int
 n:Int
def TwE.num(e:TwE):SY:=⟨⟨e.a.p,e.a.d,e.va,e.ma,e.a.sl⟩,⟨e.b.p,e.b.d,e.vb,e.mb,e.b.sl⟩,e.m,e.n⟩
section
variable{Γ:List aE}{L M:Nat}
end
theorem Lv{fK:List Dp}{width kind bg en:Int}(h:rh fK width kind bg en=0):fK.length≤8191∧rG width kind bg en=false∧fK.any tQ=false∧2≤(iO fK).1.length∧ta (iO fK).2=false:=by
 unfold rh at h;split at h
 ·simp at h
 ·split at h
  ·simp at h
  ·split at h
   ·simp at h
   ·split at h
    ·simp at h
    ·split at h
     ·simp at h
     ·refine⟨by omega,by simp_all,by simp_all,by omega,by simp_all⟩
theorem Fi{width kind bg en:Int}:rG width kind bg en=false↔(kind=0∨kind=1∨kind=2∨kind=4)∧1≤width∧width≤2147483647∧ -2147483647≤bg∧bg≤2147483647∧ -2147483647≤en∧en≤2147483647:=by
 simp only[rG,mB,vv,eu,dj,aY];omega
theorem Sb(s:List Dp×List Dp)(p:Dp):(push s p).2.length≤s.2.length+1:=by
 obtain⟨R,w⟩:=s;cases R with
 |nil=>simp[push]
 |cons l r=>
  simp only[push];split
  ·simp
  ·split<;>simp
theorem FG:∀(fK:List Dp) (s:List Dp×List Dp),(fK.foldl push s).2.length≤s.2.length+fK.length
 | [],s=>by simp
 |p::r,s=>by
  have:=FG r (push s p);have:=Sb s p;simp only[oF,aF];omega
def aac(x:LnV)(m n:Int):Sn:=
 if x.sl=true then⟨m,n,0,0,0,x.r*Rat.divInt 1 2⟩else if x.m=m then⟨m,n,0,x.r,0,0⟩else⟨m,n,0,0,x.r,0⟩
def onS(x:LnV)(X Y:Sn):Sn:=
 ((Sn.mul ⟨X.m,X.n,(x.d.x:Rat),0,0,0⟩ ⟨X.m,X.n,X.p-(x.p.x:Rat),X.q,X.r,X.s⟩).add (Sn.mul ⟨X.m,X.n,(x.d.y:Rat),0,0,0⟩ ⟨Y.m,Y.n,Y.p-(x.p.y:Rat),Y.q,Y.r,Y.s⟩)).add (aac x X.m X.n).neg
structure XT(P:Sn×Sn)(t:SY):Prop where
 xm:P.1.m=t.m
 xn:P.1.n=t.n
 ym:P.2.m=t.m
 yn:P.2.n=t.n
 m0:0≤t.m
 n0:0≤t.n
 a:(onS t.a P.1 P.2).fold.nil
 b:(onS t.b P.1 P.2).fold.nil
def Ab(l:List (Sn×Sn))(w:List SY):Prop:=l.length=w.length∧∀(i:Nat) (a:Sn×Sn) (b:SY),l[i]? =some a→w[i]? =some b→XT a b
theorem Ab.nil:Ab [] []:=⟨rfl,fun i a b h=>by simp at h⟩
theorem Ab.cons{a:Sn×Sn}{b:SY}{l:List (Sn×Sn)}{w:List SY}(h:XT a b)(hl:Ab l w):Ab (a::l) (b::w):=⟨by simp[hl.1],fun i x y hx hy=>by
 cases i with
 |zero=>simp at hx hy;subst hx hy;exact h
 |succ i=>exact hl.2 i x y hx hy⟩
theorem Ab.take{l:List (Sn×Sn)}{w:List SY}(h:Ab l w)(k:Nat):Ab (l.take k) (w.take k):=⟨by simp[h.1],fun i a b ha hb=>by
 rw[di]at ha hb;split at ha
 ·rw[if_pos (by assumption)]at hb;exact h.2 i a b ha hb
 ·simp at ha⟩
theorem Ab.drop{l:List (Sn×Sn)}{w:List SY}(h:Ab l w)(k:Nat):Ab (l.drop k) (w.drop k):=⟨by simp[h.1],fun i a b ha hb=>by
 rw[vA]at ha hb;exact h.2 _ a b ha hb⟩
theorem Sq(d:Dp):kt (eY d)=kt d∧kt (iR d)=kt d:=by
 unfold kt eY iR;simp only[sW];omega
theorem BR{d:Dp}(h:iJ 4294967296 d):(kt d).natAbs<2^67:=by
 unfold iJ at h;have h1:d.x.natAbs*d.x.natAbs≤4294967296*4294967296:=aR (by omega) (by omega);have h2:d.y.natAbs*d.y.natAbs≤4294967296*4294967296:=aR (by omega) (by omega);have e:(kt d).natAbs≤d.x.natAbs*d.x.natAbs+d.y.natAbs*d.y.natAbs:=by
  unfold kt;rw[←cK,←cK];exact Int.natAbs_add_le _ _
 exact iN e (iN (Nat.add_le_add h1 h2) (by decide))
theorem CL{d e:Dp}(h:iJ 4294967296 d)(g:iJ 4294967296 e):(qC d e).natAbs<2^67:=by
 unfold iJ at h g;have h1:d.x.natAbs*e.x.natAbs≤4294967296*4294967296:=aR (by omega) (by omega);have h2:d.y.natAbs*e.y.natAbs≤4294967296*4294967296:=aR (by omega) (by omega);have e:(qC d e).natAbs≤d.x.natAbs*e.x.natAbs+d.y.natAbs*e.y.natAbs:=by
  unfold qC;rw[←cK,←cK];exact Int.natAbs_add_le _ _
 exact iN e (iN (Nat.add_le_add h1 h2) (by decide))
theorem lC{d:Dp}(h:iJ 4294967296 d):d.x.natAbs<2^34∧d.y.natAbs<2^34:=by
 unfold iJ at h;omega
theorem z8{d:Dp}(h:iJ 4294967296 d):iJ 4294967296 (eY d)∧iJ 4294967296 (iR d)∧iJ 4294967296 (jn d):=by
 unfold iJ eY iR jn at*;simp only;omega
open Go.RowKit Go.MapKept
structure KE(α:Type) where
 f:α→Value
 d:TypeDesc
 inj:∀a b,f a=f b→a=b
 key:∀a,IsKey d (f a)
def dA:KE Int:=⟨.int .i64,.int .i64,fun a b h=>by injection h,fun a=>rfl⟩
def dT:KE ByteArray:=⟨.string,.string,fun a b h=>by injection h,fun a=>trivial⟩
section
variable{α:Type} [DecidableEq α]
def gJ{β:Type}(k:α):List (α×β)→Option β
 | []=>none
 |(a,v)::r=>if k=a then some v else gJ k r
def kU{β:Type}(k:α)(v:β):List (α×β)→List (α×β)
 | []=>[(k,v)]
 |(a,u)::r=>if k=a then(k,v)::r else(a,u)::kU k v r
def sC(k:α):List (α×Value)→Nat→Option (Nat×Value)
 | [],_=>none
 |(a,v)::r,i=>if k=a then some (i,v)else sC k r (i+1)
def bM(K:KE α)(l:List (α×Value)):List (Value×Value):=l.map fun e=>(K.f e.1,e.2)
theorem iG{β:Type}(k j:α)(v:β):∀l:List (α×β),gJ j (kU k v l)=if j=k then some v else gJ j l
 | []=>by simp[kU,gJ]
 |(a,u)::r=>by
  unfold kU;by_cases h:k=a
  ·subst h;simp only[eW,gJ];by_cases hj:j=k<;>simp[hj]
  ·simp only[h,ea,gJ];by_cases hj:j=a
   ·subst hj;simp[Ne.symm h]
   ·simp only[hj,ea];exact iG k j v r
theorem Cx(k:α):∀(l:List (α×Value)) (i:Nat),(sC k l i).map (·.2)=gJ k l
 | [],i=>rfl
 |(a,u)::r,i=>by
  unfold sC gJ;by_cases h:k=a
  ·simp[h]
  ·simp only[h,ea];exact Cx k r (i+1)
theorem Ap{k:α}:∀{l:List (α×Value)} {i:Nat},sC k l i=none→∀v,kU k v l=l++[(k,v)]
 | [],i,_,v=>rfl
 |(a,u)::r,i,h,v=>by
  unfold sC at h;unfold kU;by_cases hk:k=a
  ·simp[hk]at h
  ·simp only[hk,ea]at h⊢;rw[Ap h v];rfl
theorem Aq{k:α}:∀{l:List (α×Value)} {i j:Nat} {u:Value},sC k l i=some (j,u)→i≤j∧l[j-i]? =some (k,u)∧∀v,kU k v l=l.set (j-i) (k,v)
 | [],i,j,u,h=>by simp[sC]at h
 |(a,w)::r,i,j,u,h=>by
  unfold sC at h;by_cases hk:k=a
  ·subst hk;simp only[eW,aq,aI]at h;obtain⟨rfl,rfl⟩:=h;refine⟨ai _,by simp,fun v=>by simp[kU]⟩
  ·simp only[hk,ea]at h;obtain⟨h1,h2,h3⟩:=Aq h;refine⟨by omega,?_,fun v=>?_⟩
   ·rw[show j-i=(j-(i+1))+1 by omega];simpa using h2
   ·unfold kU;simp only[hk,ea];rw[h3 v,show j-i=(j-(i+1))+1 by omega];rfl
theorem tC(K:KE α)(k:α):∀(es:List MapEntry) (l:List (α×Value)) (i:Nat),es.map (fun e=>(e.key,e.val))=bM K l→Instr.findNow K.d (K.f k) es i=some (sC k l i)
 | [],[],i,_=>rfl
 | [],y::l,i,h=>by simp[bM]at h
 |e::es,[],i,h=>by simp[bM]at h
 |e::es,(a,v)::l,i,h=>by
  simp only[bM,b_,List.cons.injEq,aI]at h;obtain⟨⟨h1,h2⟩,h3⟩:=h;obtain⟨r,hr,Y_⟩:=sameNow_of_keys (K.key k) (K.key a);unfold Instr.findNow;rw[h1,hr];unfold sC;by_cases hk:k=a
  ·subst hk;rw[Y_.2 rfl,h2];simp
  ·have:r=false:=by
    cases r with
    |false=>rfl
    |true=>exact absurd (K.inj _ _ (Y_.1 rfl)) hk
   subst this;simp only[hk,ea];exact tC K k es l (i+1) h3
end
section
variable{T:Tb}{P:Program}{fin:VS→List aE→Prop}{c:fM}{Γ:List aE}
def EI(e:Ev)(O:List (Nat×List Value))(M:List (Nat×List (Value×Value)))(v:Value):fM:=
 match e with
 | .own o c'=>⟨({c'.s with own:=O,maps:=M}:VS).put o.dst (.val v),c'.k⟩
 |_=>⟨⟨[],[],[],[]⟩,[]⟩
def Kj(e:Ev):Option (List (Nat×List Value)×List (Nat×List (Value×Value))):=
 match e with
 | .own o c'=>match o.op with
  | .makeMap _ none=>some (c'.s.own,c'.s.maps)
  |_=>none
 |_=>none
def Ki(e:Ev):Option (TypeId×Value×Value×Bool×List (Nat×List Value)×List (Nat×List (Value×Value))):=
 match e with
 | .own o c'=>match o.op with
  | .lookup t m k ok=>match c'.s.ev m,c'.s.ev k with
   | .val mv,.val kv=>some (t,mv,kv,ok,c'.s.own,c'.s.maps)
   |_,_=>none
  |_=>none
 |_=>none
def Kk(e:Ev):Option (TypeId×Value×Value×Value×List (Nat×List Value)×List (Nat×List (Value×Value))):=
 match e with
 | .own o c'=>match o.op with
  | .mapUpdate t m k x=>match c'.s.ev m,c'.s.ev k,c'.s.ev x with
   | .val mv,.val kv,.val xv=>some (t,mv,kv,xv,c'.s.own,c'.s.maps)
   |_,_,_=>none
  |_=>none
 |_=>none
theorem Jb(D:List Nat)(own:List (Nat×List Value))(maps:List (Nat×List (Value×Value)))
  (hk:∀g,W T P fin (EI (aJ T (bh T D 999 c)) own ((g,[])::maps) (.map (some g))) Γ)(h:Kj (aJ T (bh T D 999 c))=some (own,maps):=by kernel_rfl):W T P fin c Γ:=by
 refine eF D 999 ?_;generalize bh T D 999 c=c1 at*;unfold Kj at h;split at h
 ·rename_i o c' he;rw[he]at hk;split at h
  ·rename_i t hop;simp only[aq,aI]at h;obtain⟨rfl,rfl⟩:=h;refine W.mop (fun v O M Δ=>∃g,v=.map (some g)∧O=c'.s.own∧M=(g,[])::c'.s.maps∧Δ=[]) he ?_ (fun v O M Δ ⟨g,e1,e2,e3,e4⟩=>by subst e1 e2 e3 e4;exact hk g);intro I w hd hh ho hon hm hmn hx;have hlt:∀b m,(b,m)∈c'.s.maps→b<w.heap.size:=fun b m hb=>by
    obtain⟨es,cl,g1,_⟩:=hm b m hb;exact cu g1
   refine⟨.map (some w.heap.size),c'.s.own,(w.heap.size,[])::c'.s.maps,[],w.alloc (.map #[] 0),.value (.map (some w.heap.size)),?_,.inl rfl,⟨_,rfl,rfl,rfl,rfl⟩,?_,?_,fun b cs hb=>.inl (.inl ⟨cs,hb⟩),hon,?_,?_,?_,aG.nil _ _⟩
   ·simp only[execOp,hop,Option.map_none,Instr.makeMap,cB,dS,run_newObj,bC,World.alloc_eq]
   ·exact⟨rfl,rfl,rfl,by simp,fun k hk' _=>Below.heap_alloc _ _ _ hk'⟩
   ·intro b cs hb;obtain⟨e,h1,h2⟩:=ho b cs hb;exact⟨e,h1,by rw[Below.heap_alloc _ _ _ (cu h2)];exact h2⟩
   ·intro b m hb;rcases List.mem_cons.1 hb with hb|hb
    ·injection hb with h1 h2;subst h1 h2;exact⟨#[],0,(heap_alloc w _).1,rfl⟩
    ·obtain⟨es,cl,g1,g2⟩:=hm b m hb;exact⟨es,cl,by rw[Below.heap_alloc _ _ _ (cu g1)];exact g1,g2⟩
   ·intro b m hb;rcases List.mem_cons.1 hb with hb|hb
    ·injection hb with h1 h2;subst h1;exact .inr (ai _)
    ·exact .inl (.inr ⟨m,hb⟩)
   ·simp only[b_,kh];refine⟨fun XD=>?_,hmn⟩;obtain⟨⟨b,m⟩,h1,h2⟩:=List.mem_map.1 XD;have:=hlt b m h1;simp only at h2;omega
  ·simp at h
 ·simp at h
theorem ve(D:List Nat){α:Type} [DecidableEq α](K:KE α)(ty key el:TypeId)(ok:Bool)(own:List (Nat×List Value))(maps:List (Nat×List (Value×Value)))(b:Nat)(k:α)(l:List (α×Value))(z:Value)(hT:T.Ok P)
   (lK:(b,bM K l)∈maps)
  (hk:W T P fin (EI (aJ T (bh T D 999 c)) own maps (if ok then .tuple #[(gJ k l).getD z,.bool (gJ k l).isSome]else(gJ k l).getD z)) Γ)(h:Ki (aJ T (bh T D 999 c))=some (ty,.map (some b),K.f k,ok,own,maps):=by kernel_rfl)(ht:P.underlying ty=some (.map key el):=by kernel_rfl)(hkd:P.underlying key=some K.d:=by kernel_rfl)(hz:(T.get el).map (·.zero)=some z:=by kernel_rfl):W T P fin c Γ:=by
 refine eF D 999 ?_;generalize bh T D 999 c=c1 at*;unfold Ki at h;split at h
 ·rename_i o c' he;rw[he]at hk;split at h
  ·rename_i t m x ok' hop;split at h
   ·rename_i mv kv e1 e2;simp only[aq,aI]at h;obtain⟨rfl,rfl,rfl,rfl,rfl,rfl⟩:=h;refine W.mop (fun v O M Δ=>v=(if ok' then .tuple #[(gJ k l).getD z,.bool (gJ k l).isSome]else(gJ k l).getD z)∧O=c'.s.own∧M=c'.s.maps∧Δ=[]) he ?_ (fun v O M Δ ⟨e1,e2,e3,e4⟩=>by subst e1 e2 e3 e4;exact hk);intro I w hd hh ho hon hm hmn hx;obtain⟨es,clock,hb,hes⟩:=hm b _ lK;have hf:=tC K k es.toList l 0 hes;obtain⟨y,hy,hyz⟩:∃y,T.get el=some y∧y.zero=z:=by
     cases hg:T.get el with
     |none=>rw[hg]at hz;simp at hz
     |some y=>rw[hg]at hz;simp at hz;exact⟨y,rfl,hz⟩
    obtain⟨i,d,hi,hdd,EZ,_⟩:=fk (hT.ty _ _ hy);refine⟨_,c'.s.own,c'.s.maps,[],w,.value (if ok' then .tuple #[(gJ k l).getD z,.bool (gJ k l).isSome]else(gJ k l).getD z),?_,.inl rfl,⟨rfl,rfl,rfl,rfl⟩,j6.refl _ _,ho,fun b cs hb=>.inl (.inl ⟨cs,hb⟩),hon,hm,fun b m hb=>.inl (.inr ⟨m,hb⟩),hmn,aG.nil _ _⟩;have hget:=Cx k l 0;simp only[execOp,hop,cE e1,cE e2,Instr.lookup,cB,cP ht,bC,Go.MapKept.run_getObj_map hb,dS,run_checkKey hkd (K.key k),run_findKey hkd hf];cases ha:sC k l 0 with
    |none=>
     rw[ha]at hget;rw[←hget];simp only[cB,Hd hi EZ,bC,dS,Option.map_none,Option.getD_none,lq,hyz]
    |some p=>
     rw[ha]at hget;rw[←hget];simp only[cB,bC,dS,dq,jI,Option.isSome_some]
   ·simp at h
  ·simp at h
 ·simp at h
theorem Ct(D:List Nat){α:Type} [DecidableEq α](K:KE α)(ty key el:TypeId)(own:List (Nat×List Value))(M1 M2:List (Nat×List (Value×Value)))(b:Nat)(k:α)(v:Value)(l:List (α×Value))
  
  (hk:W T P fin (EI (aJ T (bh T D 999 c)) own (M1++(b,bM K (kU k v l))::M2) undef) Γ)(h:Kk (aJ T (bh T D 999 c))=some (ty,.map (some b),K.f k,v,own,M1++(b,bM K l)::M2):=by kernel_rfl)(ht:P.underlying ty=some (.map key el):=by kernel_rfl)(hkd:P.underlying key=some K.d:=by kernel_rfl):W T P fin c Γ:=by
 refine eF D 999 ?_;generalize bh T D 999 c=c1 at*;unfold Kk at h;split at h
 ·rename_i o c' he;rw[he]at hk;split at h
  ·rename_i t m x u hop;split at h
   ·rename_i mv kv xv e1 e2 e3;simp only[aq,aI]at h;obtain⟨rfl,rfl,rfl,rfl,rfl,em⟩:=h;refine W.mop (fun v' O M Δ=>v'=undef∧O=c'.s.own∧M=M1++(b,bM K (kU k xv l))::M2∧Δ=[]) he ?_ (fun v O M Δ ⟨e1,e2,e3,e4⟩=>by subst e1 e2 e3 e4;exact hk);intro I w hd hh ho hon hm hmn hx;rw[em]at hm hmn hx⊢;obtain⟨es,clock,hb,hes⟩:=hm b (bM K l) (by simp);have hf:=tC K k es.toList l 0 hes;have hne:∀b' m,((b',m)∈M1∨(b',m)∈M2)→b'≠b:=fun b' m qM e=>by
     subst e;simp only[aX,b_]at hmn;have:=(List.perm_middle (a:=b') (l₁:=M1.map (·.1)) (l₂:=M2.map (·.1))).nodup_iff.1 hmn;rw[kh]at this;apply this.1;rcases qM with qM|qM
     ·exact kq _ (List.mem_map.2 ⟨(b',m),qM,rfl⟩)
     ·exact iF _ (List.mem_map.2 ⟨(b',m),qM,rfl⟩)
    have hown:∀b' cs,(b',cs)∈c'.s.own→b'≠b:=fun b' cs qM e=>by
     subst e;obtain⟨e',_,g⟩:=ho b' cs qM;rw[hb]at g;simp at g
    obtain⟨YD,DV,hrun,Ig⟩:∃YD DV,(execOp c'.s.rho o).run P w=.ok .skip {w with heap:=w.heap.setIfInBounds b (.map YD DV)}∧YD.toList.map (fun e=>(e.key,e.val))=bM K (kU k xv l):=by
     simp only[execOp,hop,cE e1,cE e2,cE e3,Instr.mapUpdate,cB,cP ht,bC,Go.MapKept.run_getObj_map hb,dS,run_checkKey hkd (K.key k),run_findKey hkd hf];cases ha:sC k l 0 with
     |none=>
      refine⟨es.push {key:=K.f k,val:=xv,born:=clock},clock+1,by simp only[run_setObj_map _ hb,bC],?_⟩;rw[Ap ha];simp only[Array.toList_push,aX,b_,cZ,hes,bM]
     |some p=>
      obtain⟨j,u⟩:=p;obtain⟨_,g2,g3⟩:=Aq ha;rw[Nat.sub_zero]at g2 g3;have g4:(bM K l)[j]? =some (K.f k,u):=by simp[bM,g2]
      rw[←hes,bN]at g4;obtain⟨e0,Vy,NB⟩:∃e0,es.toList[j]? =some e0∧(e0.key,e0.val)=(K.f k,u):=by
       cases hj:es.toList[j]? with
       |none=>rw[hj]at g4;simp at g4
       |some e0=>rw[hj]at g4;exact⟨e0,rfl,by simpa using g4⟩
      simp only[aI]at NB;have hj:es[j]? =some e0:=by simpa using Vy
      refine⟨es.modify j fun e=>{key:=K.f k,val:=xv,born:=e.born},clock,by simp only[hj,dq,jI,NB.1,cB,run_keyThatStays (K.key k),run_setObj_map _ hb,bC],?_⟩;rw[g3 xv];refine List.ext_getElem? fun i=>?_;simp only[bM,bN,bF,eT,jX];have hi:=dz (fun q=>q[i]?) hes;simp only[bM,bN,eT]at hi;have hlen:es.size=l.length:=by
       have:=dz List.length hes;simpa [bM]using this
      by_cases hij:j=i
      ·subst hij;have hjl:j<l.length:=(List.getElem?_eq_some_iff.1 g2).1;rw[hj];simp[hjl]
      ·simp only[hij,ea];exact hi
    have NT:=heap_set (o':=.map YD DV) hb;refine⟨undef,c'.s.own,M1++(b,bM K (kU k xv l))::M2,[],_,.skip,hrun,.inr ⟨rfl,rfl⟩,⟨rfl,rfl,rfl,rfl⟩,⟨rfl,rfl,rfl,by simp,fun i _ hi=>NT.2 i (fun e=>hi (.inr ⟨bM K l,by subst e;simp⟩))⟩,?_,fun b cs hb=>.inl (.inl ⟨cs,hb⟩),hon,?_,?_,?_,aG.nil _ _⟩
    ·intro b' cs qM;obtain⟨e,h1,h2⟩:=ho b' cs qM;exact⟨e,h1,by rw[NT.2 b' (hown b' cs qM)];exact h2⟩
    ·intro b' m qM;simp only[ez,aD,aI]at qM;rcases qM with qM|⟨rfl,rfl⟩|qM
     ·obtain⟨es1,cl1,h1,h2⟩:=hm b' m (by simp[qM]);exact⟨es1,cl1,by rw[NT.2 b' (hne b' m (.inl qM))];exact h1,h2⟩
     ·exact⟨YD,DV,NT.1,Ig⟩
     ·obtain⟨es1,cl1,h1,h2⟩:=hm b' m (by simp[qM]);exact⟨es1,cl1,by rw[NT.2 b' (hne b' m (.inr qM))];exact h1,h2⟩
    ·intro b' m qM;simp only[ez,aD,aI]at qM;rcases qM with qM|⟨rfl,rfl⟩|qM
     ·exact .inl (.inr ⟨m,by simp[qM]⟩)
     ·exact .inl (.inr ⟨bM K l,by simp⟩)
     ·exact .inl (.inr ⟨m,by simp[qM]⟩)
    ·simpa using hmn
   ·simp at h
  ·simp at h
 ·simp at h
end
def tbM(L:List Nat)(B:Prop)(v:Value):Tb:={tb with hand:=true,calm:=fun f=> !ly f L,pan:=fun ch=>B∧ch=[{v,recovered:=false}]}
theorem aag(L:List Nat)(B:Prop)(v:Value):(tbM L B v).Ok Tryz.prog:=⟨aB.mixed,aB.ty⟩
theorem au.m{L:List Nat}{B:Prop}{x:Value}{f:FuncId}{args:List Value}{Γ:List aE}{post:Value→List aE→Prop}(h:au tb Tryz.prog f args Γ post):au (tbM L B x) Tryz.prog f args Γ post:=h
theorem kj.m{L:List Nat}{B:Prop}{x:Value}{f:FuncId}{args:List Value}{Γ:List aE}{post:Value→List (Nat×List Value)→List aE→Prop}(h:kj tb Tryz.prog f args Γ post):kj (tbM L B x) Tryz.prog f args Γ post:=h
open Go.RowKit Go.ChangeShapes Go.WideShapes
section
variable{H:Type}{enc:TypeId×Value→H}{P:Program}{w:World}
theorem tp{t:TypeId}{k:IntKind}{c:Value}{n:Nat}{y:DataW H×List MemPlace}(ht:P.underlying t=some (.int k))(h:DataW.trod enc P w 0 (fun _=>true) true n t [c]=some y):∃z,c=.int k z∧(Lit.int k z).wf=true:=by
 obtain⟨z,hc,_,hw⟩:=DataW.trod_int ht h;simp at hc;exact⟨z,hc,hw⟩
end
open Go.RowKit
def tL:Code→List It→List (Code×List It)
 | .seq a b,k=>tL a (.code b::k)++tL b k
 | .block id b,k=>tL b (.blk id::k)
 | .cond _ a b,k=>tL a k++tL b k
 | .scope b,k=>tL b k
 | .loop b,k=>[(b,k)]
 |_,_=>[]
def Zv(fn:Func)(i:Nat):Code:=match fn.body with
 |some c=>((tL c []).getD i (.skip,[])).1
 |none=>.skip
def Zw(fn:Func)(i:Nat):List It:=match fn.body with
 |some c=>((tL c []).getD i (.skip,[])).2
 |none=>[]
def Z9(l:List SV):List (Nat×SV)→List SV
 | []=>l
 |(i,v)::r=>Z9 (l.set i v) r
def Z8(l:List (Option (List Value))):List (Nat×List Value)→List (Option (List Value))
 | []=>l
 |(i,v)::r=>Z8 (l.set i (some v)) r
def kI(nt nb:Nat)(U:List (Nat×SV))(X:List (Nat×List Value))(O:List (Nat×List Value))(M:List (Nat×List (Value×Value))):VS:=
 ⟨Z9 (List.replicate nt .junk) U,Z8 (List.replicate nb none) X,O,M⟩
def VS.only(s:VS)(N B:List Nat):VS:=s.forget (jW N (List.range s.tmps.length)) (jW B (List.range s.boxes.length))
section
variable{T:Tb}{P:Program}{fin:VS→List aE→Prop}{c:fM}{Γ:List aE}
theorem kA(D:List Nat)(fn:Func)(ix nt nb:Nat){α:Type}(N B:List Nat)(U:α→List (Nat×SV))(X:α→List (Nat×List Value))(O:α→List (Nat×List Value))(M:α→List (Nat×List (Value×Value)))(G:α→List aE)(inv:α→Prop)(μ:α→Nat)(a0:α)
  
  
  (i0:inv a0)(f0:∀I w,bB T I w→aG Γ I w→aG (G a0) I w)
  (hr:∀(a:α) (R:VS→List aE→Prop),inv a→
   (∀(D':List Nat) (c':fM) (Γ':List aE) (a':α),qz (aJ T (bh T D' 999 c'))=some R→
    (qA (aJ T (bh T D' 999 c'))).map (fun s=>s.only N B)=some (kI nt nb (U a') (X a') (O a') (M a'))→
    inv a'→μ a'<μ a→(∀I w,bB T I w→aG Γ' I w→aG (G a') I w)→W T P fin c' Γ')→
   W T P fin ⟨kI nt nb (U a) (X a) (O a) (M a),.code (Zv fn ix)::.again R::Zw fn ix⟩ (G a))(h:qF (aJ T (bh T D 999 c))=true:=by kernel_rfl)(hb:vS (aJ T (bh T D 999 c))=Zv fn ix:=by kernel_rfl)(hk:Gj (aJ T (bh T D 999 c))=Zw fn ix:=by kernel_rfl)(h0:(nD (aJ T (bh T D 999 c))).only N B=kI nt nb (U a0) (X a0) (O a0) (M a0):=by kernel_rfl):W T P fin c Γ:=by
 refine eF D 999 ?_;generalize bh T D 999 c=c1 at*;generalize he:aJ T c1=e at*;cases e with
 |loop b c'=>
  have hb:b=Zv fn ix:=hb;have hk:c'.k=Zw fn ix:=hk;rw[←hb,←hk]at hr;have key:∀(m:Nat) (s:VS) (Γ':List aE),(∃a,s.only N B=kI nt nb (U a) (X a) (O a) (M a)∧inv a∧μ a=m∧∀I w,bB T I w→aG Γ' I w→aG (G a) I w)→
    W T P fin ⟨s,.code b::.again (fun s' Γ'=>∃m',m'<m∧∃a,s'.only N B=kI nt nb (U a) (X a) (O a) (M a)∧inv a∧μ a=m'∧∀I w,bB T I w→aG Γ' I w→aG (G a) I w)::c'.k⟩ Γ':=by
   rintro m s Γ' ⟨a,hs,hi,rfl,hf⟩;refine W.forget (jW N (List.range s.tmps.length)) (jW B (List.range s.boxes.length)) rfl ?_;rw[show s.forget (jW N (List.range s.tmps.length)) (jW B (List.range s.boxes.length))=kI nt nb (U a) (X a) (O a) (M a)from hs];refine W.sub rfl hf ?_;refine hr a _ hi (fun D' c' Γ' a' hR hS hi' hl' hf'=>?_);refine eF D' 999 ?_;generalize bh T D' 999 c'=c2 at*;cases hv:aJ T c2<;>rw[hv]at hR hS<;>simp[qz,qA]at hR hS;subst hR;exact W.again hv ⟨μ a',hl',a',hS,hi',rfl,hf'⟩
  exact W.loop (fun m s Γ'=>∃a,s.only N B=kI nt nb (U a) (X a) (O a) (M a)∧inv a∧μ a=m∧∀I w,bB T I w→aG Γ' I w→aG (G a) I w) (μ a0) he ⟨a0,h0,i0,rfl,f0⟩ key
 |_=>simp[qF]at h
end
end Go.Proofs.YtgaaopjagcaojaaGreat
