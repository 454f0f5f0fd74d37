import Derived.Test.YtgaaopjagcaojaaGreatOz
import Derived.Test.YtgaaopjagcaojaaGreatOw
import Derived.Test.YtgaaopjagcaojaaGreatOv
import Derived.Test.YtgaaopjagcaojaaGreatPr
import Derived.Test.YtgaaopjagcaojaaGreatTb
import Derived.MapKept
import Derived.Test.YtgaaopjagcaojaaGreatVy
import Derived.ChangeSame
set_option linter.unusedSimpArgs false
set_option linter.unusedVariables false
namespace Go.Proofs.YtgaaopjagcaojaaGreat
open Go.RowKit Go.IntWalk
structure Kv(cs ws:List Dp):Prop where
 len:cs.length=ws.length+1
 way:∀(i:Nat) (a b d:Dp),cs[i]? =some a→cs[i+1]? =some b→ws[i]? =some d→a≠b∧d=gh a b
 turn:∀(i:Nat) (d e:Dp),ws[i]? =some d→ws[i+1]? =some e→d≠e
theorem Kv.snoc{cs ws:List Dp}{a b:Dp}(h:Kv cs ws)(ha:cs.getLast?=some a)(hab:a≠b)(hw:ws.getLast?≠some (gh a b)):Kv (cs++[b]) (ws++[gh a b]):=by
 have hl:=h.len;rw[fU,hl,ek]at ha;rw[fU]at hw;refine⟨by simp[hl],fun i x y d h1 h2 h3=>?_,fun i d e h1 h2=>?_⟩
 ·by_cases hi:i<ws.length
  ·rw[dk (by omega)]at h1 h2 h3;exact h.way i x y d h1 h2 h3
  ·have hi2:i=ws.length:=by
    have:=(List.getElem?_eq_some_iff.1 h3).1;simp at this;omega
   subst hi2;rw[dk (by omega),ha]at h1;rw[eQ (by omega),hl]at h2;rw[eQ (by omega)]at h3;simp at h1 h2 h3;subst h1 h2 h3;exact⟨hab,rfl⟩
 ·by_cases hi:i+1<ws.length
  ·rw[dk (by omega)]at h1 h2;exact h.turn i d e h1 h2
  ·have hi2:i+1=ws.length:=by
    have:=(List.getElem?_eq_some_iff.1 h2).1;simp at this;omega
   rw[dk (by omega),show i=ws.length-1 by omega]at h1;rw[eQ (by omega),hi2]at h2;simp at h2;subst h2;rintro rfl;exact hw h1
theorem Nw:∀{R U:List Dp},jU R U→R≠ []→Kv R.reverse U.reverse
 | [],_,_,h=>absurd rfl h
 | [a],U,h,_=>by
  simp only[jU]at h;subst h;exact⟨rfl,fun i x y d h1 h2 h3=>by simp at h3,fun i d e h1 h2=>by simp at h1⟩
 |b::a::r,U,⟨d,v,hU,hab,hd,hv,hok⟩,_=>by
  subst hU hd;have ih:=Nw hok (by simp);rw[List.reverse_cons,List.reverse_cons (a:=gh a b)];exact ih.snoc (by rw[List.getLast?_reverse];rfl) hab (by rw[List.getLast?_reverse];exact hv)
theorem Ci:∀U:List Dp,sP U=true↔∃(i:Nat) (d e:Dp),U[i]? =some e∧U[i+1]? =some d∧e=i_ d
 | []=>by simp[sP]
 | [a]=>by simp[sP]
 |e::d::r=>by
  have ih:=Ci (d::r);simp only[sP,dZ,dG,ih];constructor
  ·rintro(h|⟨i,x,y,h1,h2,h3⟩)
   ·exact⟨0,d,e,rfl,rfl,h⟩
   ·exact⟨i+1,x,y,h1,h2,h3⟩
  ·rintro⟨i,x,y,h1,h2,h3⟩;cases i with
   |zero=>
    simp at h1 h2;subst h1 h2;exact .inl h3
   |succ i=>exact .inr ⟨i,x,y,h1,h2,h3⟩
theorem Ja(U:List Dp):sP U=true↔∃(i:Nat) (d e:Dp),U.reverse[i]? =some d∧U.reverse[i+1]? =some e∧e=i_ d:=by
 rw[Ci];constructor
 ·rintro⟨i,d,e,h1,h2,h3⟩;have hi:=(List.getElem?_eq_some_iff.1 h2).1;refine⟨U.length-2-i,d,e,?_,?_,h3⟩
  ·rw[List.getElem?_reverse (by omega),show U.length-1-(U.length-2-i)=i+1 by omega,h2]
  ·rw[List.getElem?_reverse (by omega),show U.length-1-(U.length-2-i+1)=i by omega,h1]
 ·rintro⟨i,d,e,h1,h2,h3⟩;have hi:=(List.getElem?_eq_some_iff.1 h2).1;simp only[ft]at hi;rw[List.getElem?_reverse (by omega)]at h1 h2;refine⟨U.length-2-i,d,e,?_,?_,h3⟩
  ·rw[show U.length-2-i=U.length-1-(i+1)by omega,h2]
  ·rw[show U.length-2-i+1=U.length-1-i by omega,h1]
theorem GQ{p q:Dp}(h:p≠q):lN (gh p q)=1:=by
 have hv:=AV h;unfold gh;generalize(⟨q.x-p.x,q.y-p.y⟩:Dp)=v at*;have h1:=Jj v hv;have h2:=q_ (pE v);have h3:=Na hv;rw[h1]at h2;rcases h3 with h3|h3
 ·exact Int.eq_one_of_mul_eq_self_left h3 h2.1.symm
 ·exact Int.eq_one_of_mul_eq_self_left h3 h2.2.symm
theorem DZ{d:Dp}(h:lN d=1):d.x≠0∨d.y≠0:=by
 by_cases hx:d.x=0
 ·by_cases hy:d.y=0
  ·unfold lN at h;rw[hx,hy]at h;simp at h
  ·exact .inr hy
 ·exact .inl hx
theorem IV{d:Dp}(h:d.x≠0∨d.y≠0):ke d≠0:=by
 unfold ke;have h1:0≤d.x*d.x:=by rcases Int.le_total 0 d.x with h|h;exact eO h h;exact jv h h
 have h2:0≤d.y*d.y:=by rcases Int.le_total 0 d.y with h|h;exact eO h h;exact jv h h
 rcases h with h|h
 ·have:d.x*d.x≠0:=j3 h h;omega
 ·have:d.y*d.y≠0:=j3 h h;omega
theorem Qx{p q:Dp}(hp:ig 2147483648 p)(hq:ig 2147483648 q)(h:p≠q):ig 4294967296 (gh p q):=by
 have hm:=q_ ⟨q.x-p.x,q.y-p.y⟩;have hg:=s_ (AV h);unfold ig at*;simp only at hm;have bx: -4294967296≤(gh p q).x∧(gh p q).x≤4294967296:=tX hg hm.1 (by omega) (by omega);have byy: -4294967296≤(gh p q).y∧(gh p q).y≤4294967296:=tX hg hm.2 (by omega) (by omega);omega
theorem Fm{d e:Dp}(hd:lN d=1)(he:lN e=1)(h1:d≠e)(h2:e≠i_ d):p8 (eN d) e≠0:=by
 intro h0;have hx:d.x*e.y=d.y*e.x:=by
  unfold p8 eN at h0;simp only at h0;have: -d.y*e.x= -(d.y*e.x):=Int.neg_mul _ _;omega
 have hn:d.x.natAbs*e.y.natAbs=d.y.natAbs*e.x.natAbs:=by rw[←cK,hx,cK]
 have cd:Nat.Coprime d.x.natAbs d.y.natAbs:=by unfold lN at hd;unfold Nat.Coprime;omega
 have ce:Nat.Coprime e.x.natAbs e.y.natAbs:=by unfold lN at he;unfold Nat.Coprime;omega
 have kx:d.x.natAbs=e.x.natAbs:=by
  apply Nat.dvd_antisymm
  ·exact Nat.Coprime.dvd_of_dvd_mul_left cd (by rw[←hn];exact Nat.dvd_mul_right _ _)
  ·exact Nat.Coprime.dvd_of_dvd_mul_right ce (by rw[hn];exact Nat.dvd_mul_left _ _)
 have ky:d.y.natAbs=e.y.natAbs:=by
  apply Nat.dvd_antisymm
  ·exact Nat.Coprime.dvd_of_dvd_mul_left cd.symm (by rw[hn];exact Nat.dvd_mul_right _ _)
  ·exact Nat.Coprime.dvd_of_dvd_mul_right ce.symm (by rw[←hn];exact Nat.dvd_mul_left _ _)
 have hm:∀(P:d.x=0∨d.y=0),False:=fun hz=>by
  rcases hz with hz|hz
  ·have:e.x=0:=by omega
   rcases Int.natAbs_eq_natAbs_iff.1 ky with h|h
   ·exact h1 (Dp.eq_iff.2 ⟨by omega,h⟩)
   ·exact h2 (Dp.eq_iff.2 ⟨by unfold i_;simp only;omega,by unfold i_;simp only;omega⟩)
  ·have:e.y=0:=by omega
   rcases Int.natAbs_eq_natAbs_iff.1 kx with h|h
   ·exact h1 (Dp.eq_iff.2 ⟨h,by omega⟩)
   ·exact h2 (Dp.eq_iff.2 ⟨by unfold i_;simp only;omega,by unfold i_;simp only;omega⟩)
 rcases Int.natAbs_eq_natAbs_iff.1 kx with hx1|hx1<;>rcases Int.natAbs_eq_natAbs_iff.1 ky with hy1|hy1
 ·exact h1 (Dp.eq_iff.2 ⟨hx1,hy1⟩)
 ·have e1:e.x=d.x:=hx1.symm;have e2:e.y= -d.y:=by omega
  rw[e1,e2,Int.mul_neg,k7 d.y d.x]at hx;have:d.x*d.y=0:=by omega
  exact hm (Int.mul_eq_zero.1 this)
 ·have e1:e.x= -d.x:=by omega
  have e2:e.y=d.y:=hy1.symm;rw[e1,e2,Int.mul_neg,k7 d.y d.x]at hx;have:d.x*d.y=0:=by omega
  exact hm (Int.mul_eq_zero.1 this)
 ·exact h2 (Dp.eq_iff.2 ⟨by unfold i_;simp only;omega,by unfold i_;simp only;omega⟩)
theorem oR(h:Rat):∀(c w:List Dp),c.length=w.length→(gn h c w).length=w.length-1
 |_,[],hl=>by cases ‹List Dp› <;>simp[gn]at*
 | [],_::_,hl=>by simp at hl
 |p::c,[d],hl=>by simp[gn]
 |p::c,d::e::w,hl=>by
  have:=oR h c (e::w) (by simp at hl⊢;omega);simp only[gn,aD,this];omega
theorem mD(h:Rat):∀(c w:List Dp) (j:Nat) (p d e:Dp),c[j]? =some p→w[j]? =some d→w[j+1]? =some e→(gn h c w)[j]? =some (fY p d e h)
 | [],_,j,p,d,e,h1,h2,h3=>by simp at h1
 |_::_,[],j,p,d,e,h1,h2,h3=>by simp at h2
 |_::_,[a],j,p,d,e,h1,h2,h3=>by simp at h3
 |q::c,a::b::w,j,p,d,e,h1,h2,h3=>by
  cases j with
  |zero=>
   simp at h1 h2 h3;subst h1 h2 h3;rfl
  |succ j=>
   simp only[gn,eS]at h1 h2 h3⊢;exact mD h c (b::w) j p d e h1 h2 h3
theorem lq{α:Type}{l:List α}{j:Nat}{x:α}(h:l[j]? =some x):l.take (j+1)=l.take j++[x]:=by
 obtain⟨hj,rfl⟩:=List.getElem?_eq_some_iff.1 h;exact List.take_succ_eq_append_getElem hj
theorem xC{α:Type}{l:List α}{j:Nat}{x:α}(h:l[j]? =some x):(l.drop j).reverse=(l.drop (j+1)).reverse++[x]:=by
 obtain⟨hj,rfl⟩:=List.getElem?_eq_some_iff.1 h;rw[bz hj,List.reverse_cons]
section
variable{Γ:List aC}
theorem ez{F:aC}{Δ:List aC}(h:∀(I:fN) (w:World),br tb I w→aE Γ I w→F.p I w)(h':∀(I:fN) (w:World),br tb I w→aE Γ I w→aE Δ I w):∀(I:fN) (w:World),br tb I w→aE Γ I w→aE (F::Δ) I w:=fun I w hd hh=>aE.cons (h I w hd hh) (h' I w hd hh)
theorem gf{α:Type}{k:α→aC}{a:α} [h:aY k a Γ]:∀(I:fN) (w:World),br tb I w→aE Γ I w→(k a).p I w:=fun I w _ hh=>h.p hh
theorem sZ:∀(I:fN) (w:World),br tb I w→aE Γ I w→aE [] I w:=fun I w _ _=>aE.nil _ _
theorem Cu{L:Nat}{l:List jt}(e:jt) [h:aY (OS gd) (L,l) Γ] [hx:aY (SF e.x) (L,e.X) Γ] [hy:aY (SF e.y) (L,e.Y) Γ]:∀(I:fN) (w:World),br tb I w→aE Γ I w→(OS gd (L,l++[e])).p I w:=fun I w _ hh x hx'=>by
 rcases List.mem_append.1 hx' with h1|h1
 ·exact h.p hh x h1
 ·simp only[aH,aI,bU]at h1;subst h1;exact⟨hx.p hh,hy.p hh⟩
theorem Nl{L:Nat}{l l2:List jt}{ao:Option Addr} [h:aY (OS gd) (L,l) Γ] [hx:aY (OL gd ao) (L,l2) Γ]:∀(I:fN) (w:World),br tb I w→aE Γ I w→(OS gd (L,l++l2)).p I w:=fun I w _ hh x hx'=>by
 rcases List.mem_append.1 hx' with h1|h1
 ·exact h.p hh x h1
 ·exact(hx.p hh).1 x h1
theorem O_(B:Nat)(k:Int) [aY (d_ B) [.int .i64 0,.int .i64 1,.int .i64 2,.int .i64 4] Γ]:
  aw tb Tryz.prog 233 [.slice (some ⟨B,0,none⟩) 4 4,.int .i64 k] Γ (fun v Δ=>∃z:Int,v=.int .i64 z∧Δ=[]∧decide (z≥0)=(decide (k=0)||decide (k=1)||decide (k=2)||decide (k=4))):=by
 refine aw.of_W az Tryz.func233 rfl ?_;refine jP [] 5 ?_;refine bY [9] 1 B 0 4 4 .i64 0 0 rfl az (by decide) ?_;refine dB [] 1 B 0 (.int .i64 0) az (fun I w _ hh=>by rw[ov (aY.p (k:=d_ B) (a:=[.int .i64 0,.int .i64 1,.int .i64 2,.int .i64 4]) inferInstance hh)];rfl) ?_;refine W.d [] 16 (k==0) (fun h=>?_) (fun h0=>?_)
 ·exact W.r [16] (.int .i64 0) ⟨0,rfl,rfl,by have:=eq_of_beq h;subst this;decide⟩ bR
 refine bY [9,16] 1 B 0 4 4 .i64 1 1 rfl az (by decide) ?_;refine dB [] 1 B 1 (.int .i64 1) az (fun I w _ hh=>by rw[ov (aY.p (k:=d_ B) (a:=[.int .i64 0,.int .i64 1,.int .i64 2,.int .i64 4]) inferInstance hh)];rfl) ?_;refine W.d [] 16 (k==1) (fun h=>?_) (fun h1=>?_)
 ·exact W.r [16] (.int .i64 1) ⟨1,rfl,rfl,by have:=eq_of_beq h;subst this;decide⟩ bR
 refine bY [9,16] 1 B 0 4 4 .i64 2 2 rfl az (by decide) ?_;refine dB [] 1 B 2 (.int .i64 2) az (fun I w _ hh=>by rw[ov (aY.p (k:=d_ B) (a:=[.int .i64 0,.int .i64 1,.int .i64 2,.int .i64 4]) inferInstance hh)];rfl) ?_;refine W.d [] 16 (k==2) (fun h=>?_) (fun h2=>?_)
 ·exact W.r [16] (.int .i64 2) ⟨2,rfl,rfl,by have:=eq_of_beq h;subst this;decide⟩ bR
 refine bY [9,16] 1 B 0 4 4 .i64 3 3 rfl az (by decide) ?_;refine dB [] 1 B 3 (.int .i64 4) az (fun I w _ hh=>by rw[ov (aY.p (k:=d_ B) (a:=[.int .i64 0,.int .i64 1,.int .i64 2,.int .i64 4]) inferInstance hh)];rfl) ?_;refine W.d [] 16 (k==4) (fun h=>?_) (fun h3=>?_)
 ·exact W.r [16] (.int .i64 3) ⟨3,rfl,rfl,by have:=eq_of_beq h;subst this;decide⟩ bR
 refine W.r [9,16] (.int .i64 (-1)) ⟨-1,rfl,rfl,?_⟩ bR;have e0:k≠0:=by simpa using h0
 have e1:k≠1:=by simpa using h1
 have e2:k≠2:=by simpa using h2
 have e3:k≠4:=by simpa using h3
 simp[e0,e1,e2,e3]
theorem Sq(B:Nat)(k:Int) [aY (d_ B) [.int .i64 0,.int .i64 1,.int .i64 2,.int .i64 4] Γ]:
  aw tb Tryz.prog 184 [.slice (some ⟨B,0,none⟩) 4 4,.int .i64 k] Γ (jf (.bool (decide (k=0)||decide (k=1)||decide (k=2)||decide (k=4)))):=by
 refine aw.of_W az Tryz.func184 rfl ?_;refine aq [] (O_ B k) ?_;rintro _ _ ⟨z,rfl,rfl,hz⟩;exact W.r [] (.bool (decide (z≥0))) ⟨by rw[hz],rfl⟩ bR
theorem EV{α:Type}{p:α→Bool}:∀{l:List α},(∀i (h:i<l.length),p (l[i]'h)=false)→l.any p=false
 | [],_=>rfl
 |a::r,h=>by
  rw[List.any_cons,EV (fun i hi=>h (i+1) (by simpa using hi)),Bool.or_false];exact h 0 (by simp)
theorem Pb(ao:Option Addr)(n c:Nat)(fW:List Dp) [aY (RA ao) (fW.flatMap dY) Γ](hn:n=fW.length)(hn2:n≤8191):
  aw tb Tryz.prog 234 [.slice ao n c,.func (.func 186) #[] #[]] Γ (fun v Δ=>∃z:Int,v=.int .i64 z∧Δ=[]∧decide (z≥0)=fW.any tB):=by
 refine aw.of_W az Tryz.func234 rfl ?_;refine yZ [] [8] (fun a:Nat×Int=>[(8,.int .i64 a.2)]) (fun _=>[]) (fun _=>[RA ao (fW.flatMap dY)]) (fun a=>a.2=a.1∧a.1≤n∧∀i (h:i<fW.length),i<a.1→tB (fW[i]'h)=false) (fun a=>n-a.1) (0,0) ⟨rfl,aJ _,fun i _ h=>by omega⟩ oL ?_;rintro⟨i,z⟩ K ⟨hz,hi,fI⟩ close;simp only at hz hi fI;by_cases hlt:i<n
 rotate_left
 ·refine aR [] 9 (decide (z<(n:Int))) (ai (by omega)) ?_;exact W.r [9] (.int .i64 (-1)) ⟨-1,rfl,rfl,by rw[EV (fun j hj=>fI j hj (by omega))];rfl⟩ bR
 have hil:i<fW.length:=by omega
 have H0:∀(j:Nat) (v:Value),(dY (fW[i]'hil))[j]? =some v→(fW.flatMap dY)[i*2+j]? =some v:=fun j v hv=>Nh hil hv;have ly:=dS hil;have Jz:tB (fW[i]'hil)=false→∀j (h:j<fW.length),j<i+1→tB (fW[j]'h)=false:=fun ho j h hj=>by
  by_cases zp:j<i
  ·exact fI j h zp
  ·obtain rfl:j=i:=by omega
   exact ho
 generalize hp:fW[i]'hil=p at*;refine Hs ao rfl (by intro e;have:=oJ fW;rw[e]at this;simp at this;omega) (fun ba of e=>?_);subst e;refine bk [] 9 (decide (z<(n:Int))) (ar (by omega)) ?_;refine bY [9] 2 ba of n c .i64 i z hz az hlt ?_;refine cY [] ba (of+i*2) (dY p) az (ed ba of (i*2) H0) ?_;refine aq [] (WU p) ?_;rintro _ _ ⟨rfl,rfl⟩;refine W.d [] 16 (tB p) (fun hb=>?_) (fun hb=>?_)
 ·refine W.r [16] (.int .i64 z) ⟨z,rfl,rfl,?_⟩ bR;rw[ar (by omega)];exact(List.any_eq_true.2 ⟨p,ly,hb⟩).symm
 ·exact close [16] _ _ (i+1,IntKind.i64.wrap (z+1)) (by kernel_rfl) (by kernel_rfl) ⟨by simp only[af];omega,hlt,Jz hb⟩ (by simp only;omega) oL
theorem OW(ao:Option Addr)(n c:Nat)(fW:List Dp) [aY (RA ao) (fW.flatMap dY) Γ](hn:n=fW.length)(hn2:n≤8191):
  aw tb Tryz.prog 185 [.slice ao n c,.func (.func 186) #[] #[]] Γ (jf (.bool (fW.any tB))):=by
 refine aw.of_W az Tryz.func185 rfl ?_;refine aq [] (Pb ao n c fW hn hn2) ?_;rintro _ _ ⟨z,rfl,rfl,hz⟩;exact W.r [] (.bool (decide (z≥0))) ⟨by rw[hz],rfl⟩ bR
theorem W7(p d:Dp)(x y:Int)(hx:x=d.x)(hy:y=d.y)(hq bq:Qw){h b:Rat}{L L1:Nat} [aY (QG hq) (L,h) Γ] [aY (QG bq) (L1,b) Γ](r:Bool)(hp:ig 2147483648 p)(hd:ig 4294967296 d)(h0:ke d≠0)(hL:L≤5∧L1≤5:=by omega):
  aw tb Tryz.prog 189 [dv p,.agg #[.int .i64 x,.int .i64 y],qv hq.n hq.a hq.m hq.b,qv bq.n bq.a bq.m bq.b,.bool r] Γ (US (lY p d h b r)):=by
 subst hx hy;cases r
 ·exact W8 p d hq bq hp hd h0
 ·exact W_ p d hq bq hp hd h0
end
section
variable{T:Tb}{P:Program}{fin:VS→List aC→Prop}{c:fC}{Γ:List aC}
def IZ(z:Nat)(O:List (Nat×List Value))(v:Value)(n:Nat)(xs:List Value)(ao:Option Addr)(ys:List Value):Prop:=
 (O=[]∧v=.slice ao n n∧0<n∧xs.length=n*z∧ys=xs)∨(cH z O v n xs∧ao=none∧ys=[])
theorem B_(D:List Nat)(O:List (Nat×List Value))(z bytes n m:Nat)(ao:Option Addr)(v x:Value)(xs ys news:List Value)(hT:T.Ok P)
   [hrp:aY (RA ao) ys Γ](hg:IZ z O v n xs ao ys)(hm:0<m)(hx:qA T Γ O x m z news)(h1:∀u∈news,u.oneCell'=true)
  (hn:n+m≤1000000)(hb:bytes≤100000000)
  (hk:∀v' O',cH z O' v' (n+m) (xs++news)→W T P fin (mR (aK T (aZ T D 999 c)) O' v') Γ)(h:pQ T (aK T (aZ T D 999 c))=some (O,z,bytes,v,x):=by kernel_rfl):W T P fin c Γ:=by
 rcases hg with⟨rfl,rfl,h0,hl,rfl⟩|⟨hg,rfl,rfl⟩
 ·refine Mv D [] z bytes n m ao x ys news hT (h:=h) hl h0 hm hx hn hb (fun g cap cur k1 k2 k3 k4=>hk _ _ ⟨?_,.inr ⟨g,cap,cur,rfl,rfl,k1,k2,k3,k4⟩⟩);obtain⟨_,_,_,hnl,_⟩:=hx;rw[aA,hl,hnl,ea]
 ·exact W.app D O [] O [] z bytes n m v x xs news hT (h:=h) (by simp) hg hx h1 hn hb (fun v' O' hg'=>by simpa using hk v' O' hg')
end
structure LnV where
 p:Dp
 d:Dp
 r:Rat
 m:Int
 sl:Bool
structure XS where
 a:LnV
 b:LnV
 m:Int
 n:Int
structure LnC where
 p:Dp
 d:Dp
 S:Int
 s:Sl
 R:Int
 t:Sl
 M:Int
 u:Sl
 sl:Bool
structure TwE where
 a:LnC
 b:LnC
 M:Int
 u:Sl
 N:Int
 v:Sl
 va:Rat
 ma:Int
 vb:Rat
 mb:Int
 m:Int
 n:Int
def TwE.num(e:TwE):XS:=⟨⟨e.a.p,e.a.d,e.va,e.ma,e.a.sl⟩,⟨e.b.p,e.b.d,e.vb,e.mb,e.b.sl⟩,e.m,e.n⟩
section
variable{Γ:List aC}{L M:Nat}
end
theorem Lv{fW:List Dp}{width kind bg en:Int}(h:qM fW width kind bg en=0):fW.length≤8191∧q5 width kind bg en=false∧fW.any tB=false∧2≤(iv fW).1.length∧sP (iv fW).2=false:=by
 unfold qM at h;split at h
 ·simp at h
 ·split at h
  ·simp at h
  ·split at h
   ·simp at h
   ·split at h
    ·simp at h
    ·split at h
     ·simp at h
     ·refine⟨by omega,by simp_all,by simp_all,by omega,by simp_all⟩
theorem EX{width kind bg en:Int}:q5 width kind bg en=false↔(kind=0∨kind=1∨kind=2∨kind=4)∧1≤width∧width≤2147483647∧ -2147483647≤bg∧bg≤2147483647∧ -2147483647≤en∧en≤2147483647:=by
 simp only[q5,sj,vl,dZ,dG,aV];omega
theorem SG(s:List Dp×List Dp)(p:Dp):(push s p).2.length≤s.2.length+1:=by
 obtain⟨R,w⟩:=s;cases R with
 |nil=>simp[push]
 |cons l r=>
  simp only[push];split
  ·simp
  ·split<;>simp
theorem Fl:∀(fW:List Dp) (s:List Dp×List Dp),(fW.foldl push s).2.length≤s.2.length+fW.length
 | [],s=>by simp
 |p::r,s=>by
  have:=Fl r (push s p);have:=SG s p;simp only[nY,aD];omega
def aaK(x:LnV)(m n:Int):Sn:=
 if x.sl=true then⟨m,n,0,0,0,x.r*Rat.divInt 1 2⟩else if x.m=m then⟨m,n,0,x.r,0,0⟩else⟨m,n,0,0,x.r,0⟩
def onS(x:LnV)(X Y:Sn):Sn:=
 ((Sn.mul ⟨X.m,X.n,(x.d.x:Rat),0,0,0⟩ ⟨X.m,X.n,X.p-(x.p.x:Rat),X.q,X.r,X.s⟩).add (Sn.mul ⟨X.m,X.n,(x.d.y:Rat),0,0,0⟩ ⟨Y.m,Y.n,Y.p-(x.p.y:Rat),Y.q,Y.r,Y.s⟩)).add (aaK x X.m X.n).neg
structure Yz(P:Sn×Sn)(t:XS):Prop where
 xm:P.1.m=t.m
 xn:P.1.n=t.n
 ym:P.2.m=t.m
 yn:P.2.n=t.n
 m0:0≤t.m
 n0:0≤t.n
 a:(onS t.a P.1 P.2).fold.nil
 b:(onS t.b P.1 P.2).fold.nil
def Mg(l:List (Sn×Sn))(w:List XS):Prop:=l.length=w.length∧∀(i:Nat) (a:Sn×Sn) (b:XS),l[i]? =some a→w[i]? =some b→Yz a b
theorem Mg.nil:Mg [] []:=⟨rfl,fun i a b h=>by simp at h⟩
theorem Mg.cons{a:Sn×Sn}{b:XS}{l:List (Sn×Sn)}{w:List XS}(h:Yz a b)(hl:Mg l w):Mg (a::l) (b::w):=⟨by simp[hl.1],fun i x y hx hy=>by
 cases i with
 |zero=>simp at hx hy;subst hx hy;exact h
 |succ i=>exact hl.2 i x y hx hy⟩
theorem SO(d:Dp):ke (eN d)=ke d∧ke (iz d)=ke d:=by
 unfold ke eN iz;simp only[sI];omega
theorem Bv{d:Dp}(h:ig 4294967296 d):(ke d).natAbs<2^67:=by
 unfold ig at h;have h1:d.x.natAbs*d.x.natAbs≤4294967296*4294967296:=aW (by omega) (by omega);have h2:d.y.natAbs*d.y.natAbs≤4294967296*4294967296:=aW (by omega) (by omega);have e:(ke d).natAbs≤d.x.natAbs*d.x.natAbs+d.y.natAbs*d.y.natAbs:=by
  unfold ke;rw[←cK,←cK];exact Int.natAbs_add_le _ _
 exact iq e (iq (Nat.add_le_add h1 h2) (by decide))
theorem Cr{d e:Dp}(h:ig 4294967296 d)(g:ig 4294967296 e):(p8 d e).natAbs<2^67:=by
 unfold ig at h g;have h1:d.x.natAbs*e.x.natAbs≤4294967296*4294967296:=aW (by omega) (by omega);have h2:d.y.natAbs*e.y.natAbs≤4294967296*4294967296:=aW (by omega) (by omega);have e:(p8 d e).natAbs≤d.x.natAbs*e.x.natAbs+d.y.natAbs*e.y.natAbs:=by
  unfold p8;rw[←cK,←cK];exact Int.natAbs_add_le _ _
 exact iq e (iq (Nat.add_le_add h1 h2) (by decide))
theorem lj{d:Dp}(h:ig 4294967296 d):d.x.natAbs<2^34∧d.y.natAbs<2^34:=by
 unfold ig at h;omega
theorem zH{d:Dp}(h:ig 4294967296 d):ig 4294967296 (eN d)∧ig 4294967296 (iz d)∧ig 4294967296 (i_ d):=by
 unfold ig eN iz i_ at*;simp only;omega
open Go.RowKit Go.MapKept
structure Kw(α:Type) where
 f:α→Value
 d:TypeDesc
 inj:∀a b,f a=f b→a=b
 key:∀a,IsKey d (f a)
def de:Kw Int:=⟨.int .i64,.int .i64,fun a b h=>by injection h,fun a=>rfl⟩
def dO:Kw ByteArray:=⟨.string,.string,fun a b h=>by injection h,fun a=>trivial⟩
section
variable{α:Type} [DecidableEq α]
def gl{β:Type}(k:α):List (α×β)→Option β
 | []=>none
 |(a,v)::r=>if k=a then some v else gl k r
def kL{β:Type}(k:α)(v:β):List (α×β)→List (α×β)
 | []=>[(k,v)]
 |(a,u)::r=>if k=a then(k,v)::r else(a,u)::kL k v r
def rX(k:α):List (α×Value)→Nat→Option (Nat×Value)
 | [],_=>none
 |(a,v)::r,i=>if k=a then some (i,v)else rX k r (i+1)
def bJ(K:Kw α)(l:List (α×Value)):List (Value×Value):=l.map fun e=>(K.f e.1,e.2)
theorem h_{β:Type}(k j:α)(v:β):∀l:List (α×β),gl j (kL k v l)=if j=k then some v else gl j l
 | []=>by simp[kL,gl]
 |(a,u)::r=>by
  unfold kL;by_cases h:k=a
  ·subst h;simp only[eX,gl];by_cases hj:j=k<;>simp[hj]
  ·simp only[h,dW,gl];by_cases hj:j=a
   ·subst hj;simp[Ne.symm h]
   ·simp only[hj,dW];exact h_ k j v r
theorem Cd(k:α):∀(l:List (α×Value)) (i:Nat),(rX k l i).map (·.2)=gl k l
 | [],i=>rfl
 |(a,u)::r,i=>by
  unfold rX gl;by_cases h:k=a
  ·simp[h]
  ·simp only[h,dW];exact Cd k r (i+1)
theorem z_{k:α}:∀{l:List (α×Value)} {i:Nat},rX k l i=none→∀v,kL k v l=l++[(k,v)]
 | [],i,_,v=>rfl
 |(a,u)::r,i,h,v=>by
  unfold rX at h;unfold kL;by_cases hk:k=a
  ·simp[hk]at h
  ·simp only[hk,dW]at h⊢;rw[z_ h v];rfl
theorem Aa{k:α}:∀{l:List (α×Value)} {i j:Nat} {u:Value},rX k l i=some (j,u)→i≤j∧l[j-i]? =some (k,u)∧∀v,kL k v l=l.set (j-i) (k,v)
 | [],i,j,u,h=>by simp[rX]at h
 |(a,w)::r,i,j,u,h=>by
  unfold rX at h;by_cases hk:k=a
  ·subst hk;simp only[eX,au,aF]at h;obtain⟨rfl,rfl⟩:=h;refine⟨aj _,by simp,fun v=>by simp[kL]⟩
  ·simp only[hk,dW]at h;obtain⟨h1,h2,h3⟩:=Aa h;refine⟨by omega,?_,fun v=>?_⟩
   ·rw[show j-i=(j-(i+1))+1 by omega];simpa using h2
   ·unfold kL;simp only[hk,dW];rw[h3 v,show j-i=(j-(i+1))+1 by omega];rfl
theorem s7(K:Kw α)(k:α):∀(es:List MapEntry) (l:List (α×Value)) (i:Nat),es.map (fun e=>(e.key,e.val))=bJ K l→Instr.findNow K.d (K.f k) es i=some (rX k l i)
 | [],[],i,_=>rfl
 | [],y::l,i,h=>by simp[bJ]at h
 |e::es,[],i,h=>by simp[bJ]at h
 |e::es,(a,v)::l,i,h=>by
  simp only[bJ,cA,sJ,aF]at h;obtain⟨⟨h1,h2⟩,h3⟩:=h;obtain⟨r,hr,ZL⟩:=sameNow_of_keys (K.key k) (K.key a);unfold Instr.findNow;rw[h1,hr];unfold rX;by_cases hk:k=a
  ·subst hk;rw[ZL.2 rfl,h2];simp
  ·have:r=false:=by
    cases r with
    |false=>rfl
    |true=>exact absurd (K.inj _ _ (ZL.1 rfl)) hk
   subst this;simp only[hk,dW];exact s7 K k es l (i+1) h3
end
section
variable{T:Tb}{P:Program}{fin:VS→List aC→Prop}{c:fC}{Γ:List aC}
def Er(e:Ev)(O:List (Nat×List Value))(M:List (Nat×List (Value×Value)))(v:Value):fC:=
 match e with
 | .own o c'=>⟨({c'.s with own:=O,maps:=M}:VS).put o.dst (.val v),c'.k⟩
 |_=>⟨⟨[],[],[],[]⟩,[]⟩
def Ke(e:Ev):Option (List (Nat×List Value)×List (Nat×List (Value×Value))):=
 match e with
 | .own o c'=>match o.op with
  | .makeMap _ none=>some (c'.s.own,c'.s.maps)
  |_=>none
 |_=>none
def Kd(e:Ev):Option (TypeId×Value×Value×Bool×List (Nat×List Value)×List (Nat×List (Value×Value))):=
 match e with
 | .own o c'=>match o.op with
  | .lookup t m k ok=>match c'.s.ev m,c'.s.ev k with
   | .val mv,.val kv=>some (t,mv,kv,ok,c'.s.own,c'.s.maps)
   |_,_=>none
  |_=>none
 |_=>none
def Kf(e:Ev):Option (TypeId×Value×Value×Value×List (Nat×List Value)×List (Nat×List (Value×Value))):=
 match e with
 | .own o c'=>match o.op with
  | .mapUpdate t m k x=>match c'.s.ev m,c'.s.ev k,c'.s.ev x with
   | .val mv,.val kv,.val xv=>some (t,mv,kv,xv,c'.s.own,c'.s.maps)
   |_,_,_=>none
  |_=>none
 |_=>none
theorem I4(D:List Nat)(own:List (Nat×List Value))(maps:List (Nat×List (Value×Value)))
  (hk:∀g,W T P fin (Er (aK T (aZ T D 999 c)) own ((g,[])::maps) (.map (some g))) Γ)(h:Ke (aK T (aZ T D 999 c))=some (own,maps):=by kernel_rfl):W T P fin c Γ:=by
 refine eg D 999 ?_;generalize aZ T D 999 c=c1 at*;unfold Ke at h;split at h
 ·rename_i o c' he;rw[he]at hk;split at h
  ·rename_i t hop;simp only[au,aF]at h;obtain⟨rfl,rfl⟩:=h;refine W.mop (fun v O M Δ=>∃g,v=.map (some g)∧O=c'.s.own∧M=(g,[])::c'.s.maps∧Δ=[]) he ?_ (fun v O M Δ ⟨g,e1,e2,e3,e4⟩=>by subst e1 e2 e3 e4;exact hk g);intro I w hd hh ho hon hm hmn hx;have hlt:∀b m,(b,m)∈c'.s.maps→b<w.heap.size:=fun b m hb=>by
    obtain⟨es,cl,g1,_⟩:=hm b m hb;exact cj g1
   refine⟨.map (some w.heap.size),c'.s.own,(w.heap.size,[])::c'.s.maps,[],w.alloc (.map #[] 0),.value (.map (some w.heap.size)),?_,.inl rfl,⟨_,rfl,rfl,rfl,rfl⟩,?_,?_,fun b cs hb=>.inl (.inl ⟨cs,hb⟩),hon,?_,?_,?_,aE.nil _ _⟩
   ·simp only[execOp,hop,Option.map_none,Instr.makeMap,cw,dL,run_newObj,bu,World.alloc_eq]
   ·exact⟨rfl,rfl,rfl,by simp,fun k hk' _=>Below.heap_alloc _ _ _ hk'⟩
   ·intro b cs hb;obtain⟨e,h1,h2⟩:=ho b cs hb;exact⟨e,h1,by rw[Below.heap_alloc _ _ _ (cj h2)];exact h2⟩
   ·intro b m hb;rcases List.mem_cons.1 hb with hb|hb
    ·injection hb with h1 h2;subst h1 h2;exact⟨#[],0,(heap_alloc w _).1,rfl⟩
    ·obtain⟨es,cl,g1,g2⟩:=hm b m hb;exact⟨es,cl,by rw[Below.heap_alloc _ _ _ (cj g1)];exact g1,g2⟩
   ·intro b m hb;rcases List.mem_cons.1 hb with hb|hb
    ·injection hb with h1 h2;subst h1;exact .inr (aj _)
    ·exact .inl (.inr ⟨m,hb⟩)
   ·simp only[cA,j4];refine⟨fun Ye=>?_,hmn⟩;obtain⟨⟨b,m⟩,h1,h2⟩:=List.mem_map.1 Ye;have:=hlt b m h1;simp only at h2;omega
  ·simp at h
 ·simp at h
theorem uS(D:List Nat){α:Type} [DecidableEq α](K:Kw α)(ty key el:TypeId)(ok:Bool)(own:List (Nat×List Value))(maps:List (Nat×List (Value×Value)))(b:Nat)(k:α)(l:List (α×Value))(z:Value)(hT:T.Ok P)
   (ly:(b,bJ K l)∈maps)
  (hk:W T P fin (Er (aK T (aZ T D 999 c)) own maps (if ok then .tuple #[(gl k l).getD z,.bool (gl k l).isSome]else(gl k l).getD z)) Γ)(h:Kd (aK T (aZ T D 999 c))=some (ty,.map (some b),K.f k,ok,own,maps):=by kernel_rfl)(ht:P.underlying ty=some (.map key el):=by kernel_rfl)(hkd:P.underlying key=some K.d:=by kernel_rfl)(hz:(T.get el).map (·.zero)=some z:=by kernel_rfl):W T P fin c Γ:=by
 refine eg D 999 ?_;generalize aZ T D 999 c=c1 at*;unfold Kd at h;split at h
 ·rename_i o c' he;rw[he]at hk;split at h
  ·rename_i t m x ok' hop;split at h
   ·rename_i mv kv e1 e2;simp only[au,aF]at h;obtain⟨rfl,rfl,rfl,rfl,rfl,rfl⟩:=h;refine W.mop (fun v O M Δ=>v=(if ok' then .tuple #[(gl k l).getD z,.bool (gl k l).isSome]else(gl k l).getD z)∧O=c'.s.own∧M=c'.s.maps∧Δ=[]) he ?_ (fun v O M Δ ⟨e1,e2,e3,e4⟩=>by subst e1 e2 e3 e4;exact hk);intro I w hd hh ho hon hm hmn hx;obtain⟨es,clock,hb,hes⟩:=hm b _ ly;have hf:=s7 K k es.toList l 0 hes;obtain⟨y,hy,hyz⟩:∃y,T.get el=some y∧y.zero=z:=by
     cases hg:T.get el with
     |none=>rw[hg]at hz;simp at hz
     |some y=>rw[hg]at hz;simp at hz;exact⟨y,rfl,hz⟩
    obtain⟨i,d,hi,hdd,EH,_⟩:=eY (hT.ty _ _ hy);refine⟨_,c'.s.own,c'.s.maps,[],w,.value (if ok' then .tuple #[(gl k l).getD z,.bool (gl k l).isSome]else(gl k l).getD z),?_,.inl rfl,⟨rfl,rfl,rfl,rfl⟩,jV.refl _ _,ho,fun b cs hb=>.inl (.inl ⟨cs,hb⟩),hon,hm,fun b m hb=>.inl (.inr ⟨m,hb⟩),hmn,aE.nil _ _⟩;have K_:=Cd k l 0;simp only[execOp,hop,cC e1,cC e2,Instr.lookup,cw,cL ht,bu,Go.MapKept.run_getObj_map hb,dL,run_checkKey hkd (K.key k),run_findKey hkd hf];cases ha:rX k l 0 with
    |none=>
     rw[ha]at K_;rw[←K_];simp only[cw,GZ hi EH,bu,dL,Option.map_none,Option.getD_none,k8,hyz]
    |some p=>
     rw[ha]at K_;rw[←K_];simp only[cw,bu,dL,dd,jq,Option.isSome_some]
   ·simp at h
  ·simp at h
 ·simp at h
theorem Ca(D:List Nat){α:Type} [DecidableEq α](K:Kw α)(ty key el:TypeId)(own:List (Nat×List Value))(M1 M2:List (Nat×List (Value×Value)))(b:Nat)(k:α)(v:Value)(l:List (α×Value))
  
  (hk:W T P fin (Er (aK T (aZ T D 999 c)) own (M1++(b,bJ K (kL k v l))::M2) undef) Γ)(h:Kf (aK T (aZ T D 999 c))=some (ty,.map (some b),K.f k,v,own,M1++(b,bJ K l)::M2):=by kernel_rfl)(ht:P.underlying ty=some (.map key el):=by kernel_rfl)(hkd:P.underlying key=some K.d:=by kernel_rfl):W T P fin c Γ:=by
 refine eg D 999 ?_;generalize aZ T D 999 c=c1 at*;unfold Kf at h;split at h
 ·rename_i o c' he;rw[he]at hk;split at h
  ·rename_i t m x u hop;split at h
   ·rename_i mv kv xv e1 e2 e3;simp only[au,aF]at h;obtain⟨rfl,rfl,rfl,rfl,rfl,em⟩:=h;refine W.mop (fun v' O M Δ=>v'=undef∧O=c'.s.own∧M=M1++(b,bJ K (kL k xv l))::M2∧Δ=[]) he ?_ (fun v O M Δ ⟨e1,e2,e3,e4⟩=>by subst e1 e2 e3 e4;exact hk);intro I w hd hh ho hon hm hmn hx;rw[em]at hm hmn hx⊢;obtain⟨es,clock,hb,hes⟩:=hm b (bJ K l) (by simp);have hf:=s7 K k es.toList l 0 hes;have hne:∀b' m,((b',m)∈M1∨(b',m)∈M2)→b'≠b:=fun b' m qu e=>by
     subst e;simp only[aX,cA]at hmn;have:=(List.perm_middle (a:=b') (l₁:=M1.map (·.1)) (l₂:=M2.map (·.1))).nodup_iff.1 hmn;rw[j4]at this;apply this.1;rcases qu with qu|qu
     ·exact gE _ (List.mem_map.2 ⟨(b',m),qu,rfl⟩)
     ·exact hZ _ (List.mem_map.2 ⟨(b',m),qu,rfl⟩)
    have hown:∀b' cs,(b',cs)∈c'.s.own→b'≠b:=fun b' cs qu e=>by
     subst e;obtain⟨e',_,g⟩:=ho b' cs qu;rw[hb]at g;simp at g
    obtain⟨Zd,DB,hrun,H8⟩:∃Zd DB,(execOp c'.s.rho o).run P w=.ok .skip {w with heap:=w.heap.setIfInBounds b (.map Zd DB)}∧Zd.toList.map (fun e=>(e.key,e.val))=bJ K (kL k xv l):=by
     simp only[execOp,hop,cC e1,cC e2,cC e3,Instr.mapUpdate,cw,cL ht,bu,Go.MapKept.run_getObj_map hb,dL,run_checkKey hkd (K.key k),run_findKey hkd hf];cases ha:rX k l 0 with
     |none=>
      refine⟨es.push {key:=K.f k,val:=xv,born:=clock},clock+1,by simp only[run_setObj_map _ hb,bu],?_⟩;rw[z_ ha];simp only[Array.toList_push,aX,cA,dA,hes,bJ]
     |some p=>
      obtain⟨j,u⟩:=p;obtain⟨_,g2,g3⟩:=Aa ha;rw[Nat.sub_zero]at g2 g3;have g4:(bJ K l)[j]? =some (K.f k,u):=by simp[bJ,g2]
      rw[←hes,bM]at g4;obtain⟨e0,VQ,NH⟩:∃e0,es.toList[j]? =some e0∧(e0.key,e0.val)=(K.f k,u):=by
       cases hj:es.toList[j]? with
       |none=>rw[hj]at g4;simp at g4
       |some e0=>rw[hj]at g4;exact⟨e0,rfl,by simpa using g4⟩
      simp only[aF]at NH;have hj:es[j]? =some e0:=by simpa using VQ
      refine⟨es.modify j fun e=>{key:=K.f k,val:=xv,born:=e.born},clock,by simp only[hj,dd,jq,NH.1,cw,run_keyThatStays (K.key k),run_setObj_map _ hb,bu],?_⟩;rw[g3 xv];refine List.ext_getElem? fun i=>?_;simp only[bJ,bM,bA,eH,jL];have hi:=dF (fun q=>q[i]?) hes;simp only[bJ,bM,eH]at hi;have hlen:es.size=l.length:=by
       have:=dF List.length hes;simpa [bJ]using this
      by_cases hij:j=i
      ·subst hij;have hjl:j<l.length:=(List.getElem?_eq_some_iff.1 g2).1;rw[hj];simp[hjl]
      ·simp only[hij,dW];exact hi
    have N0:=heap_set (o':=.map Zd DB) hb;refine⟨undef,c'.s.own,M1++(b,bJ K (kL k xv l))::M2,[],_,.skip,hrun,.inr ⟨rfl,rfl⟩,⟨rfl,rfl,rfl,rfl⟩,⟨rfl,rfl,rfl,by simp,fun i _ hi=>N0.2 i (fun e=>hi (.inr ⟨bJ K l,by subst e;simp⟩))⟩,?_,fun b cs hb=>.inl (.inl ⟨cs,hb⟩),hon,?_,?_,?_,aE.nil _ _⟩
    ·intro b' cs qu;obtain⟨e,h1,h2⟩:=ho b' cs qu;exact⟨e,h1,by rw[N0.2 b' (hown b' cs qu)];exact h2⟩
    ·intro b' m qu;simp only[dU,aH,aF]at qu;rcases qu with qu|⟨rfl,rfl⟩|qu
     ·obtain⟨es1,cl1,h1,h2⟩:=hm b' m (by simp[qu]);exact⟨es1,cl1,by rw[N0.2 b' (hne b' m (.inl qu))];exact h1,h2⟩
     ·exact⟨Zd,DB,N0.1,H8⟩
     ·obtain⟨es1,cl1,h1,h2⟩:=hm b' m (by simp[qu]);exact⟨es1,cl1,by rw[N0.2 b' (hne b' m (.inr qu))];exact h1,h2⟩
    ·intro b' m qu;simp only[dU,aH,aF]at qu;rcases qu with qu|⟨rfl,rfl⟩|qu
     ·exact .inl (.inr ⟨m,by simp[qu]⟩)
     ·exact .inl (.inr ⟨bJ K l,by simp⟩)
     ·exact .inl (.inr ⟨m,by simp[qu]⟩)
    ·simpa using hmn
   ·simp at h
  ·simp at h
 ·simp at h
end
def tbM(L:List Nat)(B:Prop)(v:Value):Tb:={tb with hand:=true,calm:=fun f=> !k_ f L,pan:=fun ch=>B∧ch=[{v,recovered:=false}]}
theorem aaP(L:List Nat)(B:Prop)(v:Value):(tbM L B v).Ok Tryz.prog:=⟨az.mixed,az.ty⟩
theorem aw.m{L:List Nat}{B:Prop}{x:Value}{f:FuncId}{args:List Value}{Γ:List aC}{post:Value→List aC→Prop}(h:aw tb Tryz.prog f args Γ post):aw (tbM L B x) Tryz.prog f args Γ post:=h
theorem j6.m{L:List Nat}{B:Prop}{x:Value}{f:FuncId}{args:List Value}{Γ:List aC}{post:Value→List (Nat×List Value)→List aC→Prop}(h:j6 tb Tryz.prog f args Γ post):j6 (tbM L B x) Tryz.prog f args Γ post:=h
open Go.RowKit Go.ChangeShapes Go.WideShapes
section
variable{H:Type}{enc:TypeId×Value→H}{P:Program}{w:World}
theorem Iv{t:TypeId}{fs:Array Field}{v:Value}{d:DataW H}{ps:List MemPlace}(ht:P.underlying t=some (.struct fs)){r:Reach}{b0:Nat}(hval:Value.okWide P w r b0 t v)(h:DataW.Trod enc P w 0 (fun _=>true) true t v d ps):
  ∃cs:Array Value,v=.agg cs∧cs.size=P.cellsOf t∧∀(i:Nat) (f:Field),fs[i]? =some f→f.offset=i→P.cellsOf f.type=1→∀c,cs[i]? =some c→∃n y,DataW.trod enc P w 0 (fun _=>true) true n f.type [c]=some y:=by
 obtain⟨cs,rfl,hsz⟩:=okWide_struct ht hval;obtain⟨fuel,hf⟩:=h;obtain⟨xs,n,_,hx,hl,hlen,hff⟩:=DataW.trod_struct ht hf;refine⟨cs,rfl,hsz,fun i f hi ho hc c hcs=>?_⟩;have hix:i<xs.length:=by
  have:=(Array.getElem?_eq_some_iff.1 hi).1;omega
 have:=hff i f hi;rw[ho,hc]at this;refine⟨n,xs[i],?_⟩;have e:((Value.agg cs).cells.toList.drop i).take 1=[c]:=by
  have hlt:=(Array.getElem?_eq_some_iff.1 hcs).1;simp only[Value.cells];rw[bz (by simpa using hlt)];simp only[List.take_succ_cons,mj,Array.getElem_toList];rw[(Array.getElem?_eq_some_iff.1 hcs).2]
 rw[e]at this;rw[this,ak hix]
theorem Ag{t:TypeId}{k:IntKind}{c:Value}{n:Nat}{y:DataW H×List MemPlace}(ht:P.underlying t=some (.int k))(h:DataW.trod enc P w 0 (fun _=>true) true n t [c]=some y):∃z,c=.int k z∧(Lit.int k z).wf=true:=by
 obtain⟨z,hc,_,hw⟩:=DataW.trod_int ht h;simp at hc;exact⟨z,hc,hw⟩
end
open Go.RowKit
def tu:Code→List It→List (Code×List It)
 | .seq a b,k=>tu a (.code b::k)++tu b k
 | .block id b,k=>tu b (.blk id::k)
 | .cond _ a b,k=>tu a k++tu b k
 | .scope b,k=>tu b k
 | .loop b,k=>[(b,k)]
 |_,_=>[]
def Yj(fn:Func)(i:Nat):Code:=match fn.body with
 |some c=>((tu c []).getD i (.skip,[])).1
 |none=>.skip
def Yk(fn:Func)(i:Nat):List It:=match fn.body with
 |some c=>((tu c []).getD i (.skip,[])).2
 |none=>[]
def aaG(l:List SV):List (Nat×SV)→List SV
 | []=>l
 |(i,v)::r=>aaG (l.set i v) r
def aaF(l:List (Option (List Value))):List (Nat×List Value)→List (Option (List Value))
 | []=>l
 |(i,v)::r=>aaF (l.set i (some v)) r
def jx(nt nb:Nat)(U:List (Nat×SV))(X:List (Nat×List Value))(O:List (Nat×List Value))(M:List (Nat×List (Value×Value))):VS:=
 ⟨aaG (List.replicate nt .junk) U,aaF (List.replicate nb none) X,O,M⟩
def VS.only(s:VS)(N B:List Nat):VS:=s.forget (jK N (List.range s.tmps.length)) (jK B (List.range s.boxes.length))
section
variable{T:Tb}{P:Program}{fin:VS→List aC→Prop}{c:fC}{Γ:List aC}
theorem j7(D:List Nat)(fn:Func)(ix nt nb:Nat){α:Type}(N B:List Nat)(U:α→List (Nat×SV))(X:α→List (Nat×List Value))(O:α→List (Nat×List Value))(M:α→List (Nat×List (Value×Value)))(G:α→List aC)(inv:α→Prop)(μ:α→Nat)(a0:α)
  
  
  (i0:inv a0)(f0:∀I w,br T I w→aE Γ I w→aE (G a0) I w)
  (hr:∀(a:α) (R:VS→List aC→Prop),inv a→
   (∀(D':List Nat) (c':fC) (Γ':List aC) (a':α),oD (aK T (aZ T D' 999 c'))=some R→
    (oE (aK T (aZ T D' 999 c'))).map (fun s=>s.only N B)=some (jx nt nb (U a') (X a') (O a') (M a'))→
    inv a'→μ a'<μ a→(∀I w,br T I w→aE Γ' I w→aE (G a') I w)→W T P fin c' Γ')→
   W T P fin ⟨jx nt nb (U a) (X a) (O a) (M a),.code (Yj fn ix)::.again R::Yk fn ix⟩ (G a))(h:qg (aK T (aZ T D 999 c))=true:=by kernel_rfl)(hb:vH (aK T (aZ T D 999 c))=Yj fn ix:=by kernel_rfl)(hk:F_ (aK T (aZ T D 999 c))=Yk fn ix:=by kernel_rfl)(h0:(nd (aK T (aZ T D 999 c))).only N B=jx nt nb (U a0) (X a0) (O a0) (M a0):=by kernel_rfl):W T P fin c Γ:=by
 refine eg D 999 ?_;generalize aZ T D 999 c=c1 at*;generalize he:aK T c1=e at*;cases e with
 |loop b c'=>
  have hb:b=Yj fn ix:=hb;have hk:c'.k=Yk fn ix:=hk;rw[←hb,←hk]at hr;have key:∀(m:Nat) (s:VS) (Γ':List aC),(∃a,s.only N B=jx nt nb (U a) (X a) (O a) (M a)∧inv a∧μ a=m∧∀I w,br T I w→aE Γ' I w→aE (G a) I w)→
    W T P fin ⟨s,.code b::.again (fun s' Γ'=>∃m',m'<m∧∃a,s'.only N B=jx nt nb (U a) (X a) (O a) (M a)∧inv a∧μ a=m'∧∀I w,br T I w→aE Γ' I w→aE (G a) I w)::c'.k⟩ Γ':=by
   rintro m s Γ' ⟨a,hs,hi,rfl,hf⟩;refine W.forget (jK N (List.range s.tmps.length)) (jK B (List.range s.boxes.length)) rfl ?_;rw[show s.forget (jK N (List.range s.tmps.length)) (jK B (List.range s.boxes.length))=jx nt nb (U a) (X a) (O a) (M a)from hs];refine W.sub rfl hf ?_;refine hr a _ hi (fun D' c' Γ' a' hR hS hi' hl' hf'=>?_);refine eg D' 999 ?_;generalize aZ T D' 999 c'=c2 at*;cases hv:aK T c2<;>rw[hv]at hR hS<;>simp[oD,oE]at hR hS;subst hR;exact W.again hv ⟨μ a',hl',a',hS,hi',rfl,hf'⟩
  exact W.loop (fun m s Γ'=>∃a,s.only N B=jx nt nb (U a) (X a) (O a) (M a)∧inv a∧μ a=m∧∀I w,br T I w→aE Γ' I w→aE (G a) I w) (μ a0) he ⟨a0,h0,i0,rfl,f0⟩ key
 |_=>simp[qg]at h
end
end Go.Proofs.YtgaaopjagcaojaaGreat
