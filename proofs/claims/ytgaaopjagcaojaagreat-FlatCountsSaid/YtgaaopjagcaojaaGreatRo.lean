import Derived.Test.YtgaaopjagcaojaaGreatMa
import Derived.Test.YtgaaopjagcaojaaGreatOw
import Derived.Test.YtgaaopjagcaojaaGreatOv
import Derived.Test.YtgaaopjagcaojaaGreatVk
import Derived.Test.YtgaaopjagcaojaaGreatLe
set_option linter.unusedSimpArgs false
set_option linter.unusedVariables false
namespace Go.Proofs.YtgaaopjagcaojaaGreat
open Go.RowKit Go.IntWalk
def Fj(c:Ce):ByteArray:=strOfNums (Jg c)
def u_(s:ByteArray):List Ce→Nat→Option Nat
 | [],_=>none
 |c::r,i=>if s=Fj c then some i else u_ s r (i+1)
def pL(t:List Ce)(s:ByteArray):Option Nat:=u_ s t 0
theorem FP{s:ByteArray}:∀{t:List Ce} {i k:Nat},u_ s t i=some k→i≤k∧k<i+t.length
 | [],i,k,h=>by simp[u_]at h
 |c::r,i,k,h=>by
  unfold u_ at h;split at h
  ·injection h with h;subst h;simp
  ·have:=FP h;simp only[aD];omega
theorem Ob{s:ByteArray}{t:List Ce}{k:Nat}(h:pL t s=some k):k<t.length:=by
 have:=FP h;omega
def xO:List Ce→Nat→List (ByteArray×Int)→List (ByteArray×Int)
 | [],_,nm=>nm
 |c::r,i,nm=>xO r (i+1) (if(gl (Fj c) nm).isSome then nm else kL (Fj c) (i:Int) nm)
def cr(t:List Ce):List (ByteArray×Int):=xO t 0 []
theorem Cf(s:ByteArray):∀(t:List Ce) (i:Nat) (nm:List (ByteArray×Int)),gl s (xO t i nm)=match gl s nm with
  |some v=>some v
  |none=>(u_ s t i).map fun k:Nat=>(k:Int)
 | [],i,nm=>by cases h:gl s nm<;>simp[xO,u_,h]
 |c::r,i,nm=>by
  unfold xO u_;rw[Cf s r (i+1)];by_cases hs:s=Fj c
  ·subst hs;cases h:gl (Fj c) nm with
   |some v=>simp[h]
   |none=>simp[h_]
  ·cases h:gl (Fj c) nm with
   |some v=>simp[hs]
   |none=>simp[h_,hs]
theorem vu(s:ByteArray)(t:List Ce):gl s (cr t)=(pL t s).map fun k:Nat=>(k:Int):=by
 unfold cr;rw[Cf];rfl
def rn(t:List Ce)(x:Im):Option Nat:=(kn x).bind fun s=>pL t (strOfNums s)
def kZ(t:List Ce)(c:Nat):List Im:=(t.getD c ⟨[],[]⟩).i
def fy(t:List Ce)(c:Nat):List Nat:=(kZ t c).filterMap (rn t)
def rZ(t:List Ce)(c:Ce):Bool:=c.i.any fun x=>(kn x).isSome&&(rn t x).isNone
def lost(t:List Ce):Bool:=t.any (rZ t)
theorem tt(t:List Ce)(x:Im):mc (cr t) x=(kn x).map fun s=>match pL t (strOfNums s)with
  |some k=>(k:Int)
  |none=> -1:=by
 unfold mc;cases kn x with
 |none=>rfl
 |some s=>
  simp only[dd,vu];cases pL t (strOfNums s)<;>rfl
theorem Ih{t:List Ce}{c:Ce}(h:rZ t c=false):iI (cr t) c=(c.i.filterMap (rn t)).map fun k:Nat=>(k:Int):=by
 unfold iI;unfold rZ at h;rw[pY]at h;revert h;generalize c.i=l;intro h
 induction l with
 |nil=>rfl
 |cons x l ih=>
  have hx:=h x (by simp);have hl:=ih (fun y hy=>h y (by simp[hy]));cases hn:kn x with
  |none=>
   rw[List.filterMap_cons_none (by rw[tt,hn];rfl),List.filterMap_cons_none (by unfold rn;rw[hn];rfl)];exact hl
  |some s=>
   cases hi:pL t (strOfNums s)with
   |none=>unfold rn at hx;simp[hn,hi]at hx
   |some k=>
    rw[List.filterMap_cons_some (b:=(k:Int)) (by rw[tt,hn];simp[hi]),List.filterMap_cons_some (b:=k) (by unfold rn;rw[hn];simp[hi]),cA,hl]
theorem uo{t:List Ce}{c:Ce}:(∃k∈iI (cr t) c,k<0)↔rZ t c=true:=by
 unfold iI rZ;simp only[List.mem_filterMap,Mn,tt];constructor
 ·rintro⟨k,⟨x,hx,hk⟩,h0⟩;refine⟨x,hx,?_⟩;unfold rn;cases hn:kn x with
  |none=>rw[hn]at hk;simp at hk
  |some s=>
   rw[hn]at hk;simp only[dd,au,Option.bind_some,Option.isSome_some,dH]at hk⊢;cases hi:pL t (strOfNums s)with
   |none=>rfl
   |some j=>
    rw[hi]at hk;simp only at hk;omega
 ·rintro⟨x,hx,h⟩;cases hn:kn x with
  |none=>rw[hn]at h;simp at h
  |some s=>
   unfold rn at h;rw[hn]at h;simp only[Option.bind_some,Option.isSome_some,dH]at h;have hi:pL t (strOfNums s)=none:=by simpa using h
   exact⟨-1,⟨x,hx,by rw[hn];simp[hi]⟩,by decide⟩
def yu(t:List Ce):List Ce→Nat→Bool
 | [],_=>false
 |c::r,i=> !(pL t (Fj c)==some i)||yu t r (i+1)
def ach(t:List Ce):Bool:=yu t t 0
theorem AF{s:ByteArray}:∀{t:List Ce} {i:Nat},(∃c∈t,Fj c=s)→∃k,u_ s t i=some k
 | [],i,h=>by obtain⟨c,hc,_⟩:=h;simp at hc
 |c::r,i,h=>by
  unfold u_;split
  ·exact⟨_,rfl⟩
  ·rename_i hne;obtain⟨d,hd,he⟩:=h;simp only[aH]at hd;rcases hd with rfl|hd
   ·exact absurd he.symm hne
   ·exact AF ⟨d,hd,he⟩
def jr(g:Nat→Option Nat):List Nat→Nat→Option Nat
 | [],m=>some m
 |k::r,m=>match g k with
  |some d=>jr g r (max m d)
  |none=>none
def dep(t:List Ce):Nat→Nat→Option Nat
 |0,_=>none
 |n+1,c=>(jr (dep t n) (fy t c) 0).map (· +1)
theorem lL{g:Nat→Option Nat}:∀{l:List Nat} {m r:Nat},jr g l m=some r→m≤r∧∀k∈l,∃d,g k=some d∧d≤r
 | [],m,r,h=>by
  simp only[jr,au]at h;subst h;exact⟨aj _,fun k hk=>by simp at hk⟩
 |k::l,m,r,h=>by
  unfold jr at h;cases hg:g k with
  |none=>rw[hg]at h;simp at h
  |some d=>
   rw[hg]at h;obtain⟨h1,h2⟩:=lL h;refine⟨by omega,fun j hj=>?_⟩;simp only[aH]at hj;rcases hj with rfl|hj
   ·exact⟨d,hg,by omega⟩
   ·exact h2 j hj
theorem oI{g g':Nat→Option Nat}:∀{l:List Nat} {m:Nat},(∀k∈l,g k=g' k)→jr g l m=jr g' l m
 | [],m,_=>rfl
 |k::l,m,h=>by
  unfold jr;rw[h k (by simp)];cases g' k with
  |none=>rfl
  |some d=>exact oI fun j hj=>h j (by simp[hj])
theorem Fp{t:List Ce}:∀{n c d:Nat},dep t n c=some d→dep t (n+1) c=some d
 |0,c,d,h=>by simp[dep]at h
 |n+1,c,d,h=>by
  unfold dep at h⊢;rw[←h];have hs:∃r,jr (dep t n) (fy t c) 0=some r:=by
   cases hq:jr (dep t n) (fy t c) 0 with
   |none=>rw[hq]at h;simp at h
   |some r=>exact⟨r,rfl⟩
  obtain⟨r,hr⟩:=hs;congr 1;refine oI fun k hk=>?_;obtain⟨d',h1,h2⟩:=(lL hr).2 k hk;rw[h1];exact Fp h1
theorem mZ{t:List Ce}{n c d:Nat}(h:dep t n c=some d):∀{m:Nat},n≤m→dep t m c=some d
 |m,hm=>by
  induction m with
  |zero=>
   obtain rfl:n=0:=by omega
   exact h
  |succ m ih=>
   by_cases hnm:n≤m
   ·exact Fp (ih hnm)
   ·obtain rfl:n=m+1:=by omega
    exact h
theorem M9{t:List Ce}{n m c d e:Nat}(h:dep t n c=some d)(g:dep t m c=some e):d=e:=by
 have h1:=mZ h (m:=max n m) (by omega);have h2:=mZ g (m:=max n m) (by omega);rw[h1]at h2;exact Option.some.inj h2
theorem DF{t:List Ce}{n c d:Nat}(h:dep t n c=some d):0<d:=by
 cases n with
 |zero=>simp[dep]at h
 |succ n=>
  unfold dep at h;cases hq:jr (dep t n) (fy t c) 0 with
  |none=>rw[hq]at h;simp at h
  |some r=>
   rw[hq]at h;simp only[dd,au]at h;omega
theorem M8{t:List Ce}:∀{n c d:Nat},dep t n c=some d→d≤n
 |0,c,d,h=>by simp[dep]at h
 |n+1,c,d,h=>by
  unfold dep at h;cases hq:jr (dep t n) (fy t c) 0 with
  |none=>rw[hq]at h;simp at h
  |some r=>
   rw[hq]at h;simp only[dd,au]at h;have key:∀(l:List Nat) (m:Nat),jr (dep t n) l m=some r→r≤max m n:=by
    intro l
    induction l with
    |nil=>intro m hm;simp only[jr,au]at hm;omega
    |cons k l ih=>
     intro m hm;unfold jr at hm;cases hg:dep t n k with
     |none=>rw[hg]at hm;simp at hm
     |some e=>
      rw[hg]at hm;have:=ih _ hm;have:=M8 hg;omega
   have:=key _ _ hq;omega
def sE(t:List Ce)(c d:Nat):Prop:=∃n,dep t n c=some d
theorem sE.kid{t:List Ce}{c d k:Nat}(h:sE t c d)(hk:k∈fy t c):∃e,sE t k e∧e<d:=by
 obtain⟨n,h⟩:=h;cases n with
 |zero=>simp[dep]at h
 |succ n=>
  unfold dep at h;cases hq:jr (dep t n) (fy t c) 0 with
  |none=>rw[hq]at h;simp at h
  |some r=>
   rw[hq]at h;simp only[dd,au]at h;obtain⟨e,h1,h2⟩:=(lL hq).2 k hk;exact⟨e,⟨n,h1⟩,by omega⟩
theorem sE.uniq{t:List Ce}{c d e:Nat}(h:sE t c d)(g:sE t c e):d=e:=by
 obtain⟨n,h⟩:=h;obtain⟨m,g⟩:=g;exact M9 h g
theorem sE.of{t:List Ce}{c:Nat}{g:Nat→Option Nat}{r:Nat}(h:jr g (fy t c) 0=some r)(hg:∀k d,g k=some d→sE t k d):sE t c (r+1):=by
 have key:∀(l:List Nat) (m:Nat),jr g l m=some r→∃n,jr (dep t n) l m=some r:=by
  intro l
  induction l with
  |nil=>intro m hm;exact⟨0,hm⟩
  |cons k l ih=>
   intro m hm;unfold jr at hm;cases hk:g k with
   |none=>rw[hk]at hm;simp at hm
   |some d=>
    rw[hk]at hm;obtain⟨n1,h1⟩:=ih _ hm;obtain⟨n2,h2⟩:=hg k d hk;refine⟨max n1 n2,?_⟩;unfold jr;rw[mZ h2 (by omega)];simp only;rw[←h1];refine oI fun j hj=>?_;obtain⟨e,h3,_⟩:=(lL h1).2 j hj;rw[h3];exact mZ h3 (by omega)
 obtain⟨n,hn⟩:=key _ _ h;exact⟨n+1,by unfold dep;rw[hn];rfl⟩
theorem Fo{g:Nat→Option Nat}:∀{l:List Nat} {a m:Nat},jr g l a=some m→m=a∨∃k∈l,g k=some m
 | [],a,m,h=>by
  simp only[jr,au]at h;exact .inl h.symm
 |k::l,a,m,h=>by
  unfold jr at h;cases hg:g k with
  |none=>rw[hg]at h;simp at h
  |some d=>
   rw[hg]at h;rcases Fo h with h|⟨j,hj,hm⟩
   ·by_cases hd:d≤a
    ·exact .inl (by omega)
    ·exact .inr ⟨k,by simp,by rw[hg,h];congr 1;omega⟩
   ·exact .inr ⟨j,by simp[hj],hm⟩
theorem sE.some_kid{t:List Ce}{c d:Nat}(h:sE t c d):(d=1)∨(fy t c≠ []∧∃k∈fy t c,∃e,sE t k e∧d=e+1):=by
 obtain⟨n,h⟩:=h;cases n with
 |zero=>simp[dep]at h
 |succ n=>
  unfold dep at h;cases hq:jr (dep t n) (fy t c) 0 with
  |none=>rw[hq]at h;simp at h
  |some r=>
   rw[hq]at h;simp only[dd,au]at h;rcases Fo hq with h0|⟨k,hk,hm⟩
   ·exact .inl (by omega)
   ·exact .inr ⟨fun e=>by rw[e]at hk;simp at hk,k,hk,r,⟨n,hm⟩,h.symm⟩
theorem rM{f g:Nat→Nat}{c a:Nat}:∀{l:List Nat},c∈l→(∀j∈l,f j≤g j)→f c+a≤g c→(l.map f).sum+a≤(l.map g).sum
 | [],h,_,_=>by simp at h
 |j::l,h,h1,h2=>by
  have hle:∀l':List Nat,(∀j∈l',f j≤g j)→(l'.map f).sum≤(l'.map g).sum:=by
   intro l'
   induction l' with
   |nil=>intro _;exact aj _
   |cons x l' ih=>
    intro hx;have:=hx x (by simp);have:=ih fun y hy=>hx y (by simp[hy]);simp only[cA,gj];omega
  simp only[cA,gj];simp only[aH]at h;rcases h with rfl|h
  ·have:=hle l fun y hy=>h1 y (by simp[hy]);omega
  ·have:=rM h (fun y hy=>h1 y (by simp[hy])) h2;have:=h1 j (by simp);omega
open Classical in
theorem Ry{t:List Ce}{w:Nat→Nat}{A B:Nat}(hA:∀j,j<t.length→fy t j≠ []→A≤w j)(hB:∀j,j<t.length→B≤w j)(hk:∀c k,k∈fy t c→k<t.length):
  ∀(d c:Nat),c<t.length→sE t c d→A*(d-1)+B≤((List.range t.length).map fun j=>if ∃e,e≤d∧sE t j e then w j else 0).sum:=by
 intro d
 induction d with
 |zero=>
  intro c _ ⟨n,hd⟩;have:=DF hd;omega
 |succ d ih=>
  intro c hc hd;rcases hd.some_kid with h1|⟨hne,k,hkm,e,hke,H6⟩
  ·have:=rM (f:=fun _=>0) (g:=fun j=>if ∃e,e≤d+1∧sE t j e then w j else 0) (c:=c) (a:=B) (l:=List.range t.length) (by simpa using hc) (fun j _=>aJ _) (by
    simp only[cu];rw[if_pos ⟨d+1,aj _,hd⟩];exact hB c hc)
   obtain rfl:d=0:=by omega
   simp at this⊢;omega
  ·obtain rfl:e=d:=by omega
   have h2:=ih k (hk c k hkm) hke;have h3:=rM (f:=fun j=>if ∃e',e'≤e∧sE t j e' then w j else 0) (g:=fun j=>if ∃e',e'≤e+1∧sE t j e' then w j else 0) (c:=c) (a:=A) (l:=List.range t.length) (by simpa using hc) (fun j _=>by
    by_cases hj:∃e',e'≤e∧sE t j e'
    ·obtain⟨e',h4,h5⟩:=hj;rw[if_pos ⟨e',h4,h5⟩,if_pos ⟨e',by omega,h5⟩];exact aj _
    ·rw[if_neg hj];exact aJ _) (by
    have p_:¬ ∃e',e'≤e∧sE t c e':=fun⟨e',h4,h5⟩=>by
     have:=hd.uniq h5;omega
    rw[if_neg p_,if_pos ⟨e+1,aj _,hd⟩,cu];exact hA c hc hne)
   obtain⟨n,hn⟩:=hke;have hp:=DF hn;have e1:A*(e+1-1)=A*(e-1)+A:=by
    obtain⟨q,rfl⟩:∃q,e=q+1:=⟨e-1,by omega⟩;simp[fu]
   omega
theorem wG{t:List Ce}{c k:Nat}(h:k∈fy t c):k<t.length:=by
 unfold fy at h;obtain⟨x,_,hx⟩:=List.mem_filterMap.1 h;unfold rn at hx;cases hn:kn x with
 |none=>rw[hn]at hx;simp at hx
 |some s=>
  rw[hn]at hx;exact Ob hx
open Classical in
theorem KP{t:List Ce}{c d:Nat}(hc:c<t.length)(h:sE t c d):d≤t.length:=by
 have h1:=Ry (t:=t) (w:=fun _=>1) (A:=1) (B:=1) (fun _ _ _=>aj _) (fun _ _=>aj _) (fun c k hk=>wG hk) d c hc h;have h2:∀l:List Nat,(l.map fun j=>if ∃e,e≤d∧sE t j e then 1 else 0).sum≤l.length:=by
  intro l
  induction l with
  |nil=>exact aj _
  |cons x l ih=>
   simp only[cA,gj,aD];split<;>omega
 have:=h2 (List.range t.length);rw[gU]at this;omega
inductive MG(t:List Ce):Nat→Nat→Prop
 |one {a b:Nat}:b∈fy t a→MG t a b
 |more {a b c:Nat}:b∈fy t a→MG t b c→MG t a c
theorem MG.trans{t:List Ce}{a b c:Nat}(h:MG t a b)(g:MG t b c):MG t a c:=by
 induction h with
 |one h=>exact .more h g
 |more h _ ih=>exact .more h (ih g)
theorem MG.dep{t:List Ce}{a b d:Nat}(h:MG t a b)(hd:sE t a d):∃e,sE t b e∧e<d:=by
 induction h generalizing d with
 |one h=>exact hd.kid h
 |more h _ ih=>
  obtain⟨e,h1,h2⟩:=hd.kid h;obtain⟨e',h3,h4⟩:=ih h1;exact⟨e',h3,by omega⟩
theorem Sd{t:List Ce}{a d:Nat}(h:MG t a a):¬sE t a d:=fun hd=>by
 obtain⟨e,h1,h2⟩:=h.dep hd;have:=hd.uniq h1;omega
def cyc(t:List Ce):Prop:=∃c,c<t.length∧∀d,¬sE t c d
def Ji(t:List Ce):Prop:=∃c,c<t.length∧dep t 64 c=none
def jA(t:List Ce)(g:Nat→Int)(x:Im):Int:=
 if cE x=8∨cE x=45 then 1 else if cE x=9 then(if iS x=[]then 0 else 1)
 else if cE x=10∨cE x=11 then(match rn t x with
  |some k=>g k*(bI x).1*(bI x).2
  |none=>0)else 0
def jT(t:List Ce):Nat→Nat→Int
 |0,_=>0
 |n+1,c=>((kZ t c).map (jA t (jT t n))).sum
structure Sh where
 a:Int
 k:Int
 p:List Dp
abbrev LR:=Except Int (List Sh)
def lA{α:Type}(f:α→LR):List α→LR
 | []=>.ok []
 |a::l=>match f a with
  | .error e=>.error e
  | .ok s=>match lA f l with
   | .error e=>.error e
   | .ok s'=>.ok (s++s')
def jc:List (Sn×Sn)→Except Int (List Dp)
 | []=>.ok []
 |p::r=>if AG p.1.nr∧AG p.2.nr then(match jc r with
   | .ok l=>.ok (⟨p.1.nr,p.2.nr⟩::l)
   | .error e=>.error e)else .error 26
def iJ(x:Im)(l:List (Sn×Sn)):LR:=match jc l with
 | .ok p=>.ok [⟨cz x 13 0,if cE x=45 then cz x 46 0 else cz x 14 0,p⟩]
 | .error e=>.error e
def farP(V:On)(p:Sn×Sn):Option (Sn×Sn):=
 if p.1.m≤2∧p.1.n≤2 then
  some (r2 (V.u0 p.1.n0 p.1.n1 p.2.n0 p.2.n1) (V.u1 p.1.n0 p.1.n1 p.2.n0 p.2.n1),r2 (V.v0 p.1.n0 p.1.n1 p.2.n0 p.2.n1) (V.v1 p.1.n0 p.1.n1 p.2.n0 p.2.n1))
 else if V.o % 2≠0∨V.b≠0∨V.d≠0 then none
 else some (V.farX p.1 p.2,V.farY p.1 p.2)
def uM(V:On):List (Sn×Sn)→List (Sn×Sn)×Bool
 | []=>([],true)
 |p::r=>match farP V p with
  |some q=>(q::(uM V r).1,(uM V r).2)
  |none=>([],false)
def Fy(a b:Int):Rat:=Rat.divInt a b
def pt(of:Dp→Int)(p:List Dp)(eT rows i k:Int):Rat:=
 if p.length=3 then((of (p.getD 0 ⟨0,0⟩):Rat)+Fy ((of (p.getD 1 ⟨0,0⟩)-of (p.getD 0 ⟨0,0⟩))*i) eT)+Fy ((of (p.getD 2 ⟨0,0⟩)-of (p.getD 0 ⟨0,0⟩))*k) rows
 else(of (p.getD 0 ⟨0,0⟩):Rat)
def xS(x:Im)(i k:Int):On:=⟨ri x,gD x,j9 x,pt Dp.x (bH x) (bI x).1 (bI x).2 i k,0,pt Dp.y (bH x) (bI x).1 (bI x).2 i k,0⟩
def nA(t:List Ce)(n:Nat)(g:Nat→On→LR)(x:Im)(V:On):LR:=
 match rn t x with
  |none=>.ok []
  |some c=>if jT t n c=0 then .ok []
   else lA (fun k:Nat=>lA (fun i:Nat=>g c ((xS x i k).then V)) (List.range (bI x).1.toNat)) (List.range (bI x).2.toNat)
def BM(V:On)(p:Dp):Sn×Sn:=(V.X p.x p.y,V.Y p.x p.y)
def js(t:List Ce)(n:Nat)(g:Nat→On→LR)(V:On)(x:Im):LR:=
 if cE x=8∨cE x=45 then iJ x ((bH x).dropLast.map (BM V))
 else if cE x=9 then
  (if(uM V (iS x)).2=true then(if iS x=[]then .ok []else iJ x (uM V (iS x)).1)
   else match jc (uM V (iS x)).1 with
   | .ok _=>.error 25
   | .error e=>.error e)
 else if cE x=10∨cE x=11 then nA t n g x V
 else .ok []
def gg(t:List Ce):Nat→Nat→On→LR
 |0,_,_=>.ok []
 |n+1,c,V=>lA (js t n (gg t n) V) (kZ t c)
def ru(t:List Ce)(c:Nat):Bool:=(List.range t.length).any fun a=>(fy t a).contains c
def Ap(t:List Ce):Bool:=ach t||t.any fun c=>c.i.any fun x=> !j1 x
def pq(t:List Ce)(c:Nat):Int:=if ru t c=true then 0 else jT t 64 c
def ve(t:List Ce):Int:=((List.range t.length).map (pq t)).sum
def FX(t:List Ce)(c:Nat):LR:=if ru t c=true then .ok []else gg t 64 c Un
def Lm(t:List Ce):LR:=lA (FX t) (List.range t.length)
open Classical in
noncomputable def pJ (t:List Ce) (n:Int):LR:=
 if lost t=true then .error 23 else if cyc t then .error 24 else if Ap t=true∨Ji t then .error 25 else if ve t>n then .error 27 else Lm t
open Classical in
noncomputable def pI (t:Li) (n:Int):LR:=
 if n<0∨n>100000 then .error 1 else if nk t=false then .error 20 else pJ t.c n
theorem la{p q:nu (List Re)}{l x m:List Re}(h:fV p q l=some (x,m)):∃a b m1,p l=some (a,m1)∧q m1=some (b,m)∧x=a++b:=by
 unfold fV at h;split at h
 ·rename_i a m1 h1;split at h
  ·rename_i b m2 h2;simp only[au,aF]at h;obtain⟨rfl,rfl⟩:=h;exact⟨a,b,m1,h1,h2,rfl⟩
  ·simp at h
 ·simp at h
theorem qO{k:Int}{ks:List Int}{l x m:List Re}(hk:0≤k∧k<256)(h:dC (k::ks) l=some (x,m)):∃r x',x=r::x'∧r.k=k∧gp r=true:=by
 unfold dC at h;rw[if_pos (.inl hk.2)]at h;split at h
 ·rename_i r m1 h1;split at h
  ·rename_i rs m2 h2;simp only[au,aF]at h;obtain⟨rfl,rfl⟩:=h;obtain⟨_,h3,h4⟩:=fA h1;exact⟨r,rs,rfl,by omega,h4⟩
  ·simp at h
 ·simp at h
theorem jC.fields{x:Im}(h:jC x):∃r f m,x.f=r::f∧oP r.k=true∧fV (dC [r.k,294,303]) (gP r.k) (fD x)=some (x.f,m):=by
 obtain⟨h1,h2⟩:=h;cases hl:fD x with
 |nil=>rw[hl]at h1;simp[dX]at h1
 |cons r l=>
  rw[hl]at h1 h2;simp only[dX]at h1;unfold fT at h2;split at h2
  ·rename_i f m1 hf;obtain⟨⟨f',rfl⟩,g1⟩:=wY h1 hf;split at h2
   ·rename_i p m2 hp;split at h2
    ·rename_i r' m3 hm;simp only[au,aF]at h2;obtain⟨rfl,rfl⟩:=h2;exact⟨r,f',m1,rfl,h1,hf⟩
    ·simp at h2
   ·simp at h2
  ·simp at h2
theorem jC.im{x:Im}(h:jC x):qx x:=by
 obtain⟨r,f,m,hf,_,hp⟩:=h.fields;exact⟨by rw[hf];simp,(fL (cT _) (oZ _)).2 _ _ _ hp⟩
theorem jC.kind{x:Im}(h:jC x):cE x=8∨cE x=9∨cE x=10∨cE x=11∨cE x=12∨cE x=21∨cE x=45:=by
 obtain⟨r,f,m,hf,hk,_⟩:=h.fields;unfold cE;rw[hf];simp only[oP,dZ,mu]at hk;simp only[List.headD_cons];omega
theorem Ns{l:List Re}{k:Int}(h:∃r∈l,r.k=k):∃r,l.find? (fun r=>r.k==k)=some r:=by
 obtain⟨r,hr,hk⟩:=h;cases hf:l.find? (fun r=>r.k==k)with
 |some q=>exact⟨q,rfl⟩
 |none=>
  have:=List.find?_eq_none.1 hf r hr;simp[hk]at this
theorem jC.ref{x:Im}(h:jC x)(hk:cE x=10∨cE x=11):∃s,kn x=some s:=by
 obtain⟨r,f,m,hf,_,hp⟩:=h.fields;have hr:r.k=cE x:=by unfold cE;rw[hf];rfl
 obtain⟨a,b,m1,_,h2,hx⟩:=la hp;have key:∀q,fV (dC [18]) q m1=some (b,m)→∃s,kn x=some s:=by
  intro q hq;obtain⟨c,d,m2,h3,_,rfl⟩:=la hq;obtain⟨r',c',rfl,hk',_⟩:=qO (by decide) h3;obtain⟨s,hs⟩:=Ns (l:=x.f) (k:=18) ⟨r',by rw[hx];simp,hk'⟩;exact⟨gK s.b,by unfold kn dT;rw[hs];rfl⟩
 rcases hk with hk|hk<;>rw[hr,hk]at h2
 ·exact key _ h2
 ·exact key _ h2
def Mr(r:Re):Prop:=kJ r.b
def XN(c:Ce):Prop:=∀x∈c.i,∀r∈x.f,Mr r
theorem Xj{a b:Int}(ha:0≤a∧a<256)(hb:0≤b∧b<256): -32768≤Xi a b∧Xi a b≤32767:=by
 unfold Xi;split<;>omega
theorem Xm{a b c d:Int}(ha:0≤a∧a<256)(hb:0≤b∧b<256)(hc:0≤c∧c<256)(hd:0≤d∧d<256): -2147483648≤Xl a b c d∧Xl a b c d≤2147483647:=by
 unfold Xl;split<;>omega
theorem C_:∀{l:List Int},kJ l→∀z∈dM l,-32768≤z∧z≤32767
 | [],_,z,h=>by simp[dM]at h
 | [_],_,z,h=>by simp[dM]at h
 |a::b::r,hb,z,h=>by
  simp only[dM,aH]at h;rcases h with rfl|h
  ·exact Xj (hb a (by simp)) (hb b (by simp))
  ·exact C_ (fun y hy=>hb y (by simp[hy])) z h
theorem F8:∀{l:List Int},kJ l→∀z∈fe l,-2147483648≤z∧z≤2147483647
 | [],_,z,h=>by simp[fe]at h
 | [_],_,z,h=>by simp[fe]at h
 | [_,_],_,z,h=>by simp[fe]at h
 | [_,_,_],_,z,h=>by simp[fe]at h
 |a::b::c::d::r,hb,z,h=>by
  simp only[fe,aH]at h;rcases h with rfl|h
  ·exact Xm (hb a (by simp)) (hb b (by simp)) (hb c (by simp)) (hb d (by simp))
  ·exact F8 (fun y hy=>hb y (by simp[hy])) z h
theorem FE{l:List Int}{A B:Int}(h:∀z∈l,A≤z∧z≤B)(h0:A≤0∧0≤B)(k:Nat):A≤l.getD k 0∧l.getD k 0≤B:=by
 rw[dV];cases hk:l[k]? with
 |none=>simpa using h0
 |some z=>exact h z (aN hk)
theorem wu{x:Im}(h:∀r∈x.f,Mr r):(bI x).1≤32767∧(bI x).2≤32767:=by
 unfold bI;cases hf:dT x 19 with
 |none=>exact⟨by decide,by decide⟩
 |some r=>
  have hb:=C_ (h r (kA hf).1);have h0:=FE hb (by decide) 0;have h1:=FE hb (by decide) 1;simp only;refine⟨?_,h1.2⟩;cases hs:dM r.b with
  |nil=>simp
  |cons a l=>rw[hs]at h0;simpa using h0.2
theorem GG{A B:Int}:∀{l:List Int},(∀z∈l,A≤z∧z≤B)→∀d∈jZ l,(A≤d.x∧d.x≤B)∧A≤d.y∧d.y≤B
 | [],_,d,h=>by simp[jZ]at h
 | [_],_,d,h=>by simp[jZ]at h
 |a::b::r,hb,d,h=>by
  simp only[jZ,aH]at h;rcases h with rfl|h
  ·exact⟨hb a (by simp),hb b (by simp)⟩
  ·exact GG (fun y hy=>hb y (by simp[hy])) d h
theorem uz{x:Im}(h:∀r∈x.f,Mr r):∀d∈bH x,(-2147483648≤d.x∧d.x≤2147483647)∧ -2147483648≤d.y∧d.y≤2147483647:=by
 unfold bH;cases hf:dT x 16 with
 |none=>intro d hd;simp at hd
 |some r=>exact GG (F8 (h r (kA hf).1))
theorem ou{x:Im}(h:j1 x=true)(hk:cE x=10∨cE x=11):jb x=true∧0<(bI x).1∧0<(bI x).2∧((bH x).length=1∨(bH x).length=3):=by
 unfold j1 at h;rcases hk with hk|hk<;>rw[hk]at h<;>simp at h
 ·exact⟨h.1.1.1,h.1.1.2,h.1.2,.inl h.2⟩
 ·exact⟨h.1.1.1,h.1.1.2,h.1.2,.inr h.2⟩
theorem xa{x:Im}(h:j1 x=true)(hk:cE x=8∨cE x=45):4≤(bH x).length:=by
 unfold j1 at h;rcases hk with hk|hk<;>rw[hk]at h<;>simp at h
 ·exact h.1
 ·omega
theorem IX{x:Im}(h:jb x=true):kX x=false∧0<(j9 x).num.sign:=by
 unfold jb at h;simp only[aL,cD,dG]at h;exact⟨h.1,h.2.1⟩
theorem Ai{t:List Ce}:∀{n c d:Nat},dep t n c=some d→jT t (n+1) c=jT t n c
 |0,c,d,h=>by simp[dep]at h
 |n+1,c,d,h=>by
  have hr:∃r,jr (dep t n) (fy t c) 0=some r:=by
   unfold dep at h;cases hq:jr (dep t n) (fy t c) 0 with
   |none=>rw[hq]at h;simp at h
   |some r=>exact⟨r,rfl⟩
  obtain⟨r,hr⟩:=hr;unfold jT;congr 1;refine List.map_congr_left fun x hx=>?_;unfold jA;cases hk:rn t x with
  |none=>rfl
  |some k=>
   have hkm:k∈fy t c:=List.mem_filterMap.2 ⟨x,hx,hk⟩;obtain⟨e,he,_⟩:=(lL hr).2 k hkm;simp only;rw[Ai he]
section
variable{N M K J:Nat}{p q r s:Rat}
theorem cq.int{z:Int}(h:z.natAbs≤K):cq 1 K (z:Rat):=⟨z,by rw[show((1:Nat):Rat)=1 from rfl,sq],h⟩
theorem cq.zero(N K:Nat):cq N K 0:=⟨0,by rw[Rat.zero_mul];rfl,aJ _⟩
theorem zg{z:Int}(M:Nat)(h:z.natAbs≤K):cq M (M*K) (z:Rat):=by
 have:=(cq.int h).scale M
 rwa [fE]at this
theorem cq.mulI{z:Int}(hq:cq M K q)(h:z.natAbs≤J):cq M (K*J) (q*(z:Rat)):=by
 have:=hq.mul (cq.int h)
 rwa [fE]at this
theorem xB{z:Int}(h:0<z):cq z.toNat 1 (Rat.divInt 1 z):=⟨1,by
 have e:((z.toNat:Nat):Rat)=(z:Rat):=by
  have:((z.toNat:Nat):Int)=z:=ns (pV h)
  calc((z.toNat:Nat):Rat)=(((z.toNat:Nat):Int):Rat):=rfl
   _=(z:Rat):=by rw[this]
 have hne:(z:Rat)≠0:=fun e0=>by
  have:z=0:=Rat.intCast_inj.1 e0;omega
 rw[e,iV,kV,Rat.mul_assoc,Rat.inv_mul_cancel _ hne,sq],by decide⟩
end
def cS(N K:Nat)(S:Sn):Prop:=cq N K S.p∧cq N K S.q∧cq N K S.r∧cq N K S.s
theorem cS.neg{N K:Nat}{S:Sn}(h:cS N K S):cS N K S.neg:=⟨h.1.neg,h.2.1.neg,h.2.2.1.neg,h.2.2.2.neg⟩
structure Mq(P:Sn×Sn):Prop where
 em:P.2.m=P.1.m
 en:P.2.n=P.1.n
 m0:0≤P.1.m
 n0:0≤P.1.n
 mb:P.1.m.natAbs<2^67
 nb:P.1.n.natAbs<2^67
 c:∃M,0<M∧M≤2^136∧cS M (2^170) P.1∧cS M (2^170) P.2
structure YG(M:Nat)(q:Pa):Prop where
 x:q.d.x.natAbs<2^34
 y:q.d.y.natAbs<2^34
 a:cq M (2^101) q.a
 b:cq M (2^101) q.b
 c:cq M (2^101) q.c
 e:cq M (2^101) q.e
theorem tI{M:Nat}(hM:M≤2^136){q r s:Rat}{d e:Int}(hq:cq M (2^167) q)(hr:cq M (2^101) r)(hs:cq M (2^101) s)(hd:d.natAbs<2^34)(he:e.natAbs<2^34):cq M (2^170) (q+r*(d:Rat)+s*(e:Rat)):=
 ((hq.add (hr.mulI (fP hd))).add (hs.mulI (fP he))).mono (by decide)
theorem pN{M:Nat}(hM:M≤2^136){q r:Rat}{d:Int}(hq:cq M (2^167) q)(hr:cq M (2^101) r)(hd:d.natAbs<2^34):cq M (2^170) (q+r*(d:Rat)):=
 (hq.add (hr.mulI (fP hd))).mono (by decide)
theorem JC{M:Nat}(hM:M≤2^136){z:Int}(h: -2147483648≤z∧z≤2147483648):cq M (2^167) (z:Rat):=
 (zg M (K:=2^31) (by show z.natAbs≤2147483648;omega)).mono (aP (aW hM (aj _)) (by decide))
theorem Ht{M:Nat}(h0:0<M)(hM:M≤2^136){m n:Int}{p:Dp}{u v:Pa}(hm0:0≤m)(hn0:0≤n)(hm:m.natAbs<2^67)(hn:n.natAbs<2^67)(hp:ig 2147483648 p)(hu:YG M u)(hv:YG M v):Mq (al m n p [u,v]):=by
 unfold ig at hp;have px:=JC hM (z:=p.x) (by omega);have py:=JC hM (z:=p.y) (by omega);have z0:=cq.zero M (2^167);exact⟨rfl,rfl,hm0,hn0,hm,hn,M,h0,hM,⟨tI hM px hu.a hv.a hu.x hv.x,tI hM z0 hu.b hv.b hu.x hv.x,tI hM z0 hu.c hv.c hu.x hv.x,tI hM z0 hu.e hv.e hu.x hv.x⟩,
  ⟨tI hM py hu.a hv.a hu.y hv.y,tI hM z0 hu.b hv.b hu.y hv.y,tI hM z0 hu.c hv.c hu.y hv.y,tI hM z0 hu.e hv.e hu.y hv.y⟩⟩
theorem YR{M:Nat}(h0:0<M)(hM:M≤2^136){m n:Int}{p:Dp}{u:Pa}(hm0:0≤m)(hn0:0≤n)(hm:m.natAbs<2^67)(hn:n.natAbs<2^67)(hp:ig 2147483648 p)(hu:YG M u):Mq (al m n p [u]):=by
 unfold ig at hp;have px:=JC hM (z:=p.x) (by omega);have py:=JC hM (z:=p.y) (by omega);have z0:=cq.zero M (2^167);exact⟨rfl,rfl,hm0,hn0,hm,hn,M,h0,hM,⟨pN hM px hu.a hu.x,pN hM z0 hu.b hu.x,pN hM z0 hu.c hu.x,pN hM z0 hu.e hu.x⟩,
  ⟨pN hM py hu.a hu.y,pN hM z0 hu.b hu.y,pN hM z0 hu.c hu.y,pN hM z0 hu.e hu.y⟩⟩
def BZ(d:Dp):Nat:=2*(2*(ke d).toNat)
theorem EB{d e:Dp}{q:Rat}(hd:ig 4294967296 d)(h0:0<ke d)(he:ke d=ke e)(hq:cq 2 (2^34) q):YG (BZ e) (ju d q):=by
 have g:cq (BZ e) (2^101) (q*Rat.divInt 1 (ke d)):=by
  have:=(hq.mul (xB h0)).scale 2;rw[he]at this⊢;exact this.mono (by decide)
 exact⟨(lj hd).1,(lj hd).2,cq.zero _ _,g,cq.zero _ _,cq.zero _ _⟩
theorem Ey{d e:Dp}{q:Rat}(hd:ig 4294967296 d)(h0:0<ke d)(he:ke d=ke e)(hq:cq 2 (2^34) q):YG (BZ e) (lg d q):=by
 have g:cq (BZ e) (2^101) (q*Rat.divInt 1 (ke d*2)):=by
  have:=hq.mul (xB (show 0<ke d*2 by omega));rw[show 2*(ke d*2).toNat=BZ e by unfold BZ;omega]at this;exact this.mono (by decide)
 exact⟨(lj hd).1,(lj hd).2,cq.zero _ _,cq.zero _ _,cq.zero _ _,g⟩
theorem Uy{p d:Dp}(hp:ig 2147483648 p)(hd:ig 4294967296 d)(h0:ke d≠0){h b:Rat}(hh:cq 2 (2^34) h)(hb:cq 2 (2^34) b)(r:Bool):∀P∈lY p d h b r,Mq P:=by
 have hm:=Bv hd;have nT:0<ke d:=by have:=vM d;omega
 have t1:=zH hd;obtain⟨s1,s2⟩:=SO d;have h2:(2:Int).natAbs<2^67:=by decide
 have g0:0<BZ d:=by unfold BZ;omega
 have gM:BZ d≤2^136:=by
  have:(ke d).toNat<2^67:=by omega
  unfold BZ;exact aP (aW (aj 2) (aW (aj 2) (fP this))) (by decide)
 have ud:=EB hd nT rfl hb;have uh:=EB hd nT rfl hh;have ul:=EB t1.1 (by rw[s1];exact nT) s1 hh;have ur:=EB t1.2.1 (by rw[s2];exact nT) s2 hh;have sd:=Ey hd nT rfl hh;have sl:=Ey t1.1 (by rw[s1];exact nT) s1 hh;have sr:=Ey t1.2.1 (by rw[s2];exact nT) s2 hh;have e0:0≤ke d:=pV nT;have e2:(0:Int)≤2:=by decide
 intro P hP;unfold lY at hP;cases r with
 |false=>
  simp only[aH,ij,dW,aB,aI,bU]at hP;rcases hP with rfl|rfl
  ·exact Ht g0 gM e0 e2 hm h2 hp ud ul
  ·exact Ht g0 gM e0 e2 hm h2 hp ud ur
 |true=>
  simp only[aH,eX,dU,aI,bU]at hP;rcases hP with rfl|(rfl|rfl|rfl)|rfl
  ·exact Ht g0 gM e0 e2 hm h2 hp ud ul
  ·exact Ht g0 gM e0 e2 hm h2 hp sd sl
  ·exact YR g0 gM e0 e2 hm h2 hp uh
  ·exact Ht g0 gM e0 e2 hm h2 hp sd sr
  ·exact Ht g0 gM e0 e2 hm h2 hp ud ur
theorem Sa{p d e:Dp}(hp:ig 2147483648 p)(hd:ig 4294967296 d)(he:ig 4294967296 e)(h0:p8 (eN d) e≠0){h:Rat}(hh:cq 2 (2^34) h):Mq (fY p d e h):=by
 have hm:=Bv hd;have hn:=Bv he;have ht:=Cr hd he;have tl:=zH hd;have te:=zH he;have hc:=Cr tl.1 he;obtain⟨C,hC⟩:∃C,C=p8 (eN d) e*p8 (eN d) e:=⟨_,rfl⟩;have hC0:0<C:=by
  rw[hC];rcases Int.lt_or_gt_of_ne h0 with h|h
  ·exact Int.mul_pos_of_neg_of_neg h h
  ·exact Int.mul_pos h h
 have hCb:C.toNat≤2^134:=by
  have e1:C.toNat=(p8 (eN d) e).natAbs*(p8 (eN d) e).natAbs:=by rw[←cK,←hC];omega
  rw[e1];exact aP (aW (fP hc) (fP hc)) (by decide)
 have hk:cq (2*C.toNat) (2^34) (h/(C:Rat)):=by
  have e1:h/(C:Rat)=h*Rat.divInt 1 C:=by
   rw[iV,kV,kV,show((1:Int):Rat)=1 from rfl,Rat.one_mul]
  rw[e1];exact hh.mul (xB hC0)
 rw[hC]at hk;have i1:∀{z:Int},z.natAbs<2^67→cq (2*C.toNat) (2^101) (h/((p8 (eN d) e*p8 (eN d) e:Int):Rat)*(z:Rat)):=fun hz=>by
  rw[←hC]at hk⊢;exact(hk.mulI (fP hz)).mono (by decide)
 have AE:(-(p8 d e)).natAbs<2^67:=by rw[Int.natAbs_neg];exact ht
 exact Ht (by omega) (aP (aW (aj 2) hCb) (by decide)) (vM d) (vM e) hm hn hp ⟨(lj tl.1).1,(lj tl.1).2,cq.zero _ _,i1 hn,i1 AE,cq.zero _ _⟩ ⟨(lj te.1).1,(lj te.1).2,cq.zero _ _,i1 AE,i1 hm,cq.zero _ _⟩
theorem AT{h:Rat}(hh:cq 2 (2^34) h):∀(c w:List Dp),(∀p∈c,ig 2147483648 p)→(∀d∈w,ig 4294967296 d)→(∀(i:Nat) (d e:Dp),w[i]? =some d→w[i+1]? =some e→p8 (eN d) e≠0)→∀P∈gn h c w,Mq P
 |p::c,d::e::w,hc,hw,hx=>fun P hP=>by
  simp only[gn,aH]at hP;rcases hP with rfl|hP
  ·exact Sa (hc p (by simp)) (hw d (by simp)) (hw e (by simp)) (hx 0 d e rfl rfl) hh
  ·exact AT hh c (e::w) (fun q hq=>hc q (cN _ hq)) (fun q hq=>hw q (cN _ hq)) (fun i a b ha hb=>hx (i+1) a b ha hb) P hP
 | [],_,_,_,_=>fun P hP=>by simp[gn]at hP
 |_::_,[],_,_,_=>fun P hP=>by simp[gn]at hP
 |_::_,[_],_,_,_=>fun P hP=>by simp[gn]at hP
theorem VM{w:Int}(h:1≤w∧w≤2147483647):cq 2 (2^34) (Rat.divInt w 2):=by
 have:=(xB (show(0:Int)<2 by decide)).mulI (z:=w) (J:=2^34) (by show w.natAbs≤17179869184;omega);have e:Rat.divInt 1 2*(w:Rat)=Rat.divInt w 2:=by
  rw[iV,iV,kV,kV,show((1:Int):Rat)=1 from rfl,Rat.one_mul,Rat.mul_comm]
 rw[e,kU]at this;exact this
theorem Pz{c w:List Dp}(hf:Kv c w)(hw:0<w.length)(hb:¬ ∃(i:Nat) (d e:Dp),w[i]? =some d∧w[i+1]? =some e∧e=i_ d)(hc:∀p∈c,ig 2147483648 p){width kind bg en:Int}(h1:1≤width)(h2:width≤2147483647)(h3: -2147483647≤bg∧bg≤2147483647)(h4: -2147483647≤en∧en≤2147483647):∀P∈rI c w width kind bg en,Mq P:=by
 have hl:=hf.len;have nc:∀(i:Nat) (d:Dp),w[i]? =some d→∃a b,a∈c∧b∈c∧a≠b∧d=gh a b:=fun i d hd=>by
  have hi:=(List.getElem?_eq_some_iff.1 hd).1;obtain⟨n1,e1⟩:=hf.way i _ _ d (ak (by omega)) (ak (by omega)) hd;exact⟨_,_,dS _,dS _,n1,e1⟩
 have NX:∀(i:Nat) (d:Dp),w[i]? =some d→lN d=1:=fun i d hd=>by
  obtain⟨a,b,_,_,h,e⟩:=nc i d hd;rw[e];exact GQ h
 have hin:∀d∈w,ig 4294967296 d:=fun d hd=>by
  obtain⟨i,hi⟩:=mi hd;obtain⟨a,b,ha,hb,h,e⟩:=nc i d hi;rw[e];exact Qx (hc a ha) (hc b hb) h
 have H5:∀(i:Nat) (d e:Dp),w[i]? =some d→w[i+1]? =some e→p8 (eN d) e≠0:=fun i d e hd he=>
  Fm (NX i d hd) (NX (i+1) e he) (hf.turn i d e hd he) (fun h=>hb ⟨i,d,e,hd,he,h⟩)
 have hh:=VM ⟨h1,h2⟩;have ei:∀z:Int,-2147483647≤z∧z≤2147483647→cq 2 (2^34) (z:Rat):=fun z hz=>(zg 2 (K:=2^31) (by show z.natAbs≤2147483648;omega)).mono (by decide);have e1:cq 2 (2^34) (oK kind bg en (Rat.divInt width 2)).1∧cq 2 (2^34) (oK kind bg en (Rat.divInt width 2)).2:=by
  unfold oK;split
  ·exact⟨hh,hh⟩
  ·split
   ·exact⟨ei bg h3,ei en h4⟩
   ·exact⟨cq.zero _ _,cq.zero _ _⟩
 have g0:∀k,k<c.length→ig 2147483648 (c.getD k ⟨0,0⟩):=fun k hk=>by
  rw[dV,ak hk];exact hc _ (dS _)
 have g1:∀k,k<w.length→ig 4294967296 (w.getD k ⟨0,0⟩)∧ke (w.getD k ⟨0,0⟩)≠0:=fun k hk=>by
  rw[dV,ak hk];exact⟨hin _ (dS _),IV (DZ (NX k _ (ak hk)))⟩
 have s0:ke (i_ (w.getD 0 ⟨0,0⟩))≠0:=by
  have:=(g1 0 hw).2;unfold ke i_ at*;simp only[sI];exact this
 have t0:=Uy (g0 0 (by omega)) (zH (g1 0 hw).1).2.2 s0 hh e1.1 (kind==1);have t1:=Uy (g0 (c.length-1) (by omega)) (g1 (w.length-1) (by omega)).1 (g1 (w.length-1) (by omega)).2 hh e1.2 (kind==1);have ht:∀p∈c.tail,ig 2147483648 p:=fun p hp=>hc p (List.mem_of_mem_tail hp);intro P hP;unfold rI at hP;simp only[dU,List.mem_reverse]at hP;rcases hP with(((hP|hP)|hP)|hP)|hP
 ·exact t0 P (so hP)
 ·exact AT hh _ _ ht hin H5 P hP
 ·exact t1 P hP
 ·exact AT hh.neg _ _ ht hin H5 P hP
 ·exact t0 P (eZ hP)
theorem Fk:∀(fW:List Dp) (s:List Dp×List Dp),(∀p∈fW,ig 2147483648 p)→(∀p∈s.1,ig 2147483648 p)→∀p∈(fW.foldl push s).1,ig 2147483648 p
 | [],_,_,h=>h
 |q::r,s,hq,h=>Fk r (push s q) (fun p hp=>hq p (cN _ hp)) (fun p hp=>by
  obtain⟨R,w⟩:=s
  match R,h with
  | [],h=>
   simp[push]at hp;subst hp;exact hq _ oA
  |l::R',h=>
   simp only[push]at hp;split at hp
   ·exact h p hp
   ·split at hp
    ·rcases List.mem_cons.1 hp with rfl|hp
     ·exact hq _ oA
     ·exact h p (cN _ hp)
    ·rcases List.mem_cons.1 hp with rfl|hp
     ·exact hq _ oA
     ·exact h p hp)
theorem YS{ps:List Dp}{width kind bg en:Int}(h0:qM ps width kind bg en=0):(∀P∈rI (iv ps).1.reverse (iv ps).2.reverse width kind bg en,Mq P)∧(rI (iv ps).1.reverse (iv ps).2.reverse width kind bg en).length≤40000:=by
 obtain⟨h8,hb,ho,hc2,Zs⟩:=Lv h0;have hok:jU (iv ps).1 (iv ps).2:=zf ps ([],[]) rfl;have hne:(iv ps).1≠ []:=fun e=>by rw[e]at hc2;simp at hc2
 have hf:=Nw hok hne;have hl:=hf.len;have hw:0<(iv ps).2.reverse.length:=by
  rw[ft]at hl;omega
 have hin:∀p∈(iv ps).1.reverse,ig 2147483648 p:=fun p hp=>Fk ps ([],[]) (T7 ho) (by simp) p (List.mem_reverse.1 hp);have hnb:¬ ∃(i:Nat) (d e:Dp),(iv ps).2.reverse[i]? =some d∧(iv ps).2.reverse[i+1]? =some e∧e=i_ d:=fun h=>by
  rw[(Ja _).2 h]at Zs;simp at Zs
 obtain⟨_,w1,w2,w3,w4,w5,w6⟩:=EX.1 hb;refine⟨Pz hf hw hnb hin w1 w2 ⟨w3,w4⟩ ⟨w5,w6⟩,?_⟩;have hcl:(iv ps).1.reverse.tail.length=(iv ps).2.reverse.length:=by rw[List.length_tail,hl];omega
 have hwl:(iv ps).2.reverse.length≤8191:=by
  have:=Fl ps ([],[]);simp only[bh,cu]at this;rw[ft];exact aP this h8
 have a1:=xh ((iv ps).1.reverse.getD 0 ⟨0,0⟩) (i_ ((iv ps).2.reverse.getD 0 ⟨0,0⟩)) (Rat.divInt width 2) (oK kind bg en (Rat.divInt width 2)).1 (kind==1);have a2:=xh ((iv ps).1.reverse.getD ((iv ps).1.reverse.length-1) ⟨0,0⟩) ((iv ps).2.reverse.getD ((iv ps).2.reverse.length-1) ⟨0,0⟩) (Rat.divInt width 2) (oK kind bg en (Rat.divInt width 2)).2 (kind==1);have m1:=oR (Rat.divInt width 2) _ _ hcl;have m2:=oR (-(Rat.divInt width 2)) _ _ hcl;unfold rI;simp only[aA,ft,jn,dE]at a1 a2 m1 m2 hwl⊢;omega
theorem Xc{x:Im}:(∀P∈iS x,Mq P)∧(iS x).length≤40000:=by
 unfold iS;split
 ·rename_i h;exact YS h.1
 ·exact⟨fun P hP=>by simp at hP,aJ _⟩
def M(s:Rat)(e:Nat):Rat:=s*Q0 (4*(78-(e:Int)))
def ebytes(neg:Bool)(e:Nat)(n:Int):List Int:=[(if neg then 128 else 0)+e,n/281474976710656 % 256,n/1099511627776 % 256,n/4294967296 % 256,n/16777216 % 256,n/65536 % 256,n/256 % 256,n % 256]
section
variable{Γ:List aC}{L:Nat}{fin:VS→List aC→Prop}
end
section
variable{Γ:List aC}{L:Nat}{fin:VS→List aC→Prop}
end
theorem Zb{zs:List Int}(h:zs.length=8):∃z0 z1 z2 z3 z4 z5 z6 z7,zs=[z0,z1,z2,z3,z4,z5,z6,z7]:=by
 match zs,h with
 | [_,_,_,_,_,_,_,_],_=>exact⟨_,_,_,_,_,_,_,_,rfl⟩
theorem MM{zs:List Int}(h:zs.length=8)(hb:kJ zs):0≤be (zs.drop 1)∧be (zs.drop 1)<72057594037927936:=by
 obtain⟨z0,z1,z2,z3,z4,z5,z6,z7,rfl⟩:=Zb h;have b1:=hb z1 (by simp);have b2:=hb z2 (by simp);have b3:=hb z3 (by simp);have b4:=hb z4 (by simp);have b5:=hb z5 (by simp);have b6:=hb z6 (by simp);have b7:=hb z7 (by simp);simp only[be,List.drop_succ_cons,gT,nY,List.foldl_nil];omega
section
variable{Γ:List aC}{L:Nat}{fin:VS→List aC→Prop}
end
end Go.Proofs.YtgaaopjagcaojaaGreat
