import Derived.Test.YtgaaopjagcaojaaGreatMa
import Derived.Test.YtgaaopjagcaojaaGreatOw
import Derived.Test.YtgaaopjagcaojaaGreatOv
import Derived.Test.YtgaaopjagcaojaaGreatVk
import Derived.Test.YtgaaopjagcaojaaGreatLe
set_option linter.unusedSimpArgs false
set_option linter.unusedVariables false
namespace Go.Proofs.YtgaaopjagcaojaaGreat
open Go.RowKit Go.IntWalk
def DZ(c:Ce):ByteArray:=strOfNums (Jo c)
def sE(s:ByteArray):List Ce→Nat→Option Nat
 | [],_=>none
 |c::r,i=>if s=DZ c then some i else sE s r (i+1)
def nC(t:List Ce)(s:ByteArray):Option Nat:=sE s t 0
theorem F6{s:ByteArray}:∀{t:List Ce} {i k:Nat},sE s t i=some k→i≤k∧k<i+t.length
 | [],i,k,h=>by simp[sE]at h
 |c::r,i,k,h=>by
  unfold sE at h;split at h
  ·injection h with h;subst h;simp
  ·have:=F6 h;simp only[aF];omega
theorem NY{s:ByteArray}{t:List Ce}{k:Nat}(h:nC t s=some k):k<t.length:=by
 have:=F6 h;omega
def yb:List Ce→Nat→List (ByteArray×Int)→List (ByteArray×Int)
 | [],_,nm=>nm
 |c::r,i,nm=>yb r (i+1) (if(gJ (DZ c) nm).isSome then nm else kU (DZ c) (i:Int) nm)
def cw(t:List Ce):List (ByteArray×Int):=yb t 0 []
theorem Cy(s:ByteArray):∀(t:List Ce) (i:Nat) (nm:List (ByteArray×Int)),gJ s (yb t i nm)=match gJ s nm with
  |some v=>some v
  |none=>(sE s t i).map fun k:Nat=>(k:Int)
 | [],i,nm=>by cases h:gJ s nm<;>simp[yb,sE,h]
 |c::r,i,nm=>by
  unfold yb sE;rw[Cy s r (i+1)];by_cases hs:s=DZ c
  ·subst hs;cases h:gJ (DZ c) nm with
   |some v=>simp[h]
   |none=>simp[iG]
  ·cases h:gJ (DZ c) nm with
   |some v=>simp[hs]
   |none=>simp[iG,hs]
theorem vG(s:ByteArray)(t:List Ce):gJ s (cw t)=(nC t s).map fun k:Nat=>(k:Int):=by
 unfold cw;rw[Cy];rfl
def mu(t:List Ce)(x:Im):Option Nat:=(iB x).bind fun s=>nC t (strOfNums s)
def ll(t:List Ce)(c:Nat):List Im:=(t.getD c ⟨[],[]⟩).i
def fB(t:List Ce)(c:Nat):List Nat:=(ll t c).filterMap (mu t)
def qZ(t:List Ce)(c:Ce):Bool:=c.i.any fun x=>(iB x).isSome&&(mu t x).isNone
def lost(t:List Ce):Bool:=t.any (qZ t)
theorem tK(t:List Ce)(x:Im):mw (cw t) x=(iB x).map fun s=>match nC t (strOfNums s)with
  |some k=>(k:Int)
  |none=> -1:=by
 unfold mw;cases iB x with
 |none=>rfl
 |some s=>
  simp only[dq,vG];cases nC t (strOfNums s)<;>rfl
theorem Ip{t:List Ce}{c:Ce}(h:qZ t c=false):i_ (cw t) c=(c.i.filterMap (mu t)).map fun k:Nat=>(k:Int):=by
 unfold i_;unfold qZ at h;rw[gC]at h;revert h;generalize c.i=l;intro h
 induction l with
 |nil=>rfl
 |cons x l ih=>
  have hx:=h x (by simp);have hl:=ih (fun y hy=>h y (by simp[hy]));cases hn:iB x with
  |none=>
   rw[List.filterMap_cons_none (by rw[tK,hn];rfl),List.filterMap_cons_none (by unfold mu;rw[hn];rfl)];exact hl
  |some s=>
   cases hi:nC t (strOfNums s)with
   |none=>unfold mu at hx;simp[hn,hi]at hx
   |some k=>
    rw[List.filterMap_cons_some (b:=(k:Int)) (by rw[tK,hn];simp[hi]),List.filterMap_cons_some (b:=k) (by unfold mu;rw[hn];simp[hi]),b_,hl]
theorem uI{t:List Ce}{c:Ce}:(∃k∈i_ (cw t) c,k<0)↔qZ t c=true:=by
 unfold i_ qZ;simp only[List.mem_filterMap,zh,tK];constructor
 ·rintro⟨k,⟨x,hx,hk⟩,h0⟩;refine⟨x,hx,?_⟩;unfold mu;cases hn:iB x with
  |none=>rw[hn]at hk;simp at hk
  |some s=>
   rw[hn]at hk;simp only[dq,aq,Option.bind_some,Option.isSome_some,dP]at hk⊢;cases hi:nC t (strOfNums s)with
   |none=>rfl
   |some j=>
    rw[hi]at hk;simp only at hk;omega
 ·rintro⟨x,hx,h⟩;cases hn:iB x with
  |none=>rw[hn]at h;simp at h
  |some s=>
   unfold mu at h;rw[hn]at h;simp only[Option.bind_some,Option.isSome_some,dP]at h;have hi:nC t (strOfNums s)=none:=by simpa using h
   exact⟨-1,⟨x,hx,by rw[hn];simp[hi]⟩,by decide⟩
def tz(t:List Ce):List Ce→Nat→Bool
 | [],_=>false
 |c::r,i=> !(nC t (DZ c)==some i)||tz t r (i+1)
def abB(t:List Ce):Bool:=tz t t 0
theorem AT{s:ByteArray}:∀{t:List Ce} {i:Nat},(∃c∈t,DZ c=s)→∃k,sE s t i=some k
 | [],i,h=>by obtain⟨c,hc,_⟩:=h;simp at hc
 |c::r,i,h=>by
  unfold sE;split
  ·exact⟨_,rfl⟩
  ·rename_i hne;obtain⟨d,hd,he⟩:=h;simp only[aD]at hd;rcases hd with rfl|hd
   ·exact absurd he.symm hne
   ·exact AT ⟨d,hd,he⟩
def js(g:Nat→Option Nat):List Nat→Nat→Option Nat
 | [],m=>some m
 |k::r,m=>match g k with
  |some d=>js g r (max m d)
  |none=>none
def dep(t:List Ce):Nat→Nat→Option Nat
 |0,_=>none
 |n+1,c=>(js (dep t n) (fB t c) 0).map (· +1)
theorem lU{g:Nat→Option Nat}:∀{l:List Nat} {m r:Nat},js g l m=some r→m≤r∧∀k∈l,∃d,g k=some d∧d≤r
 | [],m,r,h=>by
  simp only[js,aq]at h;subst h;exact⟨ai _,fun k hk=>by simp at hk⟩
 |k::l,m,r,h=>by
  unfold js at h;cases hg:g k with
  |none=>rw[hg]at h;simp at h
  |some d=>
   rw[hg]at h;obtain⟨h1,h2⟩:=lU h;refine⟨by omega,fun j hj=>?_⟩;simp only[aD]at hj;rcases hj with rfl|hj
   ·exact⟨d,hg,by omega⟩
   ·exact h2 j hj
theorem oV{g g':Nat→Option Nat}:∀{l:List Nat} {m:Nat},(∀k∈l,g k=g' k)→js g l m=js g' l m
 | [],m,_=>rfl
 |k::l,m,h=>by
  unfold js;rw[h k (by simp)];cases g' k with
  |none=>rfl
  |some d=>exact oV fun j hj=>h j (by simp[hj])
theorem FJ{t:List Ce}:∀{n c d:Nat},dep t n c=some d→dep t (n+1) c=some d
 |0,c,d,h=>by simp[dep]at h
 |n+1,c,d,h=>by
  unfold dep at h⊢;rw[←h];have hs:∃r,js (dep t n) (fB t c) 0=some r:=by
   cases hq:js (dep t n) (fB t c) 0 with
   |none=>rw[hq]at h;simp at h
   |some r=>exact⟨r,rfl⟩
  obtain⟨r,hr⟩:=hs;congr 1;refine oV fun k hk=>?_;obtain⟨d',h1,h2⟩:=(lU hr).2 k hk;rw[h1];exact FJ h1
theorem nw{t:List Ce}{n c d:Nat}(h:dep t n c=some d):∀{m:Nat},n≤m→dep t m c=some d
 |m,hm=>by
  induction m with
  |zero=>
   obtain rfl:n=0:=by omega
   exact h
  |succ m ih=>
   by_cases hnm:n≤m
   ·exact FJ (ih hnm)
   ·obtain rfl:n=m+1:=by omega
    exact h
theorem Na{t:List Ce}{n m c d e:Nat}(h:dep t n c=some d)(g:dep t m c=some e):d=e:=by
 have h1:=nw h (m:=max n m) (by omega);have h2:=nw g (m:=max n m) (by omega);rw[h1]at h2;exact Option.some.inj h2
theorem D3{t:List Ce}{n c d:Nat}(h:dep t n c=some d):0<d:=by
 cases n with
 |zero=>simp[dep]at h
 |succ n=>
  unfold dep at h;cases hq:js (dep t n) (fB t c) 0 with
  |none=>rw[hq]at h;simp at h
  |some r=>
   rw[hq]at h;simp only[dq,aq]at h;omega
theorem M_{t:List Ce}:∀{n c d:Nat},dep t n c=some d→d≤n
 |0,c,d,h=>by simp[dep]at h
 |n+1,c,d,h=>by
  unfold dep at h;cases hq:js (dep t n) (fB t c) 0 with
  |none=>rw[hq]at h;simp at h
  |some r=>
   rw[hq]at h;simp only[dq,aq]at h;have key:∀(l:List Nat) (m:Nat),js (dep t n) l m=some r→r≤max m n:=by
    intro l
    induction l with
    |nil=>intro m hm;simp only[js,aq]at hm;omega
    |cons k l ih=>
     intro m hm;unfold js at hm;cases hg:dep t n k with
     |none=>rw[hg]at hm;simp at hm
     |some e=>
      rw[hg]at hm;have:=ih _ hm;have:=M_ hg;omega
   have:=key _ _ hq;omega
def sR(t:List Ce)(c d:Nat):Prop:=∃n,dep t n c=some d
theorem sR.kid{t:List Ce}{c d k:Nat}(h:sR t c d)(hk:k∈fB t c):∃e,sR t k e∧e<d:=by
 obtain⟨n,h⟩:=h;cases n with
 |zero=>simp[dep]at h
 |succ n=>
  unfold dep at h;cases hq:js (dep t n) (fB t c) 0 with
  |none=>rw[hq]at h;simp at h
  |some r=>
   rw[hq]at h;simp only[dq,aq]at h;obtain⟨e,h1,h2⟩:=(lU hq).2 k hk;exact⟨e,⟨n,h1⟩,by omega⟩
theorem sR.uniq{t:List Ce}{c d e:Nat}(h:sR t c d)(g:sR t c e):d=e:=by
 obtain⟨n,h⟩:=h;obtain⟨m,g⟩:=g;exact Na h g
theorem sR.of{t:List Ce}{c:Nat}{g:Nat→Option Nat}{r:Nat}(h:js g (fB t c) 0=some r)(hg:∀k d,g k=some d→sR t k d):sR t c (r+1):=by
 have key:∀(l:List Nat) (m:Nat),js g l m=some r→∃n,js (dep t n) l m=some r:=by
  intro l
  induction l with
  |nil=>intro m hm;exact⟨0,hm⟩
  |cons k l ih=>
   intro m hm;unfold js at hm;cases hk:g k with
   |none=>rw[hk]at hm;simp at hm
   |some d=>
    rw[hk]at hm;obtain⟨n1,h1⟩:=ih _ hm;obtain⟨n2,h2⟩:=hg k d hk;refine⟨max n1 n2,?_⟩;unfold js;rw[nw h2 (by omega)];simp only;rw[←h1];refine oV fun j hj=>?_;obtain⟨e,h3,_⟩:=(lU h1).2 j hj;rw[h3];exact nw h3 (by omega)
 obtain⟨n,hn⟩:=key _ _ h;exact⟨n+1,by unfold dep;rw[hn];rfl⟩
theorem FI{g:Nat→Option Nat}:∀{l:List Nat} {a m:Nat},js g l a=some m→m=a∨∃k∈l,g k=some m
 | [],a,m,h=>by
  simp only[js,aq]at h;exact .inl h.symm
 |k::l,a,m,h=>by
  unfold js at h;cases hg:g k with
  |none=>rw[hg]at h;simp at h
  |some d=>
   rw[hg]at h;rcases FI h with h|⟨j,hj,hm⟩
   ·by_cases hd:d≤a
    ·exact .inl (by omega)
    ·exact .inr ⟨k,by simp,by rw[hg,h];congr 1;omega⟩
   ·exact .inr ⟨j,by simp[hj],hm⟩
theorem sR.some_kid{t:List Ce}{c d:Nat}(h:sR t c d):(d=1)∨(fB t c≠ []∧∃k∈fB t c,∃e,sR t k e∧d=e+1):=by
 obtain⟨n,h⟩:=h;cases n with
 |zero=>simp[dep]at h
 |succ n=>
  unfold dep at h;cases hq:js (dep t n) (fB t c) 0 with
  |none=>rw[hq]at h;simp at h
  |some r=>
   rw[hq]at h;simp only[dq,aq]at h;rcases FI hq with h0|⟨k,hk,hm⟩
   ·exact .inl (by omega)
   ·exact .inr ⟨fun e=>by rw[e]at hk;simp at hk,k,hk,r,⟨n,hm⟩,h.symm⟩
theorem se{f g:Nat→Nat}{c a:Nat}:∀{l:List Nat},c∈l→(∀j∈l,f j≤g j)→f c+a≤g c→(l.map f).sum+a≤(l.map g).sum
 | [],h,_,_=>by simp at h
 |j::l,h,h1,h2=>by
  have hle:∀l':List Nat,(∀j∈l',f j≤g j)→(l'.map f).sum≤(l'.map g).sum:=by
   intro l'
   induction l' with
   |nil=>intro _;exact ai _
   |cons x l' ih=>
    intro hx;have:=hx x (by simp);have:=ih fun y hy=>hx y (by simp[hy]);simp only[b_,fA];omega
  simp only[b_,fA];simp only[aD]at h;rcases h with rfl|h
  ·have:=hle l fun y hy=>h1 y (by simp[hy]);omega
  ·have:=se h (fun y hy=>h1 y (by simp[hy])) h2;have:=h1 j (by simp);omega
open Classical in
theorem Rg{t:List Ce}{w:Nat→Nat}{A B:Nat}(hA:∀j,j<t.length→fB t j≠ []→A≤w j)(hB:∀j,j<t.length→B≤w j)(hk:∀c k,k∈fB t c→k<t.length):
  ∀(d c:Nat),c<t.length→sR t c d→A*(d-1)+B≤((List.range t.length).map fun j=>if ∃e,e≤d∧sR t j e then w j else 0).sum:=by
 intro d
 induction d with
 |zero=>
  intro c _ ⟨n,hd⟩;have:=D3 hd;omega
 |succ d ih=>
  intro c hc hd;rcases hd.some_kid with h1|⟨hne,k,hkm,e,hke,hde⟩
  ·have:=se (f:=fun _=>0) (g:=fun j=>if ∃e,e≤d+1∧sR t j e then w j else 0) (c:=c) (a:=B) (l:=List.range t.length) (by simpa using hc) (fun j _=>aM _) (by
    simp only[cz];rw[if_pos ⟨d+1,ai _,hd⟩];exact hB c hc)
   obtain rfl:d=0:=by omega
   simp at this⊢;omega
  ·obtain rfl:e=d:=by omega
   have h2:=ih k (hk c k hkm) hke;have h3:=se (f:=fun j=>if ∃e',e'≤e∧sR t j e' then w j else 0) (g:=fun j=>if ∃e',e'≤e+1∧sR t j e' then w j else 0) (c:=c) (a:=A) (l:=List.range t.length) (by simpa using hc) (fun j _=>by
    by_cases hj:∃e',e'≤e∧sR t j e'
    ·obtain⟨e',h4,h5⟩:=hj;rw[if_pos ⟨e',h4,h5⟩,if_pos ⟨e',by omega,h5⟩];exact ai _
    ·rw[if_neg hj];exact aM _) (by
    have hno:¬ ∃e',e'≤e∧sR t c e':=fun⟨e',h4,h5⟩=>by
     have:=hd.uniq h5;omega
    rw[if_neg hno,if_pos ⟨e+1,ai _,hd⟩,cz];exact hA c hc hne)
   obtain⟨n,hn⟩:=hke;have hp:=D3 hn;have e1:A*(e+1-1)=A*(e-1)+A:=by
    obtain⟨q,rfl⟩:∃q,e=q+1:=⟨e-1,by omega⟩;simp[fD]
   omega
theorem wX{t:List Ce}{c k:Nat}(h:k∈fB t c):k<t.length:=by
 unfold fB at h;obtain⟨x,_,hx⟩:=List.mem_filterMap.1 h;unfold mu at hx;cases hn:iB x with
 |none=>rw[hn]at hx;simp at hx
 |some s=>
  rw[hn]at hx;exact NY hx
open Classical in
theorem KW{t:List Ce}{c d:Nat}(hc:c<t.length)(h:sR t c d):d≤t.length:=by
 have h1:=Rg (t:=t) (w:=fun _=>1) (A:=1) (B:=1) (fun _ _ _=>ai _) (fun _ _=>ai _) (fun c k hk=>wX hk) d c hc h;have h2:∀l:List Nat,(l.map fun j=>if ∃e,e≤d∧sR t j e then 1 else 0).sum≤l.length:=by
  intro l
  induction l with
  |nil=>exact ai _
  |cons x l ih=>
   simp only[b_,fA,aF];split<;>omega
 have:=h2 (List.range t.length);rw[dX]at this;omega
inductive MB(t:List Ce):Nat→Nat→Prop
 |one {a b:Nat}:b∈fB t a→MB t a b
 |more {a b c:Nat}:b∈fB t a→MB t b c→MB t a c
theorem MB.trans{t:List Ce}{a b c:Nat}(h:MB t a b)(g:MB t b c):MB t a c:=by
 induction h with
 |one h=>exact .more h g
 |more h _ ih=>exact .more h (ih g)
theorem MB.dep{t:List Ce}{a b d:Nat}(h:MB t a b)(hd:sR t a d):∃e,sR t b e∧e<d:=by
 induction h generalizing d with
 |one h=>exact hd.kid h
 |more h _ ih=>
  obtain⟨e,h1,h2⟩:=hd.kid h;obtain⟨e',h3,h4⟩:=ih h1;exact⟨e',h3,by omega⟩
theorem RM{t:List Ce}{a d:Nat}(h:MB t a a):¬sR t a d:=fun hd=>by
 obtain⟨e,h1,h2⟩:=h.dep hd;have:=hd.uniq h1;omega
def cyc(t:List Ce):Prop:=∃c,c<t.length∧∀d,¬sR t c d
def M7(t:List Ce):Prop:=∃c,c<t.length∧dep t 64 c=none
def jd(t:List Ce)(g:Nat→Int)(x:Im):Int:=
 if cC x=8∨cC x=45 then 1 else if cC x=9 then(if ji x=[]then 0 else 1)
 else if cC x=10∨cC x=11 then(match mu t x with
  |some k=>g k*(aT x).1*(aT x).2
  |none=>0)else 0
def jF(t:List Ce):Nat→Nat→Int
 |0,_=>0
 |n+1,c=>((ll t c).map (jd t (jF t n))).sum
structure Sh where
 a:Int
 k:Int
 p:List Dp
abbrev LR:=Except Int (List Sh)
def gl{α:Type}(f:α→LR):List α→LR
 | []=>.ok []
 |a::l=>match f a with
  | .error e=>.error e
  | .ok s=>match gl f l with
   | .error e=>.error e
   | .ok s'=>.ok (s++s')
def iZ:List (Sn×Sn)→Except Int (List Dp)
 | []=>.ok []
 |p::r=>if yW p.1.nr∧yW p.2.nr then(match iZ r with
   | .ok l=>.ok (⟨p.1.nr,p.2.nr⟩::l)
   | .error e=>.error e)else .error 26
def fy(x:Im)(l:List (Sn×Sn)):LR:=match iZ l with
 | .ok p=>.ok [⟨cD x 13 0,if cC x=45 then cD x 46 0 else cD x 14 0,p⟩]
 | .error e=>.error e
def farP(V:On)(p:Sn×Sn):Option (Sn×Sn):=
 if p.1.m≤2∧p.1.n≤2 then
  some (r2 (V.u0 p.1.n0 p.1.n1 p.2.n0 p.2.n1) (V.u1 p.1.n0 p.1.n1 p.2.n0 p.2.n1),r2 (V.v0 p.1.n0 p.1.n1 p.2.n0 p.2.n1) (V.v1 p.1.n0 p.1.n1 p.2.n0 p.2.n1))
 else if V.o % 2≠0∨V.b≠0∨V.d≠0 then none
 else some (V.farX p.1 p.2,V.farY p.1 p.2)
def uZ(V:On):List (Sn×Sn)→List (Sn×Sn)×Bool
 | []=>([],true)
 |p::r=>match farP V p with
  |some q=>(q::(uZ V r).1,(uZ V r).2)
  |none=>([],false)
def CQ(a b:Int):Rat:=Rat.divInt a b
def oC(of:Dp→Int)(p:List Dp)(eH rows i k:Int):Rat:=
 if p.length=3 then((of (p.getD 0 ⟨0,0⟩):Rat)+CQ ((of (p.getD 1 ⟨0,0⟩)-of (p.getD 0 ⟨0,0⟩))*i) eH)+CQ ((of (p.getD 2 ⟨0,0⟩)-of (p.getD 0 ⟨0,0⟩))*k) rows
 else(of (p.getD 0 ⟨0,0⟩):Rat)
def lz(x:Im)(i k:Int):On:=⟨oY x,gH x,jK x,oC Dp.x (a_ x) (aT x).1 (aT x).2 i k,0,oC Dp.y (a_ x) (aT x).1 (aT x).2 i k,0⟩
def mY(t:List Ce)(n:Nat)(g:Nat→On→LR)(x:Im)(V:On):LR:=
 match mu t x with
  |none=>.ok []
  |some c=>if jF t n c=0 then .ok []
   else gl (fun k:Nat=>gl (fun i:Nat=>g c ((lz x i k).then V)) (List.range (aT x).1.toNat)) (List.range (aT x).2.toNat)
def s_(V:On)(p:Dp):Sn×Sn:=(V.X p.x p.y,V.Y p.x p.y)
def iW(t:List Ce)(n:Nat)(g:Nat→On→LR)(V:On)(x:Im):LR:=
 if cC x=8∨cC x=45 then fy x ((a_ x).dropLast.map (s_ V))
 else if cC x=9 then
  (if(uZ V (ji x)).2=true then(if ji x=[]then .ok []else fy x (uZ V (ji x)).1)
   else match iZ (uZ V (ji x)).1 with
   | .ok _=>.error 25
   | .error e=>.error e)
 else if cC x=10∨cC x=11 then mY t n g x V
 else .ok []
def fH(t:List Ce):Nat→Nat→On→LR
 |0,_,_=>.ok []
 |n+1,c,V=>gl (iW t n (fH t n) V) (ll t c)
def mR(t:List Ce)(c:Nat):Bool:=(List.range t.length).any fun a=>(fB t a).contains c
def yN(t:List Ce):Bool:=abB t||t.any fun c=>c.i.any fun x=> !gU x
def ox(t:List Ce)(c:Nat):Int:=if mR t c=true then 0 else jF t 64 c
def total(t:List Ce):Int:=((List.range t.length).map (ox t)).sum
def Ch(t:List Ce)(c:Nat):LR:=if mR t c=true then .ok []else fH t 64 c yg
def Iu(t:List Ce):LR:=gl (Ch t) (List.range t.length)
open Classical in
noncomputable def wJ (t:List Ce) (n:Int):LR:=
 if lost t=true then .error 23 else if cyc t then .error 24 else if yN t=true∨M7 t then .error 25 else if total t>n then .error 27 else Iu t
open Classical in
noncomputable def vh (t:Li) (n:Int):LR:=
 if n<0∨n>100000 then .error 1 else if valid t=false then .error 20 else wJ t.c n
theorem pB{p q:nR (List Re)}{l x m:List Re}(h:fX p q l=some (x,m)):∃a b m1,p l=some (a,m1)∧q m1=some (b,m)∧x=a++b:=by
 unfold fX at h;split at h
 ·rename_i a m1 h1;split at h
  ·rename_i b m2 h2;simp only[aq,aI]at h;obtain⟨rfl,rfl⟩:=h;exact⟨a,b,m1,h1,h2,rfl⟩
  ·simp at h
 ·simp at h
theorem rj{k:Int}{ks:List Int}{l x m:List Re}(hk:0≤k∧k<256)(h:dk (k::ks) l=some (x,m)):∃r x',x=r::x'∧r.k=k∧gh r=true:=by
 unfold dk at h;rw[if_pos (.inl hk.2)]at h;split at h
 ·rename_i r m1 h1;split at h
  ·rename_i rs m2 h2;simp only[aq,aI]at h;obtain⟨rfl,rfl⟩:=h;obtain⟨_,h3,h4⟩:=fJ h1;exact⟨r,rs,rfl,by omega,h4⟩
  ·simp at h
 ·simp at h
theorem hZ.fields{x:Im}(h:hZ x):∃r f m,x.f=r::f∧o6 r.k=true∧fX (dk [r.k,294,303]) (gW r.k) (eQ x)=some (x.f,m):=by
 obtain⟨h1,h2⟩:=h;cases hl:eQ x with
 |nil=>rw[hl]at h1;simp[ec]at h1
 |cons r l=>
  rw[hl]at h1 h2;simp only[ec]at h1;unfold fW at h2;split at h2
  ·rename_i f m1 hf;obtain⟨⟨f',rfl⟩,g1⟩:=xw h1 hf;split at h2
   ·rename_i p m2 hp;split at h2
    ·rename_i r' m3 hm;simp only[aq,aI]at h2;obtain⟨rfl,rfl⟩:=h2;exact⟨r,f',m1,rfl,h1,hf⟩
    ·simp at h2
   ·simp at h2
  ·simp at h2
theorem hZ.im{x:Im}(h:hZ x):qN x:=by
 obtain⟨r,f,m,hf,_,hp⟩:=h.fields;exact⟨by rw[hf];simp,(fY (cU _) (pr _)).2 _ _ _ hp⟩
theorem hZ.kind{x:Im}(h:hZ x):cC x=8∨cC x=9∨cC x=10∨cC x=11∨cC x=12∨cC x=21∨cC x=45:=by
 obtain⟨r,f,m,hf,hk,_⟩:=h.fields;unfold cC;rw[hf];simp only[o6,eu,lx]at hk;simp only[List.headD_cons];omega
theorem Nr{l:List Re}{k:Int}(h:∃r∈l,r.k=k):∃r,l.find? (fun r=>r.k==k)=some r:=by
 obtain⟨r,hr,hk⟩:=h;cases hf:l.find? (fun r=>r.k==k)with
 |some q=>exact⟨q,rfl⟩
 |none=>
  have:=List.find?_eq_none.1 hf r hr;simp[hk]at this
theorem hZ.ref{x:Im}(h:hZ x)(hk:cC x=10∨cC x=11):∃s,iB x=some s:=by
 obtain⟨r,f,m,hf,_,hp⟩:=h.fields;have hr:r.k=cC x:=by unfold cC;rw[hf];rfl
 obtain⟨a,b,m1,_,h2,hx⟩:=pB hp;have key:∀q,fX (dk [18]) q m1=some (b,m)→∃s,iB x=some s:=by
  intro q hq;obtain⟨c,d,m2,h3,_,rfl⟩:=pB hq;obtain⟨r',c',rfl,hk',_⟩:=rj (by decide) h3;obtain⟨s,hs⟩:=Nr (l:=x.f) (k:=18) ⟨r',by rw[hx];simp,hk'⟩;exact⟨ib s.b,by unfold iB dK;rw[hs];rfl⟩
 rcases hk with hk|hk<;>rw[hr,hk]at h2
 ·exact key _ h2
 ·exact key _ h2
def Mm(r:Re):Prop:=ke r.b
def Xp(c:Ce):Prop:=∀x∈c.i,∀r∈x.f,Mm r
theorem WS{a b:Int}(ha:0≤a∧a<256)(hb:0≤b∧b<256): -32768≤Si a b∧Si a b≤32767:=by
 unfold Si;split<;>omega
theorem WU{a b c d:Int}(ha:0≤a∧a<256)(hb:0≤b∧b<256)(hc:0≤c∧c<256)(hd:0≤d∧d<256): -2147483648≤Sj a b c d∧Sj a b c d≤2147483647:=by
 unfold Sj;split<;>omega
theorem Dr:∀{l:List Int},ke l→∀z∈dM l,-32768≤z∧z≤32767
 | [],_,z,h=>by simp[dM]at h
 | [_],_,z,h=>by simp[dM]at h
 |a::b::r,hb,z,h=>by
  simp only[dM,aD]at h;rcases h with rfl|h
  ·exact WS (hb a (by simp)) (hb b (by simp))
  ·exact Dr (fun y hy=>hb y (by simp[hy])) z h
theorem Gh:∀{l:List Int},ke l→∀z∈fe l,-2147483648≤z∧z≤2147483647
 | [],_,z,h=>by simp[fe]at h
 | [_],_,z,h=>by simp[fe]at h
 | [_,_],_,z,h=>by simp[fe]at h
 | [_,_,_],_,z,h=>by simp[fe]at h
 |a::b::c::d::r,hb,z,h=>by
  simp only[fe,aD]at h;rcases h with rfl|h
  ·exact WU (hb a (by simp)) (hb b (by simp)) (hb c (by simp)) (hb d (by simp))
  ·exact Gh (fun y hy=>hb y (by simp[hy])) z h
theorem FR{l:List Int}{A B:Int}(h:∀z∈l,A≤z∧z≤B)(h0:A≤0∧0≤B)(k:Nat):A≤l.getD k 0∧l.getD k 0≤B:=by
 rw[dZ];cases hk:l[k]? with
 |none=>simpa using h0
 |some z=>exact h z (aO hk)
theorem wM{x:Im}(h:∀r∈x.f,Mm r):(aT x).1≤32767∧(aT x).2≤32767:=by
 unfold aT;cases hf:dK x 19 with
 |none=>exact⟨by decide,by decide⟩
 |some r=>
  have hb:=Dr (h r (kK hf).1);have h0:=FR hb (by decide) 0;have h1:=FR hb (by decide) 1;simp only;refine⟨?_,h1.2⟩;cases hs:dM r.b with
  |nil=>simp
  |cons a l=>rw[hs]at h0;simpa using h0.2
theorem GR{A B:Int}:∀{l:List Int},(∀z∈l,A≤z∧z≤B)→∀d∈jD l,(A≤d.x∧d.x≤B)∧A≤d.y∧d.y≤B
 | [],_,d,h=>by simp[jD]at h
 | [_],_,d,h=>by simp[jD]at h
 |a::b::r,hb,d,h=>by
  simp only[jD,aD]at h;rcases h with rfl|h
  ·exact⟨hb a (by simp),hb b (by simp)⟩
  ·exact GR (fun y hy=>hb y (by simp[hy])) d h
theorem uM{x:Im}(h:∀r∈x.f,Mm r):∀d∈a_ x,(-2147483648≤d.x∧d.x≤2147483647)∧ -2147483648≤d.y∧d.y≤2147483647:=by
 unfold a_;cases hf:dK x 16 with
 |none=>intro d hd;simp at hd
 |some r=>exact GR (Gh (h r (kK hf).1))
theorem oL{x:Im}(h:gU x=true)(hk:cC x=10∨cC x=11):iU x=true∧0<(aT x).1∧0<(aT x).2∧((a_ x).length=1∨(a_ x).length=3):=by
 unfold gU at h;rcases hk with hk|hk<;>rw[hk]at h<;>simp at h
 ·exact⟨h.1.1.1,h.1.1.2,h.1.2,.inl h.2⟩
 ·exact⟨h.1.1.1,h.1.1.2,h.1.2,.inr h.2⟩
theorem xB{x:Im}(h:gU x=true)(hk:cC x=8∨cC x=45):4≤(a_ x).length:=by
 unfold gU at h;rcases hk with hk|hk<;>rw[hk]at h<;>simp at h
 ·exact h.1
 ·omega
theorem I5{x:Im}(h:iU x=true):lj x=false∧0<(jK x).num.sign:=by
 unfold iU at h;simp only[aK,cF,dj]at h;exact⟨h.1,h.2.1⟩
theorem Az{t:List Ce}:∀{n c d:Nat},dep t n c=some d→jF t (n+1) c=jF t n c
 |0,c,d,h=>by simp[dep]at h
 |n+1,c,d,h=>by
  have hr:∃r,js (dep t n) (fB t c) 0=some r:=by
   unfold dep at h;cases hq:js (dep t n) (fB t c) 0 with
   |none=>rw[hq]at h;simp at h
   |some r=>exact⟨r,rfl⟩
  obtain⟨r,hr⟩:=hr;unfold jF;congr 1;refine nQ fun x hx=>?_;unfold jd;cases hk:mu t x with
  |none=>rfl
  |some k=>
   have hkm:k∈fB t c:=List.mem_filterMap.2 ⟨x,hx,hk⟩;obtain⟨e,he,_⟩:=(lU hr).2 k hkm;simp only;rw[Az he]
section
variable{N M K J:Nat}{p q r s:Rat}
theorem cq.int{z:Int}(h:z.natAbs≤K):cq 1 K (z:Rat):=⟨z,by rw[show((1:Nat):Rat)=1 from rfl,sK],h⟩
theorem cq.zero(N K:Nat):cq N K 0:=⟨0,by rw[Rat.zero_mul];rfl,aM _⟩
theorem zD{z:Int}(M:Nat)(h:z.natAbs≤K):cq M (M*K) (z:Rat):=by
 have:=(cq.int h).scale M
 rwa [fO]at this
theorem cq.mulI{z:Int}(hq:cq M K q)(h:z.natAbs≤J):cq M (K*J) (q*(z:Rat)):=by
 have:=hq.mul (cq.int h)
 rwa [fO]at this
theorem xW{z:Int}(h:0<z):cq z.toNat 1 (Rat.divInt 1 z):=⟨1,by
 have e:((z.toNat:Nat):Rat)=(z:Rat):=by
  have:((z.toNat:Nat):Int)=z:=nN (qi h)
  calc((z.toNat:Nat):Rat)=(((z.toNat:Nat):Int):Rat):=rfl
   _=(z:Rat):=by rw[this]
 have hne:(z:Rat)≠0:=fun e0=>by
  have:z=0:=Rat.intCast_inj.1 e0;omega
 rw[e,iu,lg,Rat.mul_assoc,Rat.inv_mul_cancel _ hne,sK],by decide⟩
end
def cS(N K:Nat)(S:Sn):Prop:=cq N K S.p∧cq N K S.q∧cq N K S.r∧cq N K S.s
theorem cS.neg{N K:Nat}{S:Sn}(h:cS N K S):cS N K S.neg:=⟨h.1.neg,h.2.1.neg,h.2.2.1.neg,h.2.2.2.neg⟩
structure Ml(P:Sn×Sn):Prop where
 em:P.2.m=P.1.m
 en:P.2.n=P.1.n
 m0:0≤P.1.m
 n0:0≤P.1.n
 mb:P.1.m.natAbs<2^67
 nb:P.1.n.natAbs<2^67
 c:∃M,0<M∧M≤2^136∧cS M (2^170) P.1∧cS M (2^170) P.2
structure XZ(M:Nat)(q:Pa):Prop where
 x:q.d.x.natAbs<2^34
 y:q.d.y.natAbs<2^34
 a:cq M (2^101) q.a
 b:cq M (2^101) q.b
 c:cq M (2^101) q.c
 e:cq M (2^101) q.e
theorem tX{M:Nat}(hM:M≤2^136){q r s:Rat}{d e:Int}(hq:cq M (2^167) q)(hr:cq M (2^101) r)(hs:cq M (2^101) s)(hd:d.natAbs<2^34)(he:e.natAbs<2^34):cq M (2^170) (q+r*(d:Rat)+s*(e:Rat)):=
 ((hq.add (hr.mulI (gf hd))).add (hs.mulI (gf he))).mono (by decide)
theorem pW{M:Nat}(hM:M≤2^136){q r:Rat}{d:Int}(hq:cq M (2^167) q)(hr:cq M (2^101) r)(hd:d.natAbs<2^34):cq M (2^170) (q+r*(d:Rat)):=
 (hq.add (hr.mulI (gf hd))).mono (by decide)
theorem JG{M:Nat}(hM:M≤2^136){z:Int}(h: -2147483648≤z∧z≤2147483648):cq M (2^167) (z:Rat):=
 (zD M (K:=2^31) (by show z.natAbs≤2147483648;omega)).mono (aP (aR hM (ai _)) (by decide))
theorem HO{M:Nat}(h0:0<M)(hM:M≤2^136){m n:Int}{p:Dp}{u v:Pa}(hm0:0≤m)(hn0:0≤n)(hm:m.natAbs<2^67)(hn:n.natAbs<2^67)(hp:iJ 2147483648 p)(hu:XZ M u)(hv:XZ M v):Ml (al m n p [u,v]):=by
 unfold iJ at hp;have px:=JG hM (z:=p.x) (by omega);have py:=JG hM (z:=p.y) (by omega);have z0:=cq.zero M (2^167);exact⟨rfl,rfl,hm0,hn0,hm,hn,M,h0,hM,⟨tX hM px hu.a hv.a hu.x hv.x,tX hM z0 hu.b hv.b hu.x hv.x,tX hM z0 hu.c hv.c hu.x hv.x,tX hM z0 hu.e hv.e hu.x hv.x⟩,
  ⟨tX hM py hu.a hv.a hu.y hv.y,tX hM z0 hu.b hv.b hu.y hv.y,tX hM z0 hu.c hv.c hu.y hv.y,tX hM z0 hu.e hv.e hu.y hv.y⟩⟩
theorem Yi{M:Nat}(h0:0<M)(hM:M≤2^136){m n:Int}{p:Dp}{u:Pa}(hm0:0≤m)(hn0:0≤n)(hm:m.natAbs<2^67)(hn:n.natAbs<2^67)(hp:iJ 2147483648 p)(hu:XZ M u):Ml (al m n p [u]):=by
 unfold iJ at hp;have px:=JG hM (z:=p.x) (by omega);have py:=JG hM (z:=p.y) (by omega);have z0:=cq.zero M (2^167);exact⟨rfl,rfl,hm0,hn0,hm,hn,M,h0,hM,⟨pW hM px hu.a hu.x,pW hM z0 hu.b hu.x,pW hM z0 hu.c hu.x,pW hM z0 hu.e hu.x⟩,
  ⟨pW hM py hu.a hu.y,pW hM z0 hu.b hu.y,pW hM z0 hu.c hu.y,pW hM z0 hu.e hu.y⟩⟩
def Co(d:Dp):Nat:=2*(2*(kt d).toNat)
theorem ER{d e:Dp}{q:Rat}(hd:iJ 4294967296 d)(h0:0<kt d)(he:kt d=kt e)(hq:cq 2 (2^34) q):XZ (Co e) (jM d q):=by
 have g:cq (Co e) (2^101) (q*Rat.divInt 1 (kt d)):=by
  have:=(hq.mul (xW h0)).scale 2;rw[he]at this⊢;exact this.mono (by decide)
 exact⟨(lC hd).1,(lC hd).2,cq.zero _ _,g,cq.zero _ _,cq.zero _ _⟩
theorem EM{d e:Dp}{q:Rat}(hd:iJ 4294967296 d)(h0:0<kt d)(he:kt d=kt e)(hq:cq 2 (2^34) q):XZ (Co e) (lA d q):=by
 have g:cq (Co e) (2^101) (q*Rat.divInt 1 (kt d*2)):=by
  have:=hq.mul (xW (show 0<kt d*2 by omega));rw[show 2*(kt d*2).toNat=Co e by unfold Co;omega]at this;exact this.mono (by decide)
 exact⟨(lC hd).1,(lC hd).2,cq.zero _ _,cq.zero _ _,cq.zero _ _,g⟩
theorem Ui{p d:Dp}(hp:iJ 2147483648 p)(hd:iJ 4294967296 d)(h0:kt d≠0){h b:Rat}(hh:cq 2 (2^34) h)(hb:cq 2 (2^34) b)(r:Bool):∀P∈mh p d h b r,Ml P:=by
 have hm:=BR hd;have oz:0<kt d:=by have:=vX d;omega
 have t1:=z8 hd;obtain⟨s1,s2⟩:=Sq d;have h2:(2:Int).natAbs<2^67:=by decide
 have g0:0<Co d:=by unfold Co;omega
 have gM:Co d≤2^136:=by
  have:(kt d).toNat<2^67:=by omega
  unfold Co;exact aP (aR (ai 2) (aR (ai 2) (gf this))) (by decide)
 have ud:=ER hd oz rfl hb;have uh:=ER hd oz rfl hh;have ul:=ER t1.1 (by rw[s1];exact oz) s1 hh;have ur:=ER t1.2.1 (by rw[s2];exact oz) s2 hh;have sd:=EM hd oz rfl hh;have sl:=EM t1.1 (by rw[s1];exact oz) s1 hh;have sr:=EM t1.2.1 (by rw[s2];exact oz) s2 hh;have e0:0≤kt d:=qi oz;have e2:(0:Int)≤2:=by decide
 intro P hP;unfold mh at hP;cases r with
 |false=>
  simp only[aD,iK,ea,aA,aC,bp]at hP;rcases hP with rfl|rfl
  ·exact HO g0 gM e0 e2 hm h2 hp ud ul
  ·exact HO g0 gM e0 e2 hm h2 hp ud ur
 |true=>
  simp only[aD,eW,ez,aC,bp]at hP;rcases hP with rfl|(rfl|rfl|rfl)|rfl
  ·exact HO g0 gM e0 e2 hm h2 hp ud ul
  ·exact HO g0 gM e0 e2 hm h2 hp sd sl
  ·exact Yi g0 gM e0 e2 hm h2 hp uh
  ·exact HO g0 gM e0 e2 hm h2 hp sd sr
  ·exact HO g0 gM e0 e2 hm h2 hp ud ur
theorem RH{p d e:Dp}(hp:iJ 2147483648 p)(hd:iJ 4294967296 d)(he:iJ 4294967296 e)(h0:qC (eY d) e≠0){h:Rat}(hh:cq 2 (2^34) h):Ml (gx p d e h):=by
 have hm:=BR hd;have hn:=BR he;have ht:=CL hd he;have tl:=z8 hd;have te:=z8 he;have hc:=CL tl.1 he;obtain⟨C,hC⟩:∃C,C=qC (eY d) e*qC (eY d) e:=⟨_,rfl⟩;have hC0:0<C:=by
  rw[hC];rcases Int.lt_or_gt_of_ne h0 with h|h
  ·exact Int.mul_pos_of_neg_of_neg h h
  ·exact Int.mul_pos h h
 have hCb:C.toNat≤2^134:=by
  have e1:C.toNat=(qC (eY d) e).natAbs*(qC (eY d) e).natAbs:=by rw[←cK,←hC];omega
  rw[e1];exact aP (aR (gf hc) (gf hc)) (by decide)
 have hk:cq (2*C.toNat) (2^34) (h/(C:Rat)):=by
  have e1:h/(C:Rat)=h*Rat.divInt 1 C:=by
   rw[iu,lg,lg,show((1:Int):Rat)=1 from rfl,Rat.one_mul]
  rw[e1];exact hh.mul (xW hC0)
 rw[hC]at hk;have i1:∀{z:Int},z.natAbs<2^67→cq (2*C.toNat) (2^101) (h/((qC (eY d) e*qC (eY d) e:Int):Rat)*(z:Rat)):=fun hz=>by
  rw[←hC]at hk⊢;exact(hk.mulI (gf hz)).mono (by decide)
 have AS:(-(qC d e)).natAbs<2^67:=by rw[Int.natAbs_neg];exact ht
 exact HO (by omega) (aP (aR (ai 2) hCb) (by decide)) (vX d) (vX e) hm hn hp ⟨(lC tl.1).1,(lC tl.1).2,cq.zero _ _,i1 hn,i1 AS,cq.zero _ _⟩ ⟨(lC te.1).1,(lC te.1).2,cq.zero _ _,i1 AS,i1 hm,cq.zero _ _⟩
theorem Bc{h:Rat}(hh:cq 2 (2^34) h):∀(c w:List Dp),(∀p∈c,iJ 2147483648 p)→(∀d∈w,iJ 4294967296 d)→(∀(i:Nat) (d e:Dp),w[i]? =some d→w[i+1]? =some e→qC (eY d) e≠0)→∀P∈gK h c w,Ml P
 |p::c,d::e::w,hc,hw,hx=>fun P hP=>by
  simp only[gK,aD]at hP;rcases hP with rfl|hP
  ·exact RH (hc p (by simp)) (hw d (by simp)) (hw e (by simp)) (hx 0 d e rfl rfl) hh
  ·exact Bc hh c (e::w) (fun q hq=>hc q (cX _ hq)) (fun q hq=>hw q (cX _ hq)) (fun i a b ha hb=>hx (i+1) a b ha hb) P hP
 | [],_,_,_,_=>fun P hP=>by simp[gK]at hP
 |_::_,[],_,_,_=>fun P hP=>by simp[gK]at hP
 |_::_,[_],_,_,_=>fun P hP=>by simp[gK]at hP
theorem Vv{w:Int}(h:1≤w∧w≤2147483647):cq 2 (2^34) (Rat.divInt w 2):=by
 have:=(xW (show(0:Int)<2 by decide)).mulI (z:=w) (J:=2^34) (by show w.natAbs≤17179869184;omega);have e:Rat.divInt 1 2*(w:Rat)=Rat.divInt w 2:=by
  rw[iu,iu,lg,lg,show((1:Int):Rat)=1 from rfl,Rat.one_mul,Rat.mul_comm]
 rw[e,la]at this;exact this
theorem Pk{c w:List Dp}(hf:KD c w)(hw:0<w.length)(hb:¬ ∃(i:Nat) (d e:Dp),w[i]? =some d∧w[i+1]? =some e∧e=jn d)(hc:∀p∈c,iJ 2147483648 p){width kind bg en:Int}(h1:1≤width)(h2:width≤2147483647)(h3: -2147483647≤bg∧bg≤2147483647)(h4: -2147483647≤en∧en≤2147483647):∀P∈rX c w width kind bg en,Ml P:=by
 have hl:=hf.len;have nA:∀(i:Nat) (d:Dp),w[i]? =some d→∃a b,a∈c∧b∈c∧a≠b∧d=gF a b:=fun i d hd=>by
  have hi:=(List.getElem?_eq_some_iff.1 hd).1;obtain⟨n1,e1⟩:=hf.way i _ _ d (ar (by omega)) (ar (by omega)) hd;exact⟨_,_,dW _,dW _,n1,e1⟩
 have NS:∀(i:Nat) (d:Dp),w[i]? =some d→lW d=1:=fun i d hd=>by
  obtain⟨a,b,_,_,h,e⟩:=nA i d hd;rw[e];exact G5 h
 have hin:∀d∈w,iJ 4294967296 d:=fun d hd=>by
  obtain⟨i,hi⟩:=mD hd;obtain⟨a,b,ha,hb,h,e⟩:=nA i d hi;rw[e];exact Qh (hc a ha) (hc b hb) h
 have EW:∀(i:Nat) (d e:Dp),w[i]? =some d→w[i+1]? =some e→qC (eY d) e≠0:=fun i d e hd he=>
  FH (NS i d hd) (NS (i+1) e he) (hf.turn i d e hd he) (fun h=>hb ⟨i,d,e,hd,he,h⟩)
 have hh:=Vv ⟨h1,h2⟩;have ei:∀z:Int,-2147483647≤z∧z≤2147483647→cq 2 (2^34) (z:Rat):=fun z hz=>(zD 2 (K:=2^31) (by show z.natAbs≤2147483648;omega)).mono (by decide);have e1:cq 2 (2^34) (oW kind bg en (Rat.divInt width 2)).1∧cq 2 (2^34) (oW kind bg en (Rat.divInt width 2)).2:=by
  unfold oW;split
  ·exact⟨hh,hh⟩
  ·split
   ·exact⟨ei bg h3,ei en h4⟩
   ·exact⟨cq.zero _ _,cq.zero _ _⟩
 have g0:∀k,k<c.length→iJ 2147483648 (c.getD k ⟨0,0⟩):=fun k hk=>by
  rw[dZ,ar hk];exact hc _ (dW _)
 have g1:∀k,k<w.length→iJ 4294967296 (w.getD k ⟨0,0⟩)∧kt (w.getD k ⟨0,0⟩)≠0:=fun k hk=>by
  rw[dZ,ar hk];exact⟨hin _ (dW _),I3 (Ej (NS k _ (ar hk)))⟩
 have s0:kt (jn (w.getD 0 ⟨0,0⟩))≠0:=by
  have:=(g1 0 hw).2;unfold kt jn at*;simp only[sW];exact this
 have t0:=Ui (g0 0 (by omega)) (z8 (g1 0 hw).1).2.2 s0 hh e1.1 (kind==1);have t1:=Ui (g0 (c.length-1) (by omega)) (g1 (w.length-1) (by omega)).1 (g1 (w.length-1) (by omega)).2 hh e1.2 (kind==1);have ht:∀p∈c.tail,iJ 2147483648 p:=fun p hp=>hc p (List.mem_of_mem_tail hp);intro P hP;unfold rX at hP;simp only[ez,List.mem_reverse]at hP;rcases hP with(((hP|hP)|hP)|hP)|hP
 ·exact t0 P (mE hP)
 ·exact Bc hh _ _ ht hin EW P hP
 ·exact t1 P hP
 ·exact Bc hh.neg _ _ ht hin EW P hP
 ·exact t0 P (dI hP)
theorem FF:∀(fK:List Dp) (s:List Dp×List Dp),(∀p∈fK,iJ 2147483648 p)→(∀p∈s.1,iJ 2147483648 p)→∀p∈(fK.foldl push s).1,iJ 2147483648 p
 | [],_,_,h=>h
 |q::r,s,hq,h=>FF r (push s q) (fun p hp=>hq p (cX _ hp)) (fun p hp=>by
  obtain⟨R,w⟩:=s
  match R,h with
  | [],h=>
   simp[push]at hp;subst hp;exact hq _ vB
  |l::R',h=>
   simp only[push]at hp;split at hp
   ·exact h p hp
   ·split at hp
    ·rcases List.mem_cons.1 hp with rfl|hp
     ·exact hq _ vB
     ·exact h p (cX _ hp)
    ·rcases List.mem_cons.1 hp with rfl|hp
     ·exact hq _ vB
     ·exact h p hp)
theorem Yj{ps:List Dp}{width kind bg en:Int}(h0:rh ps width kind bg en=0):(∀P∈rX (iO ps).1.reverse (iO ps).2.reverse width kind bg en,Ml P)∧(rX (iO ps).1.reverse (iO ps).2.reverse width kind bg en).length≤40000:=by
 obtain⟨h8,hb,ho,hc2,YP⟩:=Lv h0;have hok:j5 (iO ps).1 (iO ps).2:=zC ps ([],[]) rfl;have hne:(iO ps).1≠ []:=fun e=>by rw[e]at hc2;simp at hc2
 have hf:=Nv hok hne;have hl:=hf.len;have hw:0<(iO ps).2.reverse.length:=by
  rw[fC]at hl;omega
 have hin:∀p∈(iO ps).1.reverse,iJ 2147483648 p:=fun p hp=>FF ps ([],[]) (TO ho) (by simp) p (List.mem_reverse.1 hp);have hnb:¬ ∃(i:Nat) (d e:Dp),(iO ps).2.reverse[i]? =some d∧(iO ps).2.reverse[i+1]? =some e∧e=jn d:=fun h=>by
  rw[(Jj _).2 h]at YP;simp at YP
 obtain⟨_,w1,w2,w3,w4,w5,w6⟩:=Fi.1 hb;refine⟨Pk hf hw hnb hin w1 w2 ⟨w3,w4⟩ ⟨w5,w6⟩,?_⟩;have JA:(iO ps).1.reverse.tail.length=(iO ps).2.reverse.length:=by rw[List.length_tail,hl];omega
 have hwl:(iO ps).2.reverse.length≤8191:=by
  have:=FG ps ([],[]);simp only[bE,cz]at this;rw[fC];exact aP this h8
 have a1:=xG ((iO ps).1.reverse.getD 0 ⟨0,0⟩) (jn ((iO ps).2.reverse.getD 0 ⟨0,0⟩)) (Rat.divInt width 2) (oW kind bg en (Rat.divInt width 2)).1 (kind==1);have a2:=xG ((iO ps).1.reverse.getD ((iO ps).1.reverse.length-1) ⟨0,0⟩) ((iO ps).2.reverse.getD ((iO ps).2.reverse.length-1) ⟨0,0⟩) (Rat.divInt width 2) (oW kind bg en (Rat.divInt width 2)).2 (kind==1);have m1:=o8 (Rat.divInt width 2) _ _ JA;have m2:=o8 (-(Rat.divInt width 2)) _ _ JA;unfold rX;simp only[az,fC,jG,dF]at a1 a2 m1 m2 hwl⊢;omega
theorem WM{x:Im}:(∀P∈ji x,Ml P)∧(ji x).length≤40000:=by
 unfold ji;split
 ·rename_i h;exact Yj h.1
 ·exact⟨fun P hP=>by simp at hP,aM _⟩
def M(s:Rat)(e:Nat):Rat:=s*QC (4*(78-(e:Int)))
def ebytes(neg:Bool)(e:Nat)(n:Int):List Int:=[(if neg then 128 else 0)+e,n/281474976710656 % 256,n/1099511627776 % 256,n/4294967296 % 256,n/16777216 % 256,n/65536 % 256,n/256 % 256,n % 256]
section
variable{Γ:List aE}{L:Nat}{fin:VS→List aE→Prop}
end
section
variable{Γ:List aE}{L:Nat}{fin:VS→List aE→Prop}
end
theorem ke.take{zs:List Int}(h:ke zs)(k:Nat):ke (zs.take k):=fun z hz=>h z (dI hz)
theorem YB{zs:List Int}(h:zs.length=8):∃z0 z1 z2 z3 z4 z5 z6 z7,zs=[z0,z1,z2,z3,z4,z5,z6,z7]:=by
 match zs,h with
 | [_,_,_,_,_,_,_,_],_=>exact⟨_,_,_,_,_,_,_,_,rfl⟩
theorem ML{zs:List Int}(h:zs.length=8)(hb:ke zs):0≤be (zs.drop 1)∧be (zs.drop 1)<72057594037927936:=by
 obtain⟨z0,z1,z2,z3,z4,z5,z6,z7,rfl⟩:=YB h;have b1:=hb z1 (by simp);have b2:=hb z2 (by simp);have b3:=hb z3 (by simp);have b4:=hb z4 (by simp);have b5:=hb z5 (by simp);have b6:=hb z6 (by simp);have b7:=hb z7 (by simp);simp only[be,List.drop_succ_cons,ir,oF,List.foldl_nil];omega
section
variable{Γ:List aE}{L:Nat}{fin:VS→List aE→Prop}
end
end Go.Proofs.YtgaaopjagcaojaaGreat
