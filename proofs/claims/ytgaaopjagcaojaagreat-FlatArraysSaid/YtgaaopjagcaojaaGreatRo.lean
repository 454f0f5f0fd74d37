import Derived.Test.YtgaaopjagcaojaaGreatMa
import Derived.Test.YtgaaopjagcaojaaGreatOw
import Derived.Test.YtgaaopjagcaojaaGreatOv
import Derived.Test.YtgaaopjagcaojaaGreatVk
import Derived.Test.YtgaaopjagcaojaaGreatLe
set_option linter.unusedSimpArgs false
set_option linter.unusedVariables false
namespace Go.Proofs.YtgaaopjagcaojaaGreat
open Go.RowKit Go.IntWalk
def D4(c:Ce):ByteArray:=strOfNums (Jy c)
def sI(s:ByteArray):List Ce→Nat→Option Nat
 | [],_=>none
 |c::r,i=>if s=D4 c then some i else sI s r (i+1)
def ns(t:List Ce)(s:ByteArray):Option Nat:=sI s t 0
theorem Gc{s:ByteArray}:∀{t:List Ce} {i k:Nat},sI s t i=some k→i≤k∧k<i+t.length
 | [],i,k,h=>by simp[sI]at h
 |c::r,i,k,h=>by
  unfold sI at h;split at h
  ·injection h with h;subst h;simp
  ·have:=Gc h;simp only[aF];omega
theorem Oy{s:ByteArray}{t:List Ce}{k:Nat}(h:ns t s=some k):k<t.length:=by
 have:=Gc h;omega
def ye:List Ce→Nat→List (ByteArray×Int)→List (ByteArray×Int)
 | [],_,nm=>nm
 |c::r,i,nm=>ye r (i+1) (if(gG (D4 c) nm).isSome then nm else kV (D4 c) (i:Int) nm)
def cw(t:List Ce):List (ByteArray×Int):=ye t 0 []
theorem Cy(s:ByteArray):∀(t:List Ce) (i:Nat) (nm:List (ByteArray×Int)),gG s (ye t i nm)=match gG s nm with
  |some v=>some v
  |none=>(sI s t i).map fun k:Nat=>(k:Int)
 | [],i,nm=>by cases h:gG s nm<;>simp[ye,sI,h]
 |c::r,i,nm=>by
  unfold ye sI;rw[Cy s r (i+1)];by_cases hs:s=D4 c
  ·subst hs;cases h:gG (D4 c) nm with
   |some v=>simp[h]
   |none=>simp[iG]
  ·cases h:gG (D4 c) nm with
   |some v=>simp[hs]
   |none=>simp[iG,hs]
theorem vJ(s:ByteArray)(t:List Ce):gG s (cw t)=(ns t s).map fun k:Nat=>(k:Int):=by
 unfold cw;rw[Cy];rfl
def qJ(t:List Ce)(x:Im):Option Nat:=(iA x).bind fun s=>ns t (strOfNums s)
def ln(t:List Ce)(c:Nat):List Im:=(t.getD c ⟨[],[]⟩).i
def fE(t:List Ce)(c:Nat):List Nat:=(ln t c).filterMap (qJ t)
def rf(t:List Ce)(c:Ce):Bool:=c.i.any fun x=>(iA x).isSome&&(qJ t x).isNone
def lost(t:List Ce):Bool:=t.any (rf t)
theorem tP(t:List Ce)(x:Im):mr (cw t) x=(iA x).map fun s=>match ns t (strOfNums s)with
  |some k=>(k:Int)
  |none=> -1:=by
 unfold mr;cases iA x with
 |none=>rfl
 |some s=>
  simp only[dq,vJ];cases ns t (strOfNums s)<;>rfl
theorem IB{t:List Ce}{c:Ce}(h:rf t c=false):iZ (cw t) c=(c.i.filterMap (qJ t)).map fun k:Nat=>(k:Int):=by
 unfold iZ;unfold rf at h;rw[ko]at h;revert h;generalize c.i=l;intro h
 induction l with
 |nil=>rfl
 |cons x l ih=>
  have hx:=h x (by simp);have hl:=ih (fun y hy=>h y (by simp[hy]));cases hn:iA x with
  |none=>
   rw[List.filterMap_cons_none (by rw[tP,hn];rfl),List.filterMap_cons_none (by unfold qJ;rw[hn];rfl)];exact hl
  |some s=>
   cases hi:ns t (strOfNums s)with
   |none=>unfold qJ at hx;simp[hn,hi]at hx
   |some k=>
    rw[List.filterMap_cons_some (b:=(k:Int)) (by rw[tP,hn];simp[hi]),List.filterMap_cons_some (b:=k) (by unfold qJ;rw[hn];simp[hi]),cj,hl]
theorem uN{t:List Ce}{c:Ce}:(∃k∈iZ (cw t) c,k<0)↔rf t c=true:=by
 unfold iZ rf;simp only[List.mem_filterMap,ME,tP];constructor
 ·rintro⟨k,⟨x,hx,hk⟩,h0⟩;refine⟨x,hx,?_⟩;unfold qJ;cases hn:iA x with
  |none=>rw[hn]at hk;simp at hk
  |some s=>
   rw[hn]at hk;simp only[dq,aq,Option.bind_some,Option.isSome_some,dP]at hk⊢;cases hi:ns t (strOfNums s)with
   |none=>rfl
   |some j=>
    rw[hi]at hk;simp only at hk;omega
 ·rintro⟨x,hx,h⟩;cases hn:iA x with
  |none=>rw[hn]at h;simp at h
  |some s=>
   unfold qJ at h;rw[hn]at h;simp only[Option.bind_some,Option.isSome_some,dP]at h;have hi:ns t (strOfNums s)=none:=by simpa using h
   exact⟨-1,⟨x,hx,by rw[hn];simp[hi]⟩,by decide⟩
def yO(t:List Ce):List Ce→Nat→Bool
 | [],_=>false
 |c::r,i=> !(ns t (D4 c)==some i)||yO t r (i+1)
def acp(t:List Ce):Bool:=yO t t 0
theorem AV{s:ByteArray}:∀{t:List Ce} {i:Nat},(∃c∈t,D4 c=s)→∃k,sI s t i=some k
 | [],i,h=>by obtain⟨c,hc,_⟩:=h;simp at hc
 |c::r,i,h=>by
  unfold sI;split
  ·exact⟨_,rfl⟩
  ·rename_i hne;obtain⟨d,hd,he⟩:=h;simp only[aD]at hd;rcases hd with rfl|hd
   ·exact absurd he.symm hne
   ·exact AV ⟨d,hd,he⟩
def jG(g:Nat→Option Nat):List Nat→Nat→Option Nat
 | [],m=>some m
 |k::r,m=>match g k with
  |some d=>jG g r (max m d)
  |none=>none
def dep(t:List Ce):Nat→Nat→Option Nat
 |0,_=>none
 |n+1,c=>(jG (dep t n) (fE t c) 0).map (· +1)
theorem lT{g:Nat→Option Nat}:∀{l:List Nat} {m r:Nat},jG g l m=some r→m≤r∧∀k∈l,∃d,g k=some d∧d≤r
 | [],m,r,h=>by
  simp only[jG,aq]at h;subst h;exact⟨ai _,fun k hk=>by simp at hk⟩
 |k::l,m,r,h=>by
  unfold jG at h;cases hg:g k with
  |none=>rw[hg]at h;simp at h
  |some d=>
   rw[hg]at h;obtain⟨h1,h2⟩:=lT h;refine⟨by omega,fun j hj=>?_⟩;simp only[aD]at hj;rcases hj with rfl|hj
   ·exact⟨d,hg,by omega⟩
   ·exact h2 j hj
theorem oV{g g':Nat→Option Nat}:∀{l:List Nat} {m:Nat},(∀k∈l,g k=g' k)→jG g l m=jG g' l m
 | [],m,_=>rfl
 |k::l,m,h=>by
  unfold jG;rw[h k (by simp)];cases g' k with
  |none=>rfl
  |some d=>exact oV fun j hj=>h j (by simp[hj])
theorem FP{t:List Ce}:∀{n c d:Nat},dep t n c=some d→dep t (n+1) c=some d
 |0,c,d,h=>by simp[dep]at h
 |n+1,c,d,h=>by
  unfold dep at h⊢;rw[←h];have hs:∃r,jG (dep t n) (fE t c) 0=some r:=by
   cases hq:jG (dep t n) (fE t c) 0 with
   |none=>rw[hq]at h;simp at h
   |some r=>exact⟨r,rfl⟩
  obtain⟨r,hr⟩:=hs;congr 1;refine oV fun k hk=>?_;obtain⟨d',h1,h2⟩:=(lT hr).2 k hk;rw[h1];exact FP h1
theorem nk{t:List Ce}{n c d:Nat}(h:dep t n c=some d):∀{m:Nat},n≤m→dep t m c=some d
 |m,hm=>by
  induction m with
  |zero=>
   obtain rfl:n=0:=by omega
   exact h
  |succ m ih=>
   by_cases hnm:n≤m
   ·exact FP (ih hnm)
   ·obtain rfl:n=m+1:=by omega
    exact h
theorem Ny{t:List Ce}{n m c d e:Nat}(h:dep t n c=some d)(g:dep t m c=some e):d=e:=by
 have h1:=nk h (m:=max n m) (by omega);have h2:=nk g (m:=max n m) (by omega);rw[h1]at h2;exact Option.some.inj h2
theorem D5{t:List Ce}{n c d:Nat}(h:dep t n c=some d):0<d:=by
 cases n with
 |zero=>simp[dep]at h
 |succ n=>
  unfold dep at h;cases hq:jG (dep t n) (fE t c) 0 with
  |none=>rw[hq]at h;simp at h
  |some r=>
   rw[hq]at h;simp only[dq,aq]at h;omega
theorem Nx{t:List Ce}:∀{n c d:Nat},dep t n c=some d→d≤n
 |0,c,d,h=>by simp[dep]at h
 |n+1,c,d,h=>by
  unfold dep at h;cases hq:jG (dep t n) (fE t c) 0 with
  |none=>rw[hq]at h;simp at h
  |some r=>
   rw[hq]at h;simp only[dq,aq]at h;have key:∀(l:List Nat) (m:Nat),jG (dep t n) l m=some r→r≤max m n:=by
    intro l
    induction l with
    |nil=>intro m hm;simp only[jG,aq]at hm;omega
    |cons k l ih=>
     intro m hm;unfold jG at hm;cases hg:dep t n k with
     |none=>rw[hg]at hm;simp at hm
     |some e=>
      rw[hg]at hm;have:=ih _ hm;have:=Nx hg;omega
   have:=key _ _ hq;omega
def sW(t:List Ce)(c d:Nat):Prop:=∃n,dep t n c=some d
theorem sW.kid{t:List Ce}{c d k:Nat}(h:sW t c d)(hk:k∈fE t c):∃e,sW t k e∧e<d:=by
 obtain⟨n,h⟩:=h;cases n with
 |zero=>simp[dep]at h
 |succ n=>
  unfold dep at h;cases hq:jG (dep t n) (fE t c) 0 with
  |none=>rw[hq]at h;simp at h
  |some r=>
   rw[hq]at h;simp only[dq,aq]at h;obtain⟨e,h1,h2⟩:=(lT hq).2 k hk;exact⟨e,⟨n,h1⟩,by omega⟩
theorem sW.uniq{t:List Ce}{c d e:Nat}(h:sW t c d)(g:sW t c e):d=e:=by
 obtain⟨n,h⟩:=h;obtain⟨m,g⟩:=g;exact Ny h g
theorem sW.of{t:List Ce}{c:Nat}{g:Nat→Option Nat}{r:Nat}(h:jG g (fE t c) 0=some r)(hg:∀k d,g k=some d→sW t k d):sW t c (r+1):=by
 have key:∀(l:List Nat) (m:Nat),jG g l m=some r→∃n,jG (dep t n) l m=some r:=by
  intro l
  induction l with
  |nil=>intro m hm;exact⟨0,hm⟩
  |cons k l ih=>
   intro m hm;unfold jG at hm;cases hk:g k with
   |none=>rw[hk]at hm;simp at hm
   |some d=>
    rw[hk]at hm;obtain⟨n1,h1⟩:=ih _ hm;obtain⟨n2,h2⟩:=hg k d hk;refine⟨max n1 n2,?_⟩;unfold jG;rw[nk h2 (by omega)];simp only;rw[←h1];refine oV fun j hj=>?_;obtain⟨e,h3,_⟩:=(lT h1).2 j hj;rw[h3];exact nk h3 (by omega)
 obtain⟨n,hn⟩:=key _ _ h;exact⟨n+1,by unfold dep;rw[hn];rfl⟩
theorem FN{g:Nat→Option Nat}:∀{l:List Nat} {a m:Nat},jG g l a=some m→m=a∨∃k∈l,g k=some m
 | [],a,m,h=>by
  simp only[jG,aq]at h;exact .inl h.symm
 |k::l,a,m,h=>by
  unfold jG at h;cases hg:g k with
  |none=>rw[hg]at h;simp at h
  |some d=>
   rw[hg]at h;rcases FN h with h|⟨j,hj,hm⟩
   ·by_cases hd:d≤a
    ·exact .inl (by omega)
    ·exact .inr ⟨k,by simp,by rw[hg,h];congr 1;omega⟩
   ·exact .inr ⟨j,by simp[hj],hm⟩
theorem sW.some_kid{t:List Ce}{c d:Nat}(h:sW t c d):(d=1)∨(fE t c≠ []∧∃k∈fE t c,∃e,sW t k e∧d=e+1):=by
 obtain⟨n,h⟩:=h;cases n with
 |zero=>simp[dep]at h
 |succ n=>
  unfold dep at h;cases hq:jG (dep t n) (fE t c) 0 with
  |none=>rw[hq]at h;simp at h
  |some r=>
   rw[hq]at h;simp only[dq,aq]at h;rcases FN hq with h0|⟨k,hk,hm⟩
   ·exact .inl (by omega)
   ·exact .inr ⟨fun e=>by rw[e]at hk;simp at hk,k,hk,r,⟨n,hm⟩,h.symm⟩
theorem so{f g:Nat→Nat}{c a:Nat}:∀{l:List Nat},c∈l→(∀j∈l,f j≤g j)→f c+a≤g c→(l.map f).sum+a≤(l.map g).sum
 | [],h,_,_=>by simp at h
 |j::l,h,h1,h2=>by
  have hle:∀l':List Nat,(∀j∈l',f j≤g j)→(l'.map f).sum≤(l'.map g).sum:=by
   intro l'
   induction l' with
   |nil=>intro _;exact ai _
   |cons x l' ih=>
    intro hx;have:=hx x (by simp);have:=ih fun y hy=>hx y (by simp[hy]);simp only[cj,fS];omega
  simp only[cj,fS];simp only[aD]at h;rcases h with rfl|h
  ·have:=hle l fun y hy=>h1 y (by simp[hy]);omega
  ·have:=so h (fun y hy=>h1 y (by simp[hy])) h2;have:=h1 j (by simp);omega
open Classical in
theorem RN{t:List Ce}{w:Nat→Nat}{A B:Nat}(hA:∀j,j<t.length→fE t j≠ []→A≤w j)(hB:∀j,j<t.length→B≤w j)(hk:∀c k,k∈fE t c→k<t.length):
  ∀(d c:Nat),c<t.length→sW t c d→A*(d-1)+B≤((List.range t.length).map fun j=>if ∃e,e≤d∧sW t j e then w j else 0).sum:=by
 intro d
 induction d with
 |zero=>
  intro c _ ⟨n,hd⟩;have:=D5 hd;omega
 |succ d ih=>
  intro c hc hd;rcases hd.some_kid with h1|⟨hne,k,hkm,e,hke,Ir⟩
  ·have:=so (f:=fun _=>0) (g:=fun j=>if ∃e,e≤d+1∧sW t j e then w j else 0) (c:=c) (a:=B) (l:=List.range t.length) (by simpa using hc) (fun j _=>aM _) (by
    simp only[cz];rw[if_pos ⟨d+1,ai _,hd⟩];exact hB c hc)
   obtain rfl:d=0:=by omega
   simp at this⊢;omega
  ·obtain rfl:e=d:=by omega
   have h2:=ih k (hk c k hkm) hke;have h3:=so (f:=fun j=>if ∃e',e'≤e∧sW t j e' then w j else 0) (g:=fun j=>if ∃e',e'≤e+1∧sW t j e' then w j else 0) (c:=c) (a:=A) (l:=List.range t.length) (by simpa using hc) (fun j _=>by
    by_cases hj:∃e',e'≤e∧sW t j e'
    ·obtain⟨e',h4,h5⟩:=hj;rw[if_pos ⟨e',h4,h5⟩,if_pos ⟨e',by omega,h5⟩];exact ai _
    ·rw[if_neg hj];exact aM _) (by
    have qG:¬ ∃e',e'≤e∧sW t c e':=fun⟨e',h4,h5⟩=>by
     have:=hd.uniq h5;omega
    rw[if_neg qG,if_pos ⟨e+1,ai _,hd⟩,cz];exact hA c hc hne)
   obtain⟨n,hn⟩:=hke;have hp:=D5 hn;have e1:A*(e+1-1)=A*(e-1)+A:=by
    obtain⟨q,rfl⟩:∃q,e=q+1:=⟨e-1,by omega⟩;simp[fA]
   omega
theorem wY{t:List Ce}{c k:Nat}(h:k∈fE t c):k<t.length:=by
 unfold fE at h;obtain⟨x,_,hx⟩:=List.mem_filterMap.1 h;unfold qJ at hx;cases hn:iA x with
 |none=>rw[hn]at hx;simp at hx
 |some s=>
  rw[hn]at hx;exact Oy hx
open Classical in
theorem Le{t:List Ce}{c d:Nat}(hc:c<t.length)(h:sW t c d):d≤t.length:=by
 have h1:=RN (t:=t) (w:=fun _=>1) (A:=1) (B:=1) (fun _ _ _=>ai _) (fun _ _=>ai _) (fun c k hk=>wY hk) d c hc h;have h2:∀l:List Nat,(l.map fun j=>if ∃e,e≤d∧sW t j e then 1 else 0).sum≤l.length:=by
  intro l
  induction l with
  |nil=>exact ai _
  |cons x l ih=>
   simp only[cj,fS,aF];split<;>omega
 have:=h2 (List.range t.length);rw[dX]at this;omega
inductive MY(t:List Ce):Nat→Nat→Prop
 |one {a b:Nat}:b∈fE t a→MY t a b
 |more {a b c:Nat}:b∈fE t a→MY t b c→MY t a c
theorem MY.trans{t:List Ce}{a b c:Nat}(h:MY t a b)(g:MY t b c):MY t a c:=by
 induction h with
 |one h=>exact .more h g
 |more h _ ih=>exact .more h (ih g)
theorem MY.dep{t:List Ce}{a b d:Nat}(h:MY t a b)(hd:sW t a d):∃e,sW t b e∧e<d:=by
 induction h generalizing d with
 |one h=>exact hd.kid h
 |more h _ ih=>
  obtain⟨e,h1,h2⟩:=hd.kid h;obtain⟨e',h3,h4⟩:=ih h1;exact⟨e',h3,by omega⟩
theorem So{t:List Ce}{a d:Nat}(h:MY t a a):¬sW t a d:=fun hd=>by
 obtain⟨e,h1,h2⟩:=h.dep hd;have:=hd.uniq h1;omega
def cyc(t:List Ce):Prop:=∃c,c<t.length∧∀d,¬sW t c d
def Nu(t:List Ce):Prop:=∃c,c<t.length∧dep t 64 c=none
def jF(t:List Ce)(g:Nat→Int)(x:Im):Int:=
 if cC x=8∨cC x=45 then 1 else if cC x=9 then(if jg x=[]then 0 else 1)
 else if cC x=10∨cC x=11 then(match qJ t x with
  |some k=>g k*(aZ x).1*(aZ x).2
  |none=>0)else 0
def jY(t:List Ce):Nat→Nat→Int
 |0,_=>0
 |n+1,c=>((ln t c).map (jF t (jY t n))).sum
structure Sh where
 a:Int
 k:Int
 p:List Dp
abbrev LR:=Except Int (List Sh)
def iC{α:Type}(f:α→LR):List α→LR
 | []=>.ok []
 |a::l=>match f a with
  | .error e=>.error e
  | .ok s=>match iC f l with
   | .error e=>.error e
   | .ok s'=>.ok (s++s')
def iY:List (Sn×Sn)→Except Int (List Dp)
 | []=>.ok []
 |p::r=>if yZ p.1.nr∧yZ p.2.nr then(match iY r with
   | .ok l=>.ok (⟨p.1.nr,p.2.nr⟩::l)
   | .error e=>.error e)else .error 26
def h_(x:Im)(l:List (Sn×Sn)):LR:=match iY l with
 | .ok p=>.ok [⟨cD x 13 0,if cC x=45 then cD x 46 0 else cD x 14 0,p⟩]
 | .error e=>.error e
def farP(V:On)(p:Sn×Sn):Option (Sn×Sn):=
 if p.1.m≤2∧p.1.n≤2 then
  some (r2 (V.u0 p.1.n0 p.1.n1 p.2.n0 p.2.n1) (V.u1 p.1.n0 p.1.n1 p.2.n0 p.2.n1),r2 (V.v0 p.1.n0 p.1.n1 p.2.n0 p.2.n1) (V.v1 p.1.n0 p.1.n1 p.2.n0 p.2.n1))
 else if V.o % 2≠0∨V.b≠0∨V.d≠0 then none
 else some (V.farX p.1 p.2,V.farY p.1 p.2)
def ve(V:On):List (Sn×Sn)→List (Sn×Sn)×Bool
 | []=>([],true)
 |p::r=>match farP V p with
  |some q=>(q::(ve V r).1,(ve V r).2)
  |none=>([],false)
def CR(a b:Int):Rat:=Rat.divInt a b
def oA(of:Dp→Int)(p:List Dp)(eH rows i k:Int):Rat:=
 if p.length=3 then((of (p.getD 0 ⟨0,0⟩):Rat)+CR ((of (p.getD 1 ⟨0,0⟩)-of (p.getD 0 ⟨0,0⟩))*i) eH)+CR ((of (p.getD 2 ⟨0,0⟩)-of (p.getD 0 ⟨0,0⟩))*k) rows
 else(of (p.getD 0 ⟨0,0⟩):Rat)
def oB(x:Im)(i k:Int):On:=⟨oY x,gE x,jJ x,oA Dp.x (bu x) (aZ x).1 (aZ x).2 i k,0,oA Dp.y (bu x) (aZ x).1 (aZ x).2 i k,0⟩
def nR(t:List Ce)(n:Nat)(g:Nat→On→LR)(x:Im)(V:On):LR:=
 match qJ t x with
  |none=>.ok []
  |some c=>if jY t n c=0 then .ok []
   else iC (fun k:Nat=>iC (fun i:Nat=>g c ((oB x i k).then V)) (List.range (aZ x).1.toNat)) (List.range (aZ x).2.toNat)
def xW(V:On)(p:Dp):Sn×Sn:=(V.X p.x p.y,V.Y p.x p.y)
def jH(t:List Ce)(n:Nat)(g:Nat→On→LR)(V:On)(x:Im):LR:=
 if cC x=8∨cC x=45 then h_ x ((bu x).dropLast.map (xW V))
 else if cC x=9 then
  (if(ve V (jg x)).2=true then(if jg x=[]then .ok []else h_ x (ve V (jg x)).1)
   else match iY (ve V (jg x)).1 with
   | .ok _=>.error 25
   | .error e=>.error e)
 else if cC x=10∨cC x=11 then nR t n g x V
 else .ok []
def gB(t:List Ce):Nat→Nat→On→LR
 |0,_,_=>.ok []
 |n+1,c,V=>iC (jH t n (gB t n) V) (ln t c)
def rT(t:List Ce)(c:Nat):Bool:=(List.range t.length).any fun a=>(fE t a).contains c
def CP(t:List Ce):Bool:=acp t||t.any fun c=>c.i.any fun x=> !gQ x
def ou(t:List Ce)(c:Nat):Int:=if rT t c=true then 0 else jY t 64 c
def total(t:List Ce):Int:=((List.range t.length).map (ou t)).sum
def Gi(t:List Ce)(c:Nat):LR:=if rT t c=true then .ok []else gB t 64 c Es
def OK(t:List Ce):LR:=iC (Gi t) (List.range t.length)
open Classical in
noncomputable def yQ (t:List Ce) (n:Int):LR:=
 if lost t=true then .error 23 else if cyc t then .error 24 else if CP t=true∨Nu t then .error 25 else if total t>n then .error 27 else OK t
open Classical in
noncomputable def yP (t:Li) (n:Int):LR:=
 if n<0∨n>100000 then .error 1 else if oh t=false then .error 20 else yQ t.c n
theorem pC{p q:nJ (List Re)}{l x m:List Re}(h:fW p q l=some (x,m)):∃a b m1,p l=some (a,m1)∧q m1=some (b,m)∧x=a++b:=by
 unfold fW at h;split at h
 ·rename_i a m1 h1;split at h
  ·rename_i b m2 h2;simp only[aq,aI]at h;obtain⟨rfl,rfl⟩:=h;exact⟨a,b,m1,h1,h2,rfl⟩
  ·simp at h
 ·simp at h
theorem rp{k:Int}{ks:List Int}{l x m:List Re}(hk:0≤k∧k<256)(h:dk (k::ks) l=some (x,m)):∃r x',x=r::x'∧r.k=k∧gg r=true:=by
 unfold dk at h;rw[if_pos (.inl hk.2)]at h;split at h
 ·rename_i r m1 h1;split at h
  ·rename_i rs m2 h2;simp only[aq,aI]at h;obtain⟨rfl,rfl⟩:=h;obtain⟨_,h3,h4⟩:=fG h1;exact⟨r,rs,rfl,by omega,h4⟩
  ·simp at h
 ·simp at h
theorem g9.fields{x:Im}(h:g9 x):∃r f m,x.f=r::f∧o6 r.k=true∧fW (dk [r.k,294,303]) (gT r.k) (eP x)=some (x.f,m):=by
 obtain⟨h1,h2⟩:=h;cases hl:eP x with
 |nil=>rw[hl]at h1;simp[ec]at h1
 |cons r l=>
  rw[hl]at h1 h2;simp only[ec]at h1;unfold fV at h2;split at h2
  ·rename_i f m1 hf;obtain⟨⟨f',rfl⟩,g1⟩:=xy h1 hf;split at h2
   ·rename_i p m2 hp;split at h2
    ·rename_i r' m3 hm;simp only[aq,aI]at h2;obtain⟨rfl,rfl⟩:=h2;exact⟨r,f',m1,rfl,h1,hf⟩
    ·simp at h2
   ·simp at h2
  ·simp at h2
theorem g9.im{x:Im}(h:g9 x):qQ x:=by
 obtain⟨r,f,m,hf,_,hp⟩:=h.fields;exact⟨by rw[hf];simp,(fX (cU _) (pt _)).2 _ _ _ hp⟩
theorem g9.kind{x:Im}(h:g9 x):cC x=8∨cC x=9∨cC x=10∨cC x=11∨cC x=12∨cC x=21∨cC x=45:=by
 obtain⟨r,f,m,hf,hk,_⟩:=h.fields;unfold cC;rw[hf];simp only[o6,eu,ly]at hk;simp only[List.headD_cons];omega
theorem NR{l:List Re}{k:Int}(h:∃r∈l,r.k=k):∃r,l.find? (fun r=>r.k==k)=some r:=by
 obtain⟨r,hr,hk⟩:=h;cases hf:l.find? (fun r=>r.k==k)with
 |some q=>exact⟨q,rfl⟩
 |none=>
  have:=List.find?_eq_none.1 hf r hr;simp[hk]at this
theorem g9.ref{x:Im}(h:g9 x)(hk:cC x=10∨cC x=11):∃s,iA x=some s:=by
 obtain⟨r,f,m,hf,_,hp⟩:=h.fields;have hr:r.k=cC x:=by unfold cC;rw[hf];rfl
 obtain⟨a,b,m1,_,h2,hx⟩:=pC hp;have key:∀q,fW (dk [18]) q m1=some (b,m)→∃s,iA x=some s:=by
  intro q hq;obtain⟨c,d,m2,h3,_,rfl⟩:=pC hq;obtain⟨r',c',rfl,hk',_⟩:=rp (by decide) h3;obtain⟨s,hs⟩:=NR (l:=x.f) (k:=18) ⟨r',by rw[hx];simp,hk'⟩;exact⟨hZ s.b,by unfold iA dK;rw[hs];rfl⟩
 rcases hk with hk|hk<;>rw[hr,hk]at h2
 ·exact key _ h2
 ·exact key _ h2
def MJ(r:Re):Prop:=ke r.b
def Ya(c:Ce):Prop:=∀x∈c.i,∀r∈x.f,MJ r
theorem Xz{a b:Int}(ha:0≤a∧a<256)(hb:0≤b∧b<256): -32768≤SU a b∧SU a b≤32767:=by
 unfold SU;split<;>omega
theorem XB{a b c d:Int}(ha:0≤a∧a<256)(hb:0≤b∧b<256)(hc:0≤c∧c<256)(hd:0≤d∧d<256): -2147483648≤SW a b c d∧SW a b c d≤2147483647:=by
 unfold SW;split<;>omega
theorem Du:∀{l:List Int},ke l→∀z∈dM l,-32768≤z∧z≤32767
 | [],_,z,h=>by simp[dM]at h
 | [_],_,z,h=>by simp[dM]at h
 |a::b::r,hb,z,h=>by
  simp only[dM,aD]at h;rcases h with rfl|h
  ·exact Xz (hb a (by simp)) (hb b (by simp))
  ·exact Du (fun y hy=>hb y (by simp[hy])) z h
theorem Gq:∀{l:List Int},ke l→∀z∈e_ l,-2147483648≤z∧z≤2147483647
 | [],_,z,h=>by simp[e_]at h
 | [_],_,z,h=>by simp[e_]at h
 | [_,_],_,z,h=>by simp[e_]at h
 | [_,_,_],_,z,h=>by simp[e_]at h
 |a::b::c::d::r,hb,z,h=>by
  simp only[e_,aD]at h;rcases h with rfl|h
  ·exact XB (hb a (by simp)) (hb b (by simp)) (hb c (by simp)) (hb d (by simp))
  ·exact Gq (fun y hy=>hb y (by simp[hy])) z h
theorem FY{l:List Int}{A B:Int}(h:∀z∈l,A≤z∧z≤B)(h0:A≤0∧0≤B)(k:Nat):A≤l.getD k 0∧l.getD k 0≤B:=by
 rw[dZ];cases hk:l[k]? with
 |none=>simpa using h0
 |some z=>exact h z (aO hk)
theorem wP{x:Im}(h:∀r∈x.f,MJ r):(aZ x).1≤32767∧(aZ x).2≤32767:=by
 unfold aZ;cases hf:dK x 19 with
 |none=>exact⟨by decide,by decide⟩
 |some r=>
  have hb:=Du (h r (kL hf).1);have h0:=FY hb (by decide) 0;have h1:=FY hb (by decide) 1;simp only;refine⟨?_,h1.2⟩;cases hs:dM r.b with
  |nil=>simp
  |cons a l=>rw[hs]at h0;simpa using h0.2
theorem G0{A B:Int}:∀{l:List Int},(∀z∈l,A≤z∧z≤B)→∀d∈jA l,(A≤d.x∧d.x≤B)∧A≤d.y∧d.y≤B
 | [],_,d,h=>by simp[jA]at h
 | [_],_,d,h=>by simp[jA]at h
 |a::b::r,hb,d,h=>by
  simp only[jA,aD]at h;rcases h with rfl|h
  ·exact⟨hb a (by simp),hb b (by simp)⟩
  ·exact G0 (fun y hy=>hb y (by simp[hy])) d h
theorem uR{x:Im}(h:∀r∈x.f,MJ r):∀d∈bu x,(-2147483648≤d.x∧d.x≤2147483647)∧ -2147483648≤d.y∧d.y≤2147483647:=by
 unfold bu;cases hf:dK x 16 with
 |none=>intro d hd;simp at hd
 |some r=>exact G0 (Gq (h r (kL hf).1))
theorem oK{x:Im}(h:gQ x=true)(hk:cC x=10∨cC x=11):iU x=true∧0<(aZ x).1∧0<(aZ x).2∧((bu x).length=1∨(bu x).length=3):=by
 unfold gQ at h;rcases hk with hk|hk<;>rw[hk]at h<;>simp at h
 ·exact⟨h.1.1.1,h.1.1.2,h.1.2,.inl h.2⟩
 ·exact⟨h.1.1.1,h.1.1.2,h.1.2,.inr h.2⟩
theorem xC{x:Im}(h:gQ x=true)(hk:cC x=8∨cC x=45):4≤(bu x).length:=by
 unfold gQ at h;rcases hk with hk|hk<;>rw[hk]at h<;>simp at h
 ·exact h.1
 ·omega
theorem Je{x:Im}(h:iU x=true):lk x=false∧0<(jJ x).num.sign:=by
 unfold iU at h;simp only[aK,cF,dj]at h;exact⟨h.1,h.2.1⟩
theorem AA{t:List Ce}:∀{n c d:Nat},dep t n c=some d→jY t (n+1) c=jY t n c
 |0,c,d,h=>by simp[dep]at h
 |n+1,c,d,h=>by
  have hr:∃r,jG (dep t n) (fE t c) 0=some r:=by
   unfold dep at h;cases hq:jG (dep t n) (fE t c) 0 with
   |none=>rw[hq]at h;simp at h
   |some r=>exact⟨r,rfl⟩
  obtain⟨r,hr⟩:=hr;unfold jY;congr 1;refine nI fun x hx=>?_;unfold jF;cases hk:qJ t x with
  |none=>rfl
  |some k=>
   have hkm:k∈fE t c:=List.mem_filterMap.2 ⟨x,hx,hk⟩;obtain⟨e,he,_⟩:=(lT hr).2 k hkm;simp only;rw[AA he]
section
variable{N M K J:Nat}{p q r s:Rat}
theorem cq.int{z:Int}(h:z.natAbs≤K):cq 1 K (z:Rat):=⟨z,by rw[show((1:Nat):Rat)=1 from rfl,sP],h⟩
theorem cq.zero(N K:Nat):cq N K 0:=⟨0,by rw[Rat.zero_mul];rfl,aM _⟩
theorem zG{z:Int}(M:Nat)(h:z.natAbs≤K):cq M (M*K) (z:Rat):=by
 have:=(cq.int h).scale M
 rwa [fL]at this
theorem cq.mulI{z:Int}(hq:cq M K q)(h:z.natAbs≤J):cq M (K*J) (q*(z:Rat)):=by
 have:=hq.mul (cq.int h)
 rwa [fL]at this
theorem xY{z:Int}(h:0<z):cq z.toNat 1 (Rat.divInt 1 z):=⟨1,by
 have e:((z.toNat:Nat):Rat)=(z:Rat):=by
  have:((z.toNat:Nat):Int)=z:=nG (qp h)
  calc((z.toNat:Nat):Rat)=(((z.toNat:Nat):Int):Rat):=rfl
   _=(z:Rat):=by rw[this]
 have hne:(z:Rat)≠0:=fun e0=>by
  have:z=0:=Rat.intCast_inj.1 e0;omega
 rw[e,ir,lh,Rat.mul_assoc,Rat.inv_mul_cancel _ hne,sP],by decide⟩
end
def cS(N K:Nat)(S:Sn):Prop:=cq N K S.p∧cq N K S.q∧cq N K S.r∧cq N K S.s
theorem cS.neg{N K:Nat}{S:Sn}(h:cS N K S):cS N K S.neg:=⟨h.1.neg,h.2.1.neg,h.2.2.1.neg,h.2.2.2.neg⟩
structure MI(P:Sn×Sn):Prop where
 em:P.2.m=P.1.m
 en:P.2.n=P.1.n
 m0:0≤P.1.m
 n0:0≤P.1.n
 mb:P.1.m.natAbs<2^67
 nb:P.1.n.natAbs<2^67
 c:∃M,0<M∧M≤2^136∧cS M (2^170) P.1∧cS M (2^170) P.2
structure YP(M:Nat)(q:Pa):Prop where
 x:q.d.x.natAbs<2^34
 y:q.d.y.natAbs<2^34
 a:cq M (2^101) q.a
 b:cq M (2^101) q.b
 c:cq M (2^101) q.c
 e:cq M (2^101) q.e
theorem uf{M:Nat}(hM:M≤2^136){q r s:Rat}{d e:Int}(hq:cq M (2^167) q)(hr:cq M (2^101) r)(hs:cq M (2^101) s)(hd:d.natAbs<2^34)(he:e.natAbs<2^34):cq M (2^170) (q+r*(d:Rat)+s*(e:Rat)):=
 ((hq.add (hr.mulI (gd hd))).add (hs.mulI (gd he))).mono (by decide)
theorem pY{M:Nat}(hM:M≤2^136){q r:Rat}{d:Int}(hq:cq M (2^167) q)(hr:cq M (2^101) r)(hd:d.natAbs<2^34):cq M (2^170) (q+r*(d:Rat)):=
 (hq.add (hr.mulI (gd hd))).mono (by decide)
theorem JT{M:Nat}(hM:M≤2^136){z:Int}(h: -2147483648≤z∧z≤2147483648):cq M (2^167) (z:Rat):=
 (zG M (K:=2^31) (by show z.natAbs≤2147483648;omega)).mono (aP (aR hM (ai _)) (by decide))
theorem H7{M:Nat}(h0:0<M)(hM:M≤2^136){m n:Int}{p:Dp}{u v:Pa}(hm0:0≤m)(hn0:0≤n)(hm:m.natAbs<2^67)(hn:n.natAbs<2^67)(hp:iJ 2147483648 p)(hu:YP M u)(hv:YP M v):MI (al m n p [u,v]):=by
 unfold iJ at hp;have px:=JT hM (z:=p.x) (by omega);have py:=JT hM (z:=p.y) (by omega);have z0:=cq.zero M (2^167);exact⟨rfl,rfl,hm0,hn0,hm,hn,M,h0,hM,⟨uf hM px hu.a hv.a hu.x hv.x,uf hM z0 hu.b hv.b hu.x hv.x,uf hM z0 hu.c hv.c hu.x hv.x,uf hM z0 hu.e hv.e hu.x hv.x⟩,
  ⟨uf hM py hu.a hv.a hu.y hv.y,uf hM z0 hu.b hv.b hu.y hv.y,uf hM z0 hu.c hv.c hu.y hv.y,uf hM z0 hu.e hv.e hu.y hv.y⟩⟩
theorem Y6{M:Nat}(h0:0<M)(hM:M≤2^136){m n:Int}{p:Dp}{u:Pa}(hm0:0≤m)(hn0:0≤n)(hm:m.natAbs<2^67)(hn:n.natAbs<2^67)(hp:iJ 2147483648 p)(hu:YP M u):MI (al m n p [u]):=by
 unfold iJ at hp;have px:=JT hM (z:=p.x) (by omega);have py:=JT hM (z:=p.y) (by omega);have z0:=cq.zero M (2^167);exact⟨rfl,rfl,hm0,hn0,hm,hn,M,h0,hM,⟨pY hM px hu.a hu.x,pY hM z0 hu.b hu.x,pY hM z0 hu.c hu.x,pY hM z0 hu.e hu.x⟩,
  ⟨pY hM py hu.a hu.y,pY hM z0 hu.b hu.y,pY hM z0 hu.c hu.y,pY hM z0 hu.e hu.y⟩⟩
def Co(d:Dp):Nat:=2*(2*(ku d).toNat)
theorem EW{d e:Dp}{q:Rat}(hd:iJ 4294967296 d)(h0:0<ku d)(he:ku d=ku e)(hq:cq 2 (2^34) q):YP (Co e) (jK d q):=by
 have g:cq (Co e) (2^101) (q*Rat.divInt 1 (ku d)):=by
  have:=(hq.mul (xY h0)).scale 2;rw[he]at this⊢;exact this.mono (by decide)
 exact⟨(lC hd).1,(lC hd).2,cq.zero _ _,g,cq.zero _ _,cq.zero _ _⟩
theorem ES{d e:Dp}{q:Rat}(hd:iJ 4294967296 d)(h0:0<ku d)(he:ku d=ku e)(hq:cq 2 (2^34) q):YP (Co e) (lA d q):=by
 have g:cq (Co e) (2^101) (q*Rat.divInt 1 (ku d*2)):=by
  have:=hq.mul (xY (show 0<ku d*2 by omega));rw[show 2*(ku d*2).toNat=Co e by unfold Co;omega]at this;exact this.mono (by decide)
 exact⟨(lC hd).1,(lC hd).2,cq.zero _ _,cq.zero _ _,cq.zero _ _,g⟩
theorem US{p d:Dp}(hp:iJ 2147483648 p)(hd:iJ 4294967296 d)(h0:ku d≠0){h b:Rat}(hh:cq 2 (2^34) h)(hb:cq 2 (2^34) b)(r:Bool):∀P∈mg p d h b r,MI P:=by
 have hm:=BR hd;have ox:0<ku d:=by have:=wc d;omega
 have t1:=z9 hd;obtain⟨s1,s2⟩:=S3 d;have h2:(2:Int).natAbs<2^67:=by decide
 have g0:0<Co d:=by unfold Co;omega
 have gM:Co d≤2^136:=by
  have:(ku d).toNat<2^67:=by omega
  unfold Co;exact aP (aR (ai 2) (aR (ai 2) (gd this))) (by decide)
 have ud:=EW hd ox rfl hb;have uh:=EW hd ox rfl hh;have ul:=EW t1.1 (by rw[s1];exact ox) s1 hh;have ur:=EW t1.2.1 (by rw[s2];exact ox) s2 hh;have sd:=ES hd ox rfl hh;have sl:=ES t1.1 (by rw[s1];exact ox) s1 hh;have sr:=ES t1.2.1 (by rw[s2];exact ox) s2 hh;have e0:0≤ku d:=qp ox;have e2:(0:Int)≤2:=by decide
 intro P hP;unfold mg at hP;cases r with
 |false=>
  simp only[aD,iK,ea,aA,aC,bp]at hP;rcases hP with rfl|rfl
  ·exact H7 g0 gM e0 e2 hm h2 hp ud ul
  ·exact H7 g0 gM e0 e2 hm h2 hp ud ur
 |true=>
  simp only[aD,eV,ez,aC,bp]at hP;rcases hP with rfl|(rfl|rfl|rfl)|rfl
  ·exact H7 g0 gM e0 e2 hm h2 hp ud ul
  ·exact H7 g0 gM e0 e2 hm h2 hp sd sl
  ·exact Y6 g0 gM e0 e2 hm h2 hp uh
  ·exact H7 g0 gM e0 e2 hm h2 hp sd sr
  ·exact H7 g0 gM e0 e2 hm h2 hp ud ur
theorem Sg{p d e:Dp}(hp:iJ 2147483648 p)(hd:iJ 4294967296 d)(he:iJ 4294967296 e)(h0:qE (eX d) e≠0){h:Rat}(hh:cq 2 (2^34) h):MI (gn p d e h):=by
 have hm:=BR hd;have hn:=BR he;have ht:=CL hd he;have tl:=z9 hd;have te:=z9 he;have hc:=CL tl.1 he;obtain⟨C,hC⟩:∃C,C=qE (eX d) e*qE (eX d) e:=⟨_,rfl⟩;have hC0:0<C:=by
  rw[hC];rcases Int.lt_or_gt_of_ne h0 with h|h
  ·exact Int.mul_pos_of_neg_of_neg h h
  ·exact Int.mul_pos h h
 have hCb:C.toNat≤2^134:=by
  have e1:C.toNat=(qE (eX d) e).natAbs*(qE (eX d) e).natAbs:=by rw[←cK,←hC];omega
  rw[e1];exact aP (aR (gd hc) (gd hc)) (by decide)
 have hk:cq (2*C.toNat) (2^34) (h/(C:Rat)):=by
  have e1:h/(C:Rat)=h*Rat.divInt 1 C:=by
   rw[ir,lh,lh,show((1:Int):Rat)=1 from rfl,Rat.one_mul]
  rw[e1];exact hh.mul (xY hC0)
 rw[hC]at hk;have i1:∀{z:Int},z.natAbs<2^67→cq (2*C.toNat) (2^101) (h/((qE (eX d) e*qE (eX d) e:Int):Rat)*(z:Rat)):=fun hz=>by
  rw[←hC]at hk⊢;exact(hk.mulI (gd hz)).mono (by decide)
 have AU:(-(qE d e)).natAbs<2^67:=by rw[Int.natAbs_neg];exact ht
 exact H7 (by omega) (aP (aR (ai 2) hCb) (by decide)) (wc d) (wc e) hm hn hp ⟨(lC tl.1).1,(lC tl.1).2,cq.zero _ _,i1 hn,i1 AU,cq.zero _ _⟩ ⟨(lC te.1).1,(lC te.1).2,cq.zero _ _,i1 AU,i1 hm,cq.zero _ _⟩
theorem Be{h:Rat}(hh:cq 2 (2^34) h):∀(c w:List Dp),(∀p∈c,iJ 2147483648 p)→(∀d∈w,iJ 4294967296 d)→(∀(i:Nat) (d e:Dp),w[i]? =some d→w[i+1]? =some e→qE (eX d) e≠0)→∀P∈gH h c w,MI P
 |p::c,d::e::w,hc,hw,hx=>fun P hP=>by
  simp only[gH,aD]at hP;rcases hP with rfl|hP
  ·exact Sg (hc p (by simp)) (hw d (by simp)) (hw e (by simp)) (hx 0 d e rfl rfl) hh
  ·exact Be hh c (e::w) (fun q hq=>hc q (cX _ hq)) (fun q hq=>hw q (cX _ hq)) (fun i a b ha hb=>hx (i+1) a b ha hb) P hP
 | [],_,_,_,_=>fun P hP=>by simp[gH]at hP
 |_::_,[],_,_,_=>fun P hP=>by simp[gH]at hP
 |_::_,[_],_,_,_=>fun P hP=>by simp[gH]at hP
theorem Wb{w:Int}(h:1≤w∧w≤2147483647):cq 2 (2^34) (Rat.divInt w 2):=by
 have:=(xY (show(0:Int)<2 by decide)).mulI (z:=w) (J:=2^34) (by show w.natAbs≤17179869184;omega);have e:Rat.divInt 1 2*(w:Rat)=Rat.divInt w 2:=by
  rw[ir,ir,lh,lh,show((1:Int):Rat)=1 from rfl,Rat.one_mul,Rat.mul_comm]
 rw[e,lg]at this;exact this
theorem PT{c w:List Dp}(hf:KQ c w)(hw:0<w.length)(hb:¬ ∃(i:Nat) (d e:Dp),w[i]? =some d∧w[i+1]? =some e∧e=jl d)(hc:∀p∈c,iJ 2147483648 p){width kind bg en:Int}(h1:1≤width)(h2:width≤2147483647)(h3: -2147483647≤bg∧bg≤2147483647)(h4: -2147483647≤en∧en≤2147483647):∀P∈r_ c w width kind bg en,MI P:=by
 have hl:=hf.len;have np:∀(i:Nat) (d:Dp),w[i]? =some d→∃a b,a∈c∧b∈c∧a≠b∧d=gC a b:=fun i d hd=>by
  have hi:=(List.getElem?_eq_some_iff.1 hd).1;obtain⟨n1,e1⟩:=hf.way i _ _ d (ar (by omega)) (ar (by omega)) hd;exact⟨_,_,dW _,dW _,n1,e1⟩
 have Ol:∀(i:Nat) (d:Dp),w[i]? =some d→lV d=1:=fun i d hd=>by
  obtain⟨a,b,_,_,h,e⟩:=np i d hd;rw[e];exact Hc h
 have hin:∀d∈w,iJ 4294967296 d:=fun d hd=>by
  obtain⟨i,hi⟩:=mA hd;obtain⟨a,b,ha,hb,h,e⟩:=np i d hi;rw[e];exact QN (hc a ha) (hc b hb) h
 have E6:∀(i:Nat) (d e:Dp),w[i]? =some d→w[i+1]? =some e→qE (eX d) e≠0:=fun i d e hd he=>
  FM (Ol i d hd) (Ol (i+1) e he) (hf.turn i d e hd he) (fun h=>hb ⟨i,d,e,hd,he,h⟩)
 have hh:=Wb ⟨h1,h2⟩;have ei:∀z:Int,-2147483647≤z∧z≤2147483647→cq 2 (2^34) (z:Rat):=fun z hz=>(zG 2 (K:=2^31) (by show z.natAbs≤2147483648;omega)).mono (by decide);have e1:cq 2 (2^34) (oW kind bg en (Rat.divInt width 2)).1∧cq 2 (2^34) (oW kind bg en (Rat.divInt width 2)).2:=by
  unfold oW;split
  ·exact⟨hh,hh⟩
  ·split
   ·exact⟨ei bg h3,ei en h4⟩
   ·exact⟨cq.zero _ _,cq.zero _ _⟩
 have g0:∀k,k<c.length→iJ 2147483648 (c.getD k ⟨0,0⟩):=fun k hk=>by
  rw[dZ,ar hk];exact hc _ (dW _)
 have g1:∀k,k<w.length→iJ 4294967296 (w.getD k ⟨0,0⟩)∧ku (w.getD k ⟨0,0⟩)≠0:=fun k hk=>by
  rw[dZ,ar hk];exact⟨hin _ (dW _),Jc (En (Ol k _ (ar hk)))⟩
 have s0:ku (jl (w.getD 0 ⟨0,0⟩))≠0:=by
  have:=(g1 0 hw).2;unfold ku jl at*;simp only[s7];exact this
 have t0:=US (g0 0 (by omega)) (z9 (g1 0 hw).1).2.2 s0 hh e1.1 (kind==1);have t1:=US (g0 (c.length-1) (by omega)) (g1 (w.length-1) (by omega)).1 (g1 (w.length-1) (by omega)).2 hh e1.2 (kind==1);have ht:∀p∈c.tail,iJ 2147483648 p:=fun p hp=>hc p (List.mem_of_mem_tail hp);intro P hP;unfold r_ at hP;simp only[ez,List.mem_reverse]at hP;rcases hP with(((hP|hP)|hP)|hP)|hP
 ·exact t0 P (mB hP)
 ·exact Be hh _ _ ht hin E6 P hP
 ·exact t1 P hP
 ·exact Be hh.neg _ _ ht hin E6 P hP
 ·exact t0 P (dI hP)
theorem FK:∀(fH:List Dp) (s:List Dp×List Dp),(∀p∈fH,iJ 2147483648 p)→(∀p∈s.1,iJ 2147483648 p)→∀p∈(fH.foldl push s).1,iJ 2147483648 p
 | [],_,_,h=>h
 |q::r,s,hq,h=>FK r (push s q) (fun p hp=>hq p (cX _ hp)) (fun p hp=>by
  obtain⟨R,w⟩:=s
  match R,h with
  | [],h=>
   simp[push]at hp;subst hp;exact hq _ vE
  |l::R',h=>
   simp only[push]at hp;split at hp
   ·exact h p hp
   ·split at hp
    ·rcases List.mem_cons.1 hp with rfl|hp
     ·exact hq _ vE
     ·exact h p (cX _ hp)
    ·rcases List.mem_cons.1 hp with rfl|hp
     ·exact hq _ vE
     ·exact h p hp)
theorem Y7{ps:List Dp}{width kind bg en:Int}(h0:rl ps width kind bg en=0):(∀P∈r_ (iO ps).1.reverse (iO ps).2.reverse width kind bg en,MI P)∧(r_ (iO ps).1.reverse (iO ps).2.reverse width kind bg en).length≤40000:=by
 obtain⟨h8,hb,ho,hc2,ZB⟩:=LQ h0;have hok:j5 (iO ps).1 (iO ps).2:=zF ps ([],[]) rfl;have hne:(iO ps).1≠ []:=fun e=>by rw[e]at hc2;simp at hc2
 have hf:=NV hok hne;have hl:=hf.len;have hw:0<(iO ps).2.reverse.length:=by
  rw[fz]at hl;omega
 have hin:∀p∈(iO ps).1.reverse,iJ 2147483648 p:=fun p hp=>FK ps ([],[]) (Uq ho) (by simp) p (List.mem_reverse.1 hp);have hnb:¬ ∃(i:Nat) (d e:Dp),(iO ps).2.reverse[i]? =some d∧(iO ps).2.reverse[i+1]? =some e∧e=jl d:=fun h=>by
  rw[(Jt _).2 h]at ZB;simp at ZB
 obtain⟨_,w1,w2,w3,w4,w5,w6⟩:=Fo.1 hb;refine⟨PT hf hw hnb hin w1 w2 ⟨w3,w4⟩ ⟨w5,w6⟩,?_⟩;have JK:(iO ps).1.reverse.tail.length=(iO ps).2.reverse.length:=by rw[List.length_tail,hl];omega
 have hwl:(iO ps).2.reverse.length≤8191:=by
  have:=FL ps ([],[]);simp only[bE,cz]at this;rw[fz];exact aP this h8
 have a1:=xH ((iO ps).1.reverse.getD 0 ⟨0,0⟩) (jl ((iO ps).2.reverse.getD 0 ⟨0,0⟩)) (Rat.divInt width 2) (oW kind bg en (Rat.divInt width 2)).1 (kind==1);have a2:=xH ((iO ps).1.reverse.getD ((iO ps).1.reverse.length-1) ⟨0,0⟩) ((iO ps).2.reverse.getD ((iO ps).2.reverse.length-1) ⟨0,0⟩) (Rat.divInt width 2) (oW kind bg en (Rat.divInt width 2)).2 (kind==1);have m1:=o8 (Rat.divInt width 2) _ _ JK;have m2:=o8 (-(Rat.divInt width 2)) _ _ JK;unfold r_;simp only[az,fz,jC,dF]at a1 a2 m1 m2 hwl⊢;omega
theorem Xu{x:Im}:(∀P∈jg x,MI P)∧(jg x).length≤40000:=by
 unfold jg;split
 ·rename_i h;exact Y7 h.1
 ·exact⟨fun P hP=>by simp at hP,aM _⟩
def M(s:Rat)(e:Nat):Rat:=s*Ri (4*(78-(e:Int)))
def ebytes(neg:Bool)(e:Nat)(n:Int):List Int:=[(if neg then 128 else 0)+e,n/281474976710656 % 256,n/1099511627776 % 256,n/4294967296 % 256,n/16777216 % 256,n/65536 % 256,n/256 % 256,n % 256]
section
variable{Γ:List aE}{L:Nat}{fin:VS→List aE→Prop}
end
section
variable{Γ:List aE}{L:Nat}{fin:VS→List aE→Prop}
end
theorem ke.take{zs:List Int}(h:ke zs)(k:Nat):ke (zs.take k):=fun z hz=>h z (dI hz)
theorem Zo{zs:List Int}(h:zs.length=8):∃z0 z1 z2 z3 z4 z5 z6 z7,zs=[z0,z1,z2,z3,z4,z5,z6,z7]:=by
 match zs,h with
 | [_,_,_,_,_,_,_,_],_=>exact⟨_,_,_,_,_,_,_,_,rfl⟩
theorem Na{zs:List Int}(h:zs.length=8)(hb:ke zs):0≤be (zs.drop 1)∧be (zs.drop 1)<72057594037927936:=by
 obtain⟨z0,z1,z2,z3,z4,z5,z6,z7,rfl⟩:=Zo h;have b1:=hb z1 (by simp);have b2:=hb z2 (by simp);have b3:=hb z3 (by simp);have b4:=hb z4 (by simp);have b5:=hb z5 (by simp);have b6:=hb z6 (by simp);have b7:=hb z7 (by simp);simp only[be,List.drop_succ_cons,iq,oE,List.foldl_nil];omega
section
variable{Γ:List aE}{L:Nat}{fin:VS→List aE→Prop}
end
end Go.Proofs.YtgaaopjagcaojaaGreat
