import Derived.Test.YtgaaopjagcaojaaGreatVk
import Derived.Test.YtgaaopjagcaojaaGreatPo
import Derived.Deep.SlicePairs
import Derived.Test.YtgaaopjagcaojaaGreatNatU
set_option linter.unusedSimpArgs false
set_option linter.unusedVariables false
namespace Go.Proofs.YtgaaopjagcaojaaGreat
open Go.RowKit Go.ChangeShapes Go.WideShapes
def intOf:Value→Int
 | .int _ z=>z
 |_=>0
section
variable{H:Type}{enc:TypeId×Value→H}{P:Program}{w:World}
theorem MW{t e ti:TypeId}{f0 f1:Field}{c:Value}{n:Nat}{y:DataW H×List MemPlace}(ht:P.underlying t=some (.slice e))(he:P.underlying e=some (.struct #[f0,f1]))(hce:P.cellsOf e=2)
  (h0:f0.type=ti∧f0.offset=0)(h1:f1.type=ti∧f1.offset=1)(hi:P.underlying ti=some (.int .i64))(hci:P.cellsOf ti=1)(h:DataW.trod enc P w 0 (fun _=>true) true n t [c]=some y):
  ∃(ao:Option Addr) (n c':Nat) (fK:List Dp),c=.slice ao n c'∧n=fK.length∧n≤c'∧(∀p∈fK,(Lit.int .i64 p.x).wf=true∧(Lit.int .i64 p.y).wf=true)∧(RA ao (fK.flatMap d_)).p (fun _=>True) w:=by
 rcases Go.Deep.open_slice_pairs ht he hce h0.2 h1.2 (by rw[h0.1];exact hci) (by rw[h1.1];exact hci) h with⟨hcs,_⟩|⟨a,len,cap,m,n',V0,V1,D0,D1,P0,P1,hcs,_,hl,_,hm,_,hx⟩
 ·simp at hcs;subst hcs;exact⟨none,0,0,[],rfl,rfl,ai _,by simp,RA.nil _ _ _⟩
 ·simp at hcs;subst hcs;simp only[eW]at hm;subst hm;have hz:∀i,i<len→∃x y:Int,V0 i=.int .i64 x∧V1 i=.int .i64 y∧(Lit.int .i64 x).wf=true∧(Lit.int .i64 y).wf=true:=fun i hi'=>by
   obtain⟨_,_,g0,g1⟩:=hx i (by omega);rw[h0.1]at g0;rw[h1.1]at g1;obtain⟨x,ex,wx⟩:=tp hi g0;obtain⟨y,ey,wy⟩:=tp hi g1;exact⟨x,y,ex,ey,wx,wy⟩
  refine⟨some a,len,m,(List.range len).map fun i=>⟨intOf (V0 i),intOf (V1 i)⟩,rfl,by simp,hl,fun p hp=>?_,fun hne=>?_⟩
  ·obtain⟨i,hir,rfl⟩:=List.mem_map.1 hp;obtain⟨x,y,ex,ey,wx,wy⟩:=hz i (List.mem_range.1 hir);simp only[ex,ey,intOf];exact⟨wx,wy⟩
  ·have hpos:0<len:=by
    rcases Nat.eq_zero_or_pos len with h|h
    ·subst h;simp at hne
    ·exact h
   have hc0:=(hx 0 (by omega)).1;obtain⟨b,off,sp⟩:=a;have hsp:sp=none:=by
    simp only[Addr.add,ln,eW]at hc0;unfold World.cell? at hc0;split at hc0
    ·cases sp with
     |none=>rfl
     |some x=>simp at hc0
    ·simp at hc0
   subst hsp;refine⟨b,off,rfl,trivial,fun k v hv=>?_⟩;have hk:k<len*2:=by
    have:=(List.getElem?_eq_some_iff.1 hv).1;rw[nT]at this;simpa using this
   have hi2:k/2<len:=by omega
   obtain⟨x,y,ex,ey,_,_⟩:=hz (k/2) hi2;obtain⟨k0,k1,_,_⟩:=hx (k/2) (by omega);have hg:((List.range len).map fun i=>(⟨intOf (V0 i),intOf (V1 i)⟩:Dp))[k/2]? =some ⟨x,y⟩:=by
    simp[bN,nP hi2,ex,ey,intOf]
   rcases Nat.mod_two_eq_zero_or_one k with hm2|hm2
   ·have:=ek hg 0 (.int .i64 x) rfl;rw[show k/2*2+0=k by omega]at this;rw[this]at hv;injection hv with hv;rw[←hv];rw[gp,ex]at k0;rw[show off+k=off+k/2*2 by omega];exact k0
   ·have:=ek hg 1 (.int .i64 y) rfl;rw[show k/2*2+1=k by omega]at this;rw[this]at hv;injection hv with hv;rw[←hv];rw[gp,ey]at k1;rw[show off+k=off+(k/2*2+1)by omega];exact k1
end
structure Re where
 k:Int
 d:Int
 b:List Int
instance:Inhabited Re:=⟨⟨0,0,[]⟩⟩
structure Im where
 f:List Re
 p:List Re
instance:Inhabited Im:=⟨⟨[],[]⟩⟩
structure Ce where
 h:List Re
 i:List Im
instance:Inhabited Ce:=⟨⟨[],[]⟩⟩
structure Li where
 h:List Re
 c:List Ce
instance:Inhabited Li:=⟨⟨[],[]⟩⟩
structure Qk where
 data:Int
 part:Int
 least:Int
 most:Int
def E5(k:Int):Option Qk:=
 if k=0∨k=13∨k=14∨k=22∨k=33∨k=34∨k=42∨k=43∨k=46∨k=54∨k=57 then some ⟨2,2,1,1⟩
 else if k=1∨k=5 then some ⟨2,24,1,1⟩
 else if k=19 then some ⟨2,4,1,1⟩
 else if k=59 then some ⟨2,6,1,32⟩
 else if k=4∨k=7∨k=8∨k=9∨k=10∨k=11∨k=12∨k=17∨k=21∨k=45∨k=56 then some ⟨0,1,0,0⟩
 else if k=15∨k=47∨k=48∨k=49 then some ⟨3,4,1,1⟩
 else if k=16 then some ⟨3,8,1,8191⟩
 else if k=27∨k=28 then some ⟨5,8,1,1⟩
 else if k=3 then some ⟨5,16,1,1⟩
 else if k=23∨k=26∨k=38∨k=52 then some ⟨1,2,1,1⟩
 else if k=2∨k=25∨k=44∨k=55∨k=58 then some ⟨6,2,1,256⟩
 else if k=6∨k=18 then some ⟨6,2,1,16⟩
 else if k=35 then some ⟨6,44,1,1⟩
 else if k=32 then some ⟨6,176,1,1⟩
 else if k=31 then some ⟨6,44,1,17⟩
 else none
def ib(b:List Int):List Int:=if b.getLast?=some 0 then b.dropLast else b
def kE(c:Int):Bool:=(decide (65≤c)&&decide (c≤90))||(decide (97≤c)&&decide (c≤122))||(decide (48≤c)&&decide (c≤57))||(c==95||c==63||c==36)
def AW(k:Int):Bool:=k==2||k==25||k==44||k==55||k==58
def AV(k:Int):Bool:=k==6||k==18
def gh(r:Re):Bool:=
 match E5 r.k with
 |none=>false
 |some s=>r.d==s.data&&((r.b.length:Int) % s.part==0&&(decide (s.least≤(r.b.length:Int)/s.part)&&(decide ((r.b.length:Int)/s.part≤s.most)&&
   (if AW r.k then !(ib r.b).contains 0 else if AV r.k then(ib r.b).all kE else true))))
abbrev nR(α:Type):=List Re→Option (α×List Re)
def dR(k:Int)(l:List Re):Bool:=match l with
 |r::_=>r.k==k
 | []=>false
def gQ(k:Int):nR Re:=fun l=>match l with
 |r::m=>if r.k=k∧gh r=true then some (r,m)else none
 | []=>none
def dk:List Int→nR (List Re)
 | [],l=>some ([],l)
 |k::ks,l=>if k<256∨dR (k % 256) l=true then
   (match gQ (k % 256) l with
    |some (r,m)=>(match dk ks m with
     |some (rs,m')=>some (r::rs,m')
     |none=>none)
    |none=>none)
  else dk ks l
def fX(p q:nR (List Re)):nR (List Re):=fun l=>match p l with
 |some (a,m)=>(match q m with
  |some (b,m')=>some (a++b,m')
  |none=>none)
 |none=>none
def j_:nR (List Re):=fun l=>if dR 26 l=true then dk [26,283,284] l else some ([],l)
def gW(k:Int):nR (List Re):=
 if k=8 then dk [13,14,16]
 else if k=9 then dk [13,14,289,271,304,305,16]
 else if k=10 then fX (dk [18]) (fX j_ (dk [16]))
 else if k=11 then fX (dk [18]) (fX j_ (dk [19,16]))
 else if k=12 then fX (dk [13,22,279,289,271]) (fX j_ (dk [16,25]))
 else if k=21 then dk [13,42,16]
 else if k=45 then dk [13,46,16]
 else fun l=>some ([],l)
def eM:nR (List Re):=fun l=>match l with
 |r::_=>fX (dk [r.k,294,303]) (gW r.k) l
 | []=>none
def ff:Nat→nR (List Re)
 |0,l=>some ([],l)
 |n+1,l=>if dR 43 l=true then
   (match dk [43,44] l with
    |some (a,m)=>(match ff n m with
     |some (b,m')=>some (a++b,m')
     |none=>none)
    |none=>none)
  else some ([],l)
def fW:nR Im:=fun l=>match eM l with
 |some (f,m)=>(match ff m.length m with
  |some (p,m')=>(match gQ 17 m' with
   |some (_,Lo)=>some (⟨f,p⟩,Lo)
   |none=>none)
  |none=>none)
 |none=>none
def o6(k:Int):Bool:=k==8||k==9||k==10||k==11||k==12||k==21||k==45
def ec(l:List Re):Bool:=match l with
 |r::_=>o6 r.k
 | []=>false
def gg:Nat→nR (List Im)
 |0,l=>some ([],l)
 |n+1,l=>if ec l=true then
   (match fW l with
    |some (x,m)=>(match gg n m with
     |some (xs,m')=>some (x::xs,m')
     |none=>none)
    |none=>none)
  else some ([],l)
def pX:nR Ce:=fun l=>match dk [5,6,308] l with
 |some (h,m)=>(match gg m.length m with
  |some (i,m')=>(match gQ 7 m' with
   |some (_,Lo)=>some (⟨h,i⟩,Lo)
   |none=>none)
  |none=>none)
 |none=>none
def fI:Nat→nR (List Ce)
 |0,l=>some ([],l)
 |n+1,l=>if dR 5 l=true then
   (match pX l with
    |some (x,m)=>(match fI n m with
     |some (xs,m')=>some (x::xs,m')
     |none=>none)
    |none=>none)
  else some ([],l)
def fT:Nat→nR (List Re)
 |0,l=>some ([],l)
 |n+1,l=>if dR 55 l=true then
   (match gQ 55 l with
    |some (a,m)=>(match fT n m with
     |some (b,m')=>some (a::b,m')
     |none=>none)
    |none=>none)
  else some ([],l)
def og:nR (List Re):=fun l=>if dR 54 l=true then
  (match gQ 54 l with
   |some (a,m)=>(match fT m.length m with
    |some (b,m')=>if b=[]then some ([a],m')else
     (match gQ 56 m' with
      |some (e,Lo)=>some (a::(b++[e]),Lo)
      |none=>none)
    |none=>none)
   |none=>none)
 else some ([],l)
def pY:nR (List Re):=fX (dk [0,1,313,314,315,2,287,288,291,290]) (fX og (dk [3]))
def rY:nR Li:=fun l=>match pY l with
 |some (h,m)=>(match fI m.length m with
  |some (c,m')=>(match gQ 4 m' with
   |some (_,Lo)=>some (⟨h,c⟩,Lo)
   |none=>none)
  |none=>none)
 |none=>none
def iI(k:Int):Re:=⟨k,0,[]⟩
def eQ(x:Im):List Re:=x.f++(x.p++[iI 17])
def gi(c:Ce):List Re:=c.h++(c.i.flatMap eQ++[iI 7])
def jr(t:Li):List Re:=t.h++(t.c.flatMap gi++[iI 4])
def w_(x y:Im):Bool:=x.f.length==y.f.length&&x.p.length==y.p.length
def jS:List Im→List Im→Bool
 | [],[]=>true
 |x::l,y::m=>w_ x y&&jS l m
 |_,_=>false
def wZ(c d:Ce):Bool:=c.h.length==d.h.length&&jS c.i d.i
def jR:List Ce→List Ce→Bool
 | [],[]=>true
 |x::l,y::m=>wZ x y&&jR l m
 |_,_=>false
def Ge(t u:Li):Bool:=t.h.length==u.h.length&&jR t.c u.c
def valid(t:Li):Bool:=match rY (jr t)with
 |some (u,[])=>Ge t u
 |_=>false
theorem fJ{k:Int}{l m:List Re}{r:Re}(h:gQ k l=some (r,m)):l=r::m∧r.k=k∧gh r=true:=by
 unfold gQ at h;split at h
 ·split at h
  ·rename_i hk;simp only[aq,aI]at h;obtain⟨rfl,rfl⟩:=h;exact⟨rfl,hk⟩
  ·simp at h
 ·simp at h
def sJ{α:Type}(p:nR α)(fl:α→List Re):Prop:=∀l x m,p l=some (x,m)→l=fl x++m
def nS(p:nR (List Re)):Prop:=∀l x m,p l=some (x,m)→∀r∈x,gh r=true
theorem cU:∀ks,sJ (dk ks) id∧nS (dk ks)
 | []=>⟨fun l x m h=>by simp[dk]at h;simp[h],fun l x m h=>by simp[dk]at h;simp[h.1]⟩
 |k::ks=>by
  have ih:=cU ks;have key:∀l x m,dk (k::ks) l=some (x,m)→l=x++m∧∀r∈x,gh r=true:=by
   intro l x m h;unfold dk at h;split at h
   ·split at h
    ·rename_i r m1 hm;split at h
     ·rename_i rs m2 hr;simp only[aq,aI]at h;obtain⟨rfl,rfl⟩:=h;obtain⟨rfl,_,hrr⟩:=fJ hm;have e1:=ih.1 _ _ _ hr;have e2:=ih.2 _ _ _ hr;simp only[id]at e1;subst e1;refine⟨rfl,fun r hr=>?_⟩;rcases List.mem_cons.1 hr with rfl|hr
      ·exact hrr
      ·exact e2 r hr
     ·simp at h
    ·simp at h
   ·exact⟨ih.1 _ _ _ h,ih.2 _ _ _ h⟩
  exact⟨fun l x m h=>(key l x m h).1,fun l x m h=>(key l x m h).2⟩
theorem fY{p q:nR (List Re)}(hp:sJ p id∧nS p)(hq:sJ q id∧nS q):sJ (fX p q) id∧nS (fX p q):=by
 have key:∀l x m,fX p q l=some (x,m)→l=x++m∧∀r∈x,gh r=true:=by
  intro l x m h;unfold fX at h;split at h
  ·rename_i a m1 ha;split at h
   ·rename_i b m2 hb;simp only[aq,aI]at h;obtain⟨rfl,rfl⟩:=h;have e1:=hp.1 _ _ _ ha;have e2:=hq.1 _ _ _ hb;simp only[id]at e1 e2;subst e1 e2;refine⟨by simp,fun r hr=>?_⟩;rcases List.mem_append.1 hr with hr|hr
    ·exact hp.2 _ _ _ ha r hr
    ·exact hq.2 _ _ _ hb r hr
   ·simp at h
  ·simp at h
 exact⟨fun l x m h=>(key l x m h).1,fun l x m h=>(key l x m h).2⟩
theorem o_:sJ (fun l=>some (([]:List Re),l)) id∧nS (fun l=>some ([],l)):=
 ⟨fun l x m h=>by simp at h;simp[h],fun l x m h=>by simp at h;simp[h.1]⟩
theorem kF:sJ j_ id∧nS j_:=by
 refine⟨fun l x m h=>?_,fun l x m h=>?_⟩<;>unfold j_ at h<;>split at h
 ·exact(cU _).1 _ _ _ h
 ·exact o_.1 _ _ _ h
 ·exact(cU _).2 _ _ _ h
 ·exact o_.2 _ _ _ h
theorem pr(k:Int):sJ (gW k) id∧nS (gW k):=by
 unfold gW
 repeat' split
 ·exact cU _
 ·exact cU _
 ·exact fY (cU _) (fY kF (cU _))
 ·exact fY (cU _) (fY kF (cU _))
 ·exact fY (cU _) (fY kF (cU _))
 ·exact cU _
 ·exact cU _
 ·exact o_
theorem EC:sJ eM id∧nS eM:=by
 refine⟨fun l x m h=>?_,fun l x m h=>?_⟩<;>unfold eM at h<;>split at h
 ·exact(fY (cU _) (pr _)).1 _ _ _ h
 ·simp at h
 ·exact(fY (cU _) (pr _)).2 _ _ _ h
 ·simp at h
theorem zc:∀n,sJ (ff n) id∧nS (ff n)
 |0=>o_
 |n+1=>by
  have ih:=zc n;have:=fY (cU [43,44]) ih;refine⟨fun l x m h=>?_,fun l x m h=>?_⟩<;>unfold ff at h<;>split at h
  ·exact this.1 _ _ _ h
  ·exact o_.1 _ _ _ h
  ·exact this.2 _ _ _ h
  ·exact o_.2 _ _ _ h
theorem zH{k:Int}{r:Re}(hk:k=17∨k=7∨k=4)(h:r.k=k)(hr:gh r=true):r=iI k:=by
 obtain⟨rk,rd,rb⟩:=r;simp only at h;subst h;have hs:E5 rk=some ⟨0,1,0,0⟩:=by rcases hk with rfl|rfl|rfl<;>rfl
 simp only[gh,hs,aK,lx,dj]at hr;obtain⟨h1,_,_,h4,_⟩:=hr;have:rb.length=0:=by omega
 unfold iI;rw[h1,aL this]
theorem vK{k:Int}(hk:k=17∨k=7∨k=4):gh (iI k)=true:=by rcases hk with rfl|rfl|rfl<;>decide
theorem rW:sJ fW eQ:=by
 intro l x m h;unfold fW at h;split at h
 ·rename_i f m1 hf;split at h
  ·rename_i p m2 hp;split at h
   ·rename_i r m3 hm;simp only[aq,aI]at h;obtain⟨rfl,rfl⟩:=h;obtain⟨rfl,hk,hr⟩:=fJ hm;have e1:=EC.1 _ _ _ hf;have e2:=(zc _).1 _ _ _ hp;simp only[id]at e1 e2;rw[e1,e2,zH (.inl rfl) hk hr];simp[eQ]
   ·simp at h
  ·simp at h
 ·simp at h
theorem t_:∀n,sJ (gg n) (List.flatMap eQ)
 |0=>fun l x m h=>by simp[gg]at h;obtain⟨rfl,rfl⟩:=h;simp
 |n+1=>fun l x m h=>by
  unfold gg at h;split at h
  ·split at h
   ·rename_i y m1 hy;split at h
    ·rename_i ys m2 VQ;simp only[aq,aI]at h;obtain⟨rfl,rfl⟩:=h;have e1:=rW _ _ _ hy;have e2:=t_ n _ _ _ VQ;rw[e1,e2];simp
    ·simp at h
   ·simp at h
  ·simp at h;obtain⟨rfl,rfl⟩:=h;simp
theorem rV:sJ pX gi:=by
 intro l x m h;unfold pX at h;split at h
 ·rename_i f m1 hf;split at h
  ·rename_i p m2 hp;split at h
   ·rename_i r m3 hm;simp only[aq,aI]at h;obtain⟨rfl,rfl⟩:=h;obtain⟨rfl,hk,hr⟩:=fJ hm;have e1:=(cU _).1 _ _ _ hf;have e2:=(t_ _) _ _ _ hp;simp only[id]at e1 e2;rw[e1,e2,zH (.inr (.inl rfl)) hk hr];simp[gi]
   ·simp at h
  ·simp at h
 ·simp at h
theorem y9:∀n,sJ (fI n) (List.flatMap gi)
 |0=>fun l x m h=>by simp[fI]at h;obtain⟨rfl,rfl⟩:=h;simp
 |n+1=>fun l x m h=>by
  unfold fI at h;split at h
  ·split at h
   ·rename_i y m1 hy;split at h
    ·rename_i ys m2 VQ;simp only[aq,aI]at h;obtain⟨rfl,rfl⟩:=h;have e1:=rV _ _ _ hy;have e2:=y9 n _ _ _ VQ;rw[e1,e2];simp
    ·simp at h
   ·simp at h
  ·simp at h;obtain⟨rfl,rfl⟩:=h;simp
theorem ue:∀n,sJ (fT n) id∧nS (fT n)
 |0=>o_
 |n+1=>by
  have ih:=ue n;have key:∀l x m,fT (n+1) l=some (x,m)→l=x++m∧∀r∈x,gh r=true:=by
   intro l x m h;unfold fT at h;split at h
   ·split at h
    ·rename_i r m1 hm;split at h
     ·rename_i rs m2 hr;simp only[aq,aI]at h;obtain⟨rfl,rfl⟩:=h;obtain⟨rfl,_,hrr⟩:=fJ hm;have e1:=ih.1 _ _ _ hr;have e2:=ih.2 _ _ _ hr;simp only[id]at e1;subst e1;refine⟨rfl,fun r hr=>?_⟩;rcases List.mem_cons.1 hr with rfl|hr
      ·exact hrr
      ·exact e2 r hr
     ·simp at h
    ·simp at h
   ·simp at h;obtain⟨rfl,rfl⟩:=h;simp
  exact⟨fun l x m h=>(key l x m h).1,fun l x m h=>(key l x m h).2⟩
theorem Bu:sJ og id∧nS og:=by
 have key:∀l x m,og l=some (x,m)→l=x++m∧∀r∈x,gh r=true:=by
  intro l x m h;unfold og at h;split at h
  ·split at h
   ·rename_i a m1 ha;obtain⟨rfl,_,hra⟩:=fJ ha;split at h
    ·rename_i b m2 hb;have e1:=(ue _).1 _ _ _ hb;have e2:=(ue _).2 _ _ _ hb;simp only[id]at e1;subst e1;split at h
     ·rename_i hb0;simp only[aq,aI]at h;obtain⟨rfl,rfl⟩:=h;subst hb0;exact⟨rfl,fun r hr=>by simp at hr;subst hr;exact hra⟩
     ·split at h
      ·rename_i e m3 he;simp only[aq,aI]at h;obtain⟨rfl,rfl⟩:=h;obtain⟨rfl,_,VL⟩:=fJ he;refine⟨by simp,fun r hr=>?_⟩;simp only[aD,ez,aC,bp]at hr;rcases hr with rfl|hr|rfl
       ·exact hra
       ·exact e2 r hr
       ·exact VL
      ·simp at h
    ·simp at h
   ·simp at h
  ·simp at h;obtain⟨rfl,rfl⟩:=h;simp
 exact⟨fun l x m h=>(key l x m h).1,fun l x m h=>(key l x m h).2⟩
theorem IN:sJ pY id∧nS pY:=fY (cU _) (fY Bu (cU _))
theorem LG:sJ rY jr:=by
 intro l x m h;unfold rY at h;split at h
 ·rename_i f m1 hf;split at h
  ·rename_i p m2 hp;split at h
   ·rename_i r m3 hm;simp only[aq,aI]at h;obtain⟨rfl,rfl⟩:=h;obtain⟨rfl,hk,hr⟩:=fJ hm;have e1:=IN.1 _ _ _ hf;have e2:=(y9 _) _ _ _ hp;simp only[id]at e1 e2;rw[e1,e2,zH (.inr (.inr rfl)) hk hr];simp[jr]
   ·simp at h
  ·simp at h
 ·simp at h
theorem Ob{x y:Im}{a b:List Re}(h:w_ x y=true)(e:eQ x++a=eQ y++b):x=y∧a=b:=by
 obtain⟨xf,xp⟩:=x;obtain⟨yf,yp⟩:=y;simp only[w_,aK,lx]at h;simp only[eQ,aU]at e;obtain⟨rfl,e1⟩:=List.append_inj e h.1;obtain⟨rfl,e2⟩:=List.append_inj e1 h.2;exact⟨rfl,by simpa using e2⟩
theorem C0:∀{l m:List Im} {a b:List Re},jS l m=true→l.flatMap eQ++a=m.flatMap eQ++b→l=m∧a=b
 | [],[],a,b,_,e=>⟨rfl,by simpa using e⟩
 | [],y::m,_,_,h,_=>by simp[jS]at h
 |x::l,[],_,_,h,_=>by simp[jS]at h
 |x::l,y::m,a,b,h,e=>by
  simp only[jS,aK]at h;simp only[bj,aU]at e;obtain⟨rfl,e1⟩:=Ob h.1 e;obtain⟨rfl,e2⟩:=C0 h.2 e1;exact⟨rfl,e2⟩
theorem Oa{x y:Ce}{a b:List Re}(h:wZ x y=true)(e:gi x++a=gi y++b):x=y∧a=b:=by
 obtain⟨xf,xp⟩:=x;obtain⟨yf,yp⟩:=y;simp only[wZ,aK,lx]at h;simp only[gi,aU]at e;obtain⟨rfl,e1⟩:=List.append_inj e h.1;obtain⟨rfl,e2⟩:=C0 h.2 e1;exact⟨rfl,by simpa using e2⟩
theorem CZ:∀{l m:List Ce} {a b:List Re},jR l m=true→l.flatMap gi++a=m.flatMap gi++b→l=m∧a=b
 | [],[],a,b,_,e=>⟨rfl,by simpa using e⟩
 | [],y::m,_,_,h,_=>by simp[jR]at h
 |x::l,[],_,_,h,_=>by simp[jR]at h
 |x::l,y::m,a,b,h,e=>by
  simp only[jR,aK]at h;simp only[bj,aU]at e;obtain⟨rfl,e1⟩:=Oa h.1 e;obtain⟨rfl,e2⟩:=CZ h.2 e1;exact⟨rfl,e2⟩
theorem RD{x y:Li}{a b:List Re}(h:Ge x y=true)(e:jr x++a=jr y++b):x=y∧a=b:=by
 obtain⟨xf,xp⟩:=x;obtain⟨yf,yp⟩:=y;simp only[Ge,aK,lx]at h;simp only[jr,aU]at e;obtain⟨rfl,e1⟩:=List.append_inj e h.1;obtain⟨rfl,e2⟩:=CZ h.2 e1;exact⟨rfl,by simpa using e2⟩
theorem y7:∀l,jS l l=true
 | []=>rfl
 |x::l=>by simp[jS,w_,y7 l]
theorem y6:∀l,jR l l=true
 | []=>rfl
 |x::l=>by simp[jR,wZ,y7,y6 l]
theorem LZ{t:Li}:valid t=true↔rY (jr t)=some (t,[]):=by
 unfold valid;constructor
 ·intro h;split at h
  ·rename_i u hu;have e:=LG _ _ _ hu;rw[af]at e;obtain⟨rfl,_⟩:=RD (a:=[]) (b:=[]) h (by simpa using e);exact hu
  ·simp at h
 ·intro h;rw[h];simp[Ge,y6]
def Aa(K:List Int)(m m':List Re):Prop:=∀k∈K,dR k m=dR k m'
def XU(K:List Int){α:Type}(p:nR α)(fl:α→List Re):Prop:=∀l x m m',p l=some (x,m)→Aa K m m'→p (fl x++m')=some (x,m')
def HI{α:Type}(p:nR α)(fl:α→List Re):Prop:=∀l x m m',p l=some (x,m)→p (fl x++m')=some (x,m')
theorem ug{x m m':List Re}{k:Int}(h:x=[]→dR k m=dR k m'):dR k (x++m)=dR k (x++m'):=by
 cases x with
 |nil=>exact h rfl
 |cons r x=>rfl
theorem Aa.app{K:List Int}{x m m':List Re}(h:x=[]→Aa K m m'):Aa K (x++m) (x++m'):=fun k hk=>ug (fun e=>h e k hk)
theorem k7{k:Int}{r:Re}{m:List Re}(h1:r.k=k)(h2:gh r=true):gQ k (r::m)=some (r,m):=by simp[gQ,h1,h2]
theorem pA:∀(ks:List Int) {K:List Int},(∀k∈ks,¬k<256→k % 256∈K)→XU K (dk ks) id
 | [],K,_=>fun l x m m' h _=>by simp[dk]at h;obtain⟨rfl,rfl⟩:=h;rfl
 |k::ks,K,hK=>fun l x m m' h ha=>by
  have ih:=pA ks (K:=K) (fun k hk=>hK k (cX _ hk));have el:=(cU (k::ks)).1 _ _ _ h;simp only[id]at el⊢;unfold dk at h;split at h
  ·rename_i hc;split at h
   ·rename_i r m1 hm;split at h
    ·rename_i rs m2 hr;simp only[aq,aI]at h;obtain⟨rfl,rfl⟩:=h;obtain⟨rfl,hk,hrr⟩:=fJ hm;have:=ih _ _ _ m' hr ha;unfold dk;rw[if_pos (by rcases hc with hc|hc;exact .inl hc;exact .inr hc),dO,k7 hk hrr];simp only[id]at this;simp only[this]
    ·simp at h
   ·simp at h
  ·rename_i hc;have:=ih _ _ _ m' h ha;unfold dk;rw[if_neg ?_]
   ·exact this
   ·intro hn;rcases hn with hn|hn
    ·exact hc (.inl hn)
    ·apply hc;refine .inr ?_;rw[el];rw[ug (x:=x) (m:=m) (m':=m') (fun _=>ha _ (hK k (by simp) (fun h=>hc (.inl h))))];exact hn
theorem ik:∀(ks:List Int) (k:Int),k<256→HI (dk (ks++[k])) id∧∀l x m,dk (ks++[k]) l=some (x,m)→x≠ []
 | [],k,hk=>by
  refine⟨fun l x m m' h=>?_,fun l x m h=>?_⟩
  ·simp only[aA,dk,hk,true_or,eW]at h⊢;split at h
   ·rename_i r m1 hm;simp only[aq,aI]at h;obtain⟨rfl,rfl⟩:=h;obtain⟨rfl,hk,hrr⟩:=fJ hm;simp only[id,dO,aA,k7 hk hrr]
   ·simp at h
  ·simp only[aA,dk,hk,true_or,eW]at h;split at h
   ·simp only[aq,aI]at h;rw[←h.1];simp
   ·simp at h
 |j::ks,k,hk=>by
  have ih:=ik ks k hk;have key:∀l x m m',dk (j::(ks++[k])) l=some (x,m)→dk (j::(ks++[k])) (x++m')=some (x,m')∧x≠ []:=by
   intro l x m m' h;have el:=(cU (j::(ks++[k]))).1 _ _ _ h;simp only[id]at el;unfold dk at h;split at h
   ·rename_i hc;split at h
    ·rename_i r m1 hm;split at h
     ·rename_i rs m2 hr;simp only[aq,aI]at h;obtain⟨rfl,rfl⟩:=h;obtain⟨rfl,hk,hrr⟩:=fJ hm;have:=ih.1 _ _ _ m' hr;simp only[id]at this;refine⟨?_,by simp⟩;unfold dk;rw[if_pos (by rcases hc with hc|hc;exact .inl hc;exact .inr hc),dO,k7 hk hrr];simp only[this]
     ·simp at h
    ·simp at h
   ·rename_i hc;have h1:=ih.1 _ _ _ m' h;have h2:=ih.2 _ _ _ h;refine⟨?_,h2⟩;unfold dk;rw[if_neg ?_]
    ·exact h1
    ·intro hn;rcases hn with hn|hn
     ·exact hc (.inl hn)
     ·apply hc;refine .inr ?_;rw[el,ug (x:=x) (m:=m) (m':=m') (fun e=>absurd e h2)];exact hn
  exact⟨fun l x m m' h=>(key l x m m' h).1,fun l x m h=>(key l x m m h).2⟩
theorem kM{K:List Int}{p q:nR (List Re)}(hqe:sJ q id)(hp:XU K p id)(hq:HI q id∧∀l x m,q l=some (x,m)→x≠ []):HI (fX p q) id∧∀l x m,fX p q l=some (x,m)→x≠ []:=by
 have key:∀l x m m',fX p q l=some (x,m)→fX p q (x++m')=some (x,m')∧x≠ []:=by
  intro l x m m' h;unfold fX at h⊢;split at h
  ·rename_i a m1 h1;split at h
   ·rename_i b m2 h2;simp only[aq,aI]at h;obtain⟨rfl,rfl⟩:=h;have e2:=hqe _ _ _ h2;simp only[id]at e2;subst e2;have hb:=hq.2 _ _ _ h2;have g2:=hq.1 _ _ _ m' h2;have g1:=hp _ _ _ (b++m') h1 (Aa.app fun e=>absurd e hb);simp only[id]at g1 g2;rw[aU,g1];simp only[g2];exact⟨trivial,by simp[hb]⟩
   ·simp at h
  ·simp at h
 exact⟨fun l x m m' h=>(key l x m m' h).1,fun l x m h=>(key l x m m h).2⟩
theorem HI.loc{K:List Int}{α:Type}{p:nR α}{fl:α→List Re}(h:HI p fl):XU K p fl:=fun l x m m' hl _=>h l x m m' hl
theorem vW:XU [26,27,28] j_ id:=fun l x m m' h ha=>by
 have el:=kF.1 _ _ _ h;simp only[id]at el⊢;unfold j_ at h⊢;split at h
 ·rename_i hs;have hx:x≠ []:=by
   rintro rfl;have:=ik [] 26 (by decide);unfold dk at h;simp only[true_or,eW,show(26:Int)<256 by decide]at h;split at h
   ·split at h<;>simp at h
   ·simp at h
  rw[←ug (x:=x) (m:=m) (m':=m') (fun e=>absurd e hx),←el,if_pos hs];exact pA [26,283,284] (K:=[26,27,28]) (by decide) _ _ _ m' h ha
 ·rename_i hs;simp only[aq,aI]at h;obtain⟨rfl,rfl⟩:=h;rw[if_neg (by rw[aA,←ha 26 (by simp)];exact hs)];rfl
theorem IM{k:Int}(hk:o6 k=true):HI (gW k) id∧∀l x m,gW k l=some (x,m)→x≠ []:=by
 simp only[o6,eu,lx]at hk;rcases hk with(((((rfl|rfl)|rfl)|rfl)|rfl)|rfl)|rfl
 ·exact ik [13,14] 16 (by decide)
 ·exact ik [13,14,289,271,304,305] 16 (by decide)
 ·exact kM (K:=[26,27,28]) (fY kF (cU _)).1 (ik [] 18 (by decide)).1.loc (kM (cU _).1 vW (ik [] 16 (by decide)))
 ·exact kM (K:=[26,27,28]) (fY kF (cU _)).1 (ik [] 18 (by decide)).1.loc (kM (cU _).1 vW (ik [19] 16 (by decide)))
 ·exact kM (K:=[23,33,15]) (fY kF (cU _)).1 (pA _ (by decide)) (kM (cU _).1 vW (ik [16] 25 (by decide)))
 ·exact ik [13,42] 16 (by decide)
 ·exact ik [13,46] 16 (by decide)
theorem xw{r:Re}{l x m:List Re}(hk:o6 r.k=true)(h:eM (r::l)=some (x,m)):(∃x',x=r::x')∧∀m',eM (x++m')=some (x,m'):=by
 unfold eM at h;simp only at h;have hs:=kM (K:=[38,47]) (p:=dk [r.k,294,303]) (pr r.k).1 (pA _ (by
  intro k h1 h2;simp only[aD,aC,bp]at h1;rcases h1 with rfl|rfl|rfl
  ·exfalso
   apply h2;simp only[o6,eu,lx]at hk;omega
  ·decide
  ·decide)) (IM hk)
 have he:=(fY (cU [r.k,294,303]) (pr r.k)).1 _ _ _ h;simp only[id]at he;cases x with
 |nil=>exact absurd rfl (hs.2 _ _ _ h)
 |cons y x=>
  rw[dO]at he;injection he with e1 e2;subst e1;refine⟨⟨x,rfl⟩,fun m'=>?_⟩;have:=hs.1 _ _ _ m' h;simp only[id]at this;unfold eM;exact this
theorem uN{a b:Int}{l x m:List Re}(ha:a<256)(h:dk [a,b] l=some (x,m)):m.length<l.length:=by
 have e:=(cU [a,b]).1 _ _ _ h;simp only[id]at e;have hx:x≠ []:=by
  rintro rfl;unfold dk at h;simp only[ha,true_or,eW]at h;split at h
  ·split at h<;>simp at h
  ·simp at h
 rw[e,az];cases x with
 |nil=>exact absurd rfl hx
 |cons r x=>simp
theorem zd:∀(n n':Nat) (l:List Re),l.length≤n→l.length≤n'→ff n l=ff n' l
 |0,0,l,_,_=>rfl
 |0,n'+1,l,h,_=>by
  have:l=[]:=aL (by omega);subst this;simp[ff,dR]
 |n+1,0,l,_,h=>by
  have:l=[]:=aL (by omega);subst this;simp[ff,dR]
 |n+1,n'+1,l,h,h'=>by
  unfold ff;split
  ·split
   ·rename_i a m hm;have:=uN (by decide) hm;rw[zd n n' m (by omega) (by omega)]
   ·rfl
  ·rfl
theorem BE:∀n,∀l x m m',l.length≤n→ff n l=some (x,m)→Aa [43] m m'→∀n',(x++m').length≤n'→ff n' (x++m')=some (x,m')
 |0,l,x,m,m',hl,h,ha,n',hn=>by
  have:l=[]:=aL (by omega);subst this;simp[ff]at h;obtain⟨rfl,rfl⟩:=h;cases n' with
  |zero=>rfl
  |succ n'=>
   unfold ff;rw[aA,if_neg (by rw[←ha 43 (by simp)];decide)]
 |n+1,l,x,m,m',hl,h,ha,n',hn=>by
  unfold ff at h;split at h
  ·rename_i hs;split at h
   ·rename_i a m1 h1;split at h
    ·rename_i b m2 h2;simp only[aq,aI]at h;obtain⟨rfl,rfl⟩:=h;have e1:=(cU _).1 _ _ _ h1;simp only[id]at e1;subst e1;have hlen:=uN (by decide) h1;have ih:=BE n m1 b _ m' (by simp only[az]at hl hlen;omega) h2 ha;have g1:=(ik [43] 44 (by decide)).1 _ _ _ (b++m') h1;simp only[id]at g1;have ha0:a≠ []:=(ik [43] 44 (by decide)).2 _ _ _ h1;have hpos:0<a.length:=List.length_pos_iff.2 ha0;cases n' with
     |zero=>simp only[az]at hn;omega
     |succ n'=>
      unfold ff;rw[aU,ug (x:=a) (m:=b++m') (m':=m1) (fun e=>absurd e ha0),if_pos hs];rw[show dk [43,44] (a++(b++m'))=some (a,b++m')from g1];simp only;rw[ih n' (by simp only[az]at hn⊢;omega)]
    ·simp at h
   ·simp at h
  ·rename_i hs;simp only[aq,aI]at h;obtain⟨rfl,rfl⟩:=h;cases n' with
   |zero=>
    rfl
   |succ n'=>
    unfold ff;rw[aA,if_neg (by rw[←ha 43 (by simp)];exact hs)]
def hZ(x:Im):Prop:=ec (eQ x)=true∧fW (eQ x)=some (x,[])
theorem Bw{l m:List Re}{x:Im}(hs:ec l=true)(h:fW l=some (x,m)):ec (eQ x)=true∧∀m',fW (eQ x++m')=some (x,m'):=by
 cases l with
 |nil=>simp[ec]at hs
 |cons r l=>
  simp only[ec]at hs;unfold fW at h;split at h
  ·rename_i f m1 hf;obtain⟨⟨f',rfl⟩,g1⟩:=xw hs hf;split at h
   ·rename_i p m2 hp;split at h
    ·rename_i r' m3 hm;simp only[aq,aI]at h;obtain⟨rfl,rfl⟩:=h;obtain⟨rfl,hk,hr⟩:=fJ hm;refine⟨by simpa [eQ,ec]using hs,fun m'=>?_⟩;have g2:=BE _ _ _ _ (iI 17::m') (ai _) hp (fun k hk'=>by simp only[aD,aC,bp]at hk';subst hk';simp[dR,iI,hk]) _ (ai _);unfold fW;rw[show eQ ⟨r::f',p⟩++m'=(r::f')++(p++(iI 17::m'))by simp[eQ],g1];simp only;rw[g2];simp only;rw[k7 (k:=17) (r:=iI 17) rfl (vK (.inl rfl))]
    ·simp at h
   ·simp at h
  ·simp at h
theorem Lk{l m:List Re}{x:Im}(hs:ec l=true)(h:fW l=some (x,m)):hZ x:=by
 obtain⟨h1,h2⟩:=Bw hs h;exact⟨h1,by simpa using h2 []⟩
theorem hZ.go{x:Im}(h:hZ x)(m:List Re):ec (eQ x++m)=true∧fW (eQ x++m)=some (x,m):=by
 refine⟨?_,(Bw h.1 h.2).2 m⟩;have:=h.1;cases hf:eQ x with
 |nil=>rw[hf]at this;simp[ec]at this
 |cons r l=>rw[hf]at this;exact this
theorem qV(x:Im):eQ x≠ []:=by simp[eQ]
theorem Dg:∀n l xs m,l.length≤n→gg n l=some (xs,m)→(∀x∈xs,hZ x)∧ec m=false
 |0,l,xs,m,hl,h=>by
  have:l=[]:=aL (by omega);subst this;simp[gg]at h;obtain⟨rfl,rfl⟩:=h;exact⟨by simp,rfl⟩
 |n+1,l,xs,m,hl,h=>by
  unfold gg at h;split at h
  ·rename_i hs;split at h
   ·rename_i y m1 hy;split at h
    ·rename_i ys m2 VQ;simp only[aq,aI]at h;obtain⟨rfl,rfl⟩:=h;have e:=rW _ _ _ hy;have hlen:m1.length<l.length:=by
      rw[e,az];have:=List.length_pos_iff.2 (qV y);omega
     obtain⟨g1,g2⟩:=Dg n m1 ys _ (by omega) VQ;refine⟨fun x hx=>?_,g2⟩;rcases List.mem_cons.1 hx with rfl|hx
     ·exact Lk hs hy
     ·exact g1 x hx
    ·simp at h
   ·simp at h
  ·rename_i hs;simp only[aq,aI]at h;obtain⟨rfl,rfl⟩:=h;exact⟨by simp,by simpa using hs⟩
theorem Df:∀(xs:List Im) (n:Nat) (m:List Re),(∀x∈xs,hZ x)→ec m=false→(xs.flatMap eQ++m).length≤n→gg n (xs.flatMap eQ++m)=some (xs,m)
 | [],n,m,_,hm,hn=>by
  cases n with
  |zero=>rfl
  |succ n=>
   unfold gg;simp only[iL,aA];rw[if_neg (by rw[hm];decide)]
 |x::xs,n,m,hx,hm,hn=>by
  obtain⟨h1,h2⟩:=hZ.go (hx x (by simp)) (xs.flatMap eQ++m);have hpos:=List.length_pos_iff.2 (qV x);cases n with
  |zero=>simp at hn;exact absurd hn.1 (qV x)
  |succ n=>
   unfold gg;rw[bj,aU,if_pos h1,h2];simp only;rw[Df xs n m (fun y hy=>hx y (cX _ hy)) hm (by simp only[bj,az]at hn⊢;omega)]
def zA(h:List Re):Prop:=dk [5,6,308] (h++[iI 7])=some (h,[iI 7])
def vH(c:Ce):Prop:=zA c.h∧∀x∈c.i,hZ x
theorem Sk{l:List Re}{k:Int}(hs:ec l=true)(hk:o6 k=false):dR k l=false:=by
 cases l with
 |nil=>rfl
 |cons r l=>
  simp only[ec]at hs;simp only[dR,fE];rintro rfl;rw[hs]at hk;simp at hk
theorem Ar{xs:List Im}{m:List Re}(hx:∀x∈xs,hZ x):dR 52 (xs.flatMap eQ++iI 7::m)=false:=by
 cases xs with
 |nil=>rfl
 |cons x xs=>
  rw[bj,aU];exact Sk ((hx x (by simp)).go _).1 (by decide)
theorem Pg{l m:List Re}{c:Ce}(h:pX l=some (c,m)):vH c:=by
 unfold pX at h;split at h
 ·rename_i f m1 hf;split at h
  ·rename_i p m2 hp;split at h
   ·rename_i r m3 hm;simp only[aq,aI]at h;obtain⟨rfl,rfl⟩:=h;obtain⟨rfl,hk,hr⟩:=fJ hm;have hpo:=(Dg _ _ _ _ (ai _) hp).1;have e2:=t_ _ _ _ _ hp;have hr7:=zH (.inr (.inl rfl)) hk hr;refine⟨?_,hpo⟩;refine pA [5,6,308] (K:=[52]) (by decide) _ _ _ _ hf (fun k hk'=>?_);simp only[aD,aC,bp]at hk';subst hk';rw[e2,hr7,Ar hpo];rfl
   ·simp at h
  ·simp at h
 ·simp at h
theorem zA.shape{h:List Re}(hh:zA h):∃r l,h=r::l∧r.k=5:=by
 unfold zA dk at hh;simp only[true_or,eW,show(5:Int)<256 by decide]at hh;split at hh
 ·rename_i r m hm;obtain⟨e,hk,_⟩:=fJ hm;split at hh
  ·simp only[aq,aI]at hh;exact⟨r,_,hh.1.symm,hk⟩
  ·simp at hh
 ·simp at hh
theorem vH.go{c:Ce}(h:vH c)(m:List Re):dR 5 (gi c++m)=true∧pX (gi c++m)=some (c,m):=by
 obtain⟨ch,ci⟩:=c;obtain⟨h1,h2⟩:=h;simp only at h1 h2;obtain⟨r,l,rfl,hk⟩:=h1.shape;refine⟨by simp[gi,dR,hk],?_⟩;unfold pX;have g1:=pA [5,6,308] (K:=[52]) (by decide) _ _ _ (ci.flatMap eQ++iI 7::m) h1 (fun k hk'=>by
  simp only[aD,aC,bp]at hk';subst hk';rw[Ar h2];rfl)
 simp only[id]at g1;rw[show gi ⟨r::l,ci⟩++m=(r::l)++(ci.flatMap eQ++iI 7::m)by simp[gi],g1];simp only;rw[Df ci _ _ h2 rfl (ai _)];simp only;rw[k7 (k:=7) (r:=iI 7) rfl (vK (.inr (.inl rfl)))]
theorem qU(x:Ce):gi x≠ []:=by simp[gi]
theorem De:∀n l xs m,l.length≤n→fI n l=some (xs,m)→(∀x∈xs,vH x)∧dR 5 m=false
 |0,l,xs,m,hl,h=>by
  have:l=[]:=aL (by omega);subst this;simp[fI]at h;obtain⟨rfl,rfl⟩:=h;exact⟨by simp,rfl⟩
 |n+1,l,xs,m,hl,h=>by
  unfold fI at h;split at h
  ·rename_i hs;split at h
   ·rename_i y m1 hy;split at h
    ·rename_i ys m2 VQ;simp only[aq,aI]at h;obtain⟨rfl,rfl⟩:=h;have e:=rV _ _ _ hy;have hlen:m1.length<l.length:=by
      rw[e,az];have:=List.length_pos_iff.2 (qU y);omega
     obtain⟨g1,g2⟩:=De n m1 ys _ (by omega) VQ;refine⟨fun x hx=>?_,g2⟩;rcases List.mem_cons.1 hx with rfl|hx
     ·exact Pg hy
     ·exact g1 x hx
    ·simp at h
   ·simp at h
  ·rename_i hs;simp only[aq,aI]at h;obtain⟨rfl,rfl⟩:=h;exact⟨by simp,by simpa using hs⟩
theorem Dd:∀(xs:List Ce) (n:Nat) (m:List Re),(∀x∈xs,vH x)→dR 5 m=false→(xs.flatMap gi++m).length≤n→fI n (xs.flatMap gi++m)=some (xs,m)
 | [],n,m,_,hm,hn=>by
  cases n with
  |zero=>rfl
  |succ n=>
   unfold fI;simp only[iL,aA];rw[if_neg (by rw[hm];decide)]
 |x::xs,n,m,hx,hm,hn=>by
  obtain⟨h1,h2⟩:=vH.go (hx x (by simp)) (xs.flatMap gi++m);cases n with
  |zero=>simp at hn;exact absurd hn.1 (qU x)
  |succ n=>
   unfold fI;rw[bj,aU,if_pos h1,h2];simp only;have hpos:=List.length_pos_iff.2 (qU x);rw[Dd xs n m (fun y hy=>hx y (cX _ hy)) hm (by simp only[bj,az]at hn⊢;omega)]
def NC(h:List Re):Prop:=pY h=some (h,[])
theorem zb:∀(n n':Nat) (l:List Re),l.length≤n→l.length≤n'→fT n l=fT n' l
 |0,0,l,_,_=>rfl
 |0,n'+1,l,h,_=>by
  have:l=[]:=aL (by omega);subst this;simp[fT,dR]
 |n+1,0,l,_,h=>by
  have:l=[]:=aL (by omega);subst this;simp[fT,dR]
 |n+1,n'+1,l,h,h'=>by
  unfold fT;split
  ·split
   ·rename_i a m hm;have:=(fJ hm).1;subst this;simp only[aF]at h h';rw[zb n n' m (by omega) (by omega)]
   ·rfl
  ·rfl
theorem vV:∀n,∀l x m m',l.length≤n→fT n l=some (x,m)→Aa [55] m m'→∀n',(x++m').length≤n'→fT n' (x++m')=some (x,m')
 |0,l,x,m,m',hl,h,ha,n',hn=>by
  have:l=[]:=aL (by omega);subst this;simp[fT]at h;obtain⟨rfl,rfl⟩:=h;cases n' with
  |zero=>rfl
  |succ n'=>
   unfold fT;rw[aA,if_neg (by rw[←ha 55 (by simp)];decide)]
 |n+1,l,x,m,m',hl,h,ha,n',hn=>by
  unfold fT at h;split at h
  ·rename_i hs;split at h
   ·rename_i a m1 h1;split at h
    ·rename_i b m2 h2;simp only[aq,aI]at h;obtain⟨rfl,rfl⟩:=h;obtain⟨rfl,hk,hr⟩:=fJ h1;simp only[aF]at hl;have ih:=vV n m1 b _ m' (by omega) h2 ha;cases n' with
     |zero=>simp at hn
     |succ n'=>
      unfold fT;rw[dO,if_pos (by simp[dR,hk]),k7 hk hr];simp only;rw[ih n' (by simpa using hn)]
    ·simp at h
   ·simp at h
  ·rename_i hs;simp only[aq,aI]at h;obtain⟨rfl,rfl⟩:=h;cases n' with
   |zero=>rfl
   |succ n'=>
    unfold fT;rw[aA,if_neg (by rw[←ha 55 (by simp)];exact hs)]
theorem LD:XU [54,55] og id:=fun l x m m' h ha=>by
 unfold og at h;split at h
 ·rename_i hs;split at h
  ·rename_i a m1 h1;obtain⟨rfl,hk,hr⟩:=fJ h1;split at h
   ·rename_i b m2 h2;split at h
    ·rename_i hb;simp only[aq,aI]at h;obtain⟨rfl,rfl⟩:=h;subst hb;have g:=vV _ _ _ _ m' (ai _) h2 (fun k hk'=>ha k (by simp only[aD,aC,bp]at hk'⊢;exact .inr hk')) m'.length (by simp);unfold og;simp only[id,dO,aA]at g⊢;rw[if_pos (by simp[dR,hk]),k7 hk hr];simp only[g,eW]
    ·rename_i hb;split at h
     ·rename_i e m3 h3;obtain⟨rfl,hk3,hr3⟩:=fJ h3;simp only[aq,aI]at h;obtain⟨rfl,rfl⟩:=h;have g:=vV _ _ _ _ (e::m') (ai _) h2 (fun k hk'=>by simp[dR]) (b++e::m').length (ai _);unfold og;simp only[id,dO,aU,aA]at g⊢;rw[if_pos (by simp[dR,hk]),k7 hk hr];simp only[g];rw[if_neg hb,k7 hk3 hr3]
     ·simp at h
   ·simp at h
  ·simp at h
 ·rename_i hs;simp only[aq,aI]at h;obtain⟨rfl,rfl⟩:=h;unfold og;simp only[id,aA];rw[if_neg (by rw[←ha 54 (by simp)];exact hs)]
theorem Bv:HI pY id∧∀l x m,pY l=some (x,m)→x≠ []:=
 kM (K:=[57,58,59,31,32,35,34]) (fY Bu (cU _)).1 (pA _ (by decide)) (kM (cU _).1 LD (ik [] 3 (by decide)))
theorem uo{t:Li}:valid t=true↔NC t.h∧∀c∈t.c,vH c:=by
 rw[LZ];obtain⟨th,tc⟩:=t;constructor
 ·intro h;unfold rY at h;split at h
  ·rename_i f m1 hf;split at h
   ·rename_i p m2 hp;split at h
    ·rename_i r m3 hm;simp only[aq,aI,Li.mk.injEq]at h;obtain⟨⟨rfl,rfl⟩,rfl⟩:=h;refine⟨?_,(De _ _ _ _ (ai _) hp).1⟩;have:=Bv.1 _ _ _ [] hf;simpa [NC]using this
    ·simp at h
   ·simp at h
  ·simp at h
 ·rintro⟨h1,h2⟩;simp only at h1 h2;unfold rY;have g1:=Bv.1 _ _ _ (tc.flatMap gi++[iI 4]) h1;simp only[id]at g1;simp only[jr];rw[g1];simp only;rw[Dd tc _ _ h2 rfl (ai _)];simp only;rw[k7 (k:=4) (r:=iI 4) rfl (vK (.inr (.inr rfl)))]
end Go.Proofs.YtgaaopjagcaojaaGreat
