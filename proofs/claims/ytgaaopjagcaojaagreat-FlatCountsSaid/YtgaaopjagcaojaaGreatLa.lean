import Derived.Test.YtgaaopjagcaojaaGreatVk
import Derived.Test.YtgaaopjagcaojaaGreatPo
import Derived.Deep.SlicePairs
import Derived.Test.YtgaaopjagcaojaaGreatNatU
set_option linter.unusedSimpArgs false
set_option linter.unusedVariables false
namespace Go.Proofs.YtgaaopjagcaojaaGreat
open Go.RowKit Go.ChangeShapes Go.WideShapes
def intOf:Value→Int
 | .int _ z=>z
 |_=>0
section
variable{H:Type}{enc:TypeId×Value→H}{P:Program}{w:World}
end
structure Re where
 k:Int
 d:Int
 b:List Int
instance:Inhabited Re:=⟨⟨0,0,[]⟩⟩
structure Im where
 f:List Re
 p:List Re
instance:Inhabited Im:=⟨⟨[],[]⟩⟩
structure Ce where
 h:List Re
 i:List Im
instance:Inhabited Ce:=⟨⟨[],[]⟩⟩
structure Li where
 h:List Re
 c:List Ce
instance:Inhabited Li:=⟨⟨[],[]⟩⟩
structure QA where
 data:Int
 part:Int
 least:Int
 most:Int
def EK(k:Int):Option QA:=
 if k=0∨k=13∨k=14∨k=22∨k=33∨k=34∨k=42∨k=43∨k=46∨k=54∨k=57 then some ⟨2,2,1,1⟩
 else if k=1∨k=5 then some ⟨2,24,1,1⟩
 else if k=19 then some ⟨2,4,1,1⟩
 else if k=59 then some ⟨2,6,1,32⟩
 else if k=4∨k=7∨k=8∨k=9∨k=10∨k=11∨k=12∨k=17∨k=21∨k=45∨k=56 then some ⟨0,1,0,0⟩
 else if k=15∨k=47∨k=48∨k=49 then some ⟨3,4,1,1⟩
 else if k=16 then some ⟨3,8,1,8191⟩
 else if k=27∨k=28 then some ⟨5,8,1,1⟩
 else if k=3 then some ⟨5,16,1,1⟩
 else if k=23∨k=26∨k=38∨k=52 then some ⟨1,2,1,1⟩
 else if k=2∨k=25∨k=44∨k=55∨k=58 then some ⟨6,2,1,256⟩
 else if k=6∨k=18 then some ⟨6,2,1,16⟩
 else if k=35 then some ⟨6,44,1,1⟩
 else if k=32 then some ⟨6,176,1,1⟩
 else if k=31 then some ⟨6,44,1,17⟩
 else none
def gK(b:List Int):List Int:=if b.getLast?=some 0 then b.dropLast else b
def km(c:Int):Bool:=(decide (65≤c)&&decide (c≤90))||(decide (97≤c)&&decide (c≤122))||(decide (48≤c)&&decide (c≤57))||(c==95||c==63||c==36)
def DT(k:Int):Bool:=k==2||k==25||k==44||k==55||k==58
def DS(k:Int):Bool:=k==6||k==18
def gp(r:Re):Bool:=
 match EK r.k with
 |none=>false
 |some s=>r.d==s.data&&((r.b.length:Int) % s.part==0&&(decide (s.least≤(r.b.length:Int)/s.part)&&(decide ((r.b.length:Int)/s.part≤s.most)&&
   (if DT r.k then !(gK r.b).contains 0 else if DS r.k then(gK r.b).all km else true))))
abbrev nu(α:Type):=List Re→Option (α×List Re)
def dN(k:Int)(l:List Re):Bool:=match l with
 |r::_=>r.k==k
 | []=>false
def gY(k:Int):nu Re:=fun l=>match l with
 |r::m=>if r.k=k∧gp r=true then some (r,m)else none
 | []=>none
def dC:List Int→nu (List Re)
 | [],l=>some ([],l)
 |k::ks,l=>if k<256∨dN (k % 256) l=true then
   (match gY (k % 256) l with
    |some (r,m)=>(match dC ks m with
     |some (rs,m')=>some (r::rs,m')
     |none=>none)
    |none=>none)
  else dC ks l
def fV(p q:nu (List Re)):nu (List Re):=fun l=>match p l with
 |some (a,m)=>(match q m with
  |some (b,m')=>some (a++b,m')
  |none=>none)
 |none=>none
def j0:nu (List Re):=fun l=>if dN 26 l=true then dC [26,283,284] l else some ([],l)
def gP(k:Int):nu (List Re):=
 if k=8 then dC [13,14,16]
 else if k=9 then dC [13,14,289,271,304,305,16]
 else if k=10 then fV (dC [18]) (fV j0 (dC [16]))
 else if k=11 then fV (dC [18]) (fV j0 (dC [19,16]))
 else if k=12 then fV (dC [13,22,279,289,271]) (fV j0 (dC [16,25]))
 else if k=21 then dC [13,42,16]
 else if k=45 then dC [13,46,16]
 else fun l=>some ([],l)
def eJ:nu (List Re):=fun l=>match l with
 |r::_=>fV (dC [r.k,294,303]) (gP r.k) l
 | []=>none
def eU:Nat→nu (List Re)
 |0,l=>some ([],l)
 |n+1,l=>if dN 43 l=true then
   (match dC [43,44] l with
    |some (a,m)=>(match eU n m with
     |some (b,m')=>some (a++b,m')
     |none=>none)
    |none=>none)
  else some ([],l)
def fT:nu Im:=fun l=>match eJ l with
 |some (f,m)=>(match eU m.length m with
  |some (p,m')=>(match gY 17 m' with
   |some (_,Lo)=>some (⟨f,p⟩,Lo)
   |none=>none)
  |none=>none)
 |none=>none
def oP(k:Int):Bool:=k==8||k==9||k==10||k==11||k==12||k==21||k==45
def dX(l:List Re):Bool:=match l with
 |r::_=>oP r.k
 | []=>false
def fQ:Nat→nu (List Im)
 |0,l=>some ([],l)
 |n+1,l=>if dX l=true then
   (match fT l with
    |some (x,m)=>(match fQ n m with
     |some (xs,m')=>some (x::xs,m')
     |none=>none)
    |none=>none)
  else some ([],l)
def pO:nu Ce:=fun l=>match dC [5,6,308] l with
 |some (h,m)=>(match fQ m.length m with
  |some (i,m')=>(match gY 7 m' with
   |some (_,Lo)=>some (⟨h,i⟩,Lo)
   |none=>none)
  |none=>none)
 |none=>none
def fz:Nat→nu (List Ce)
 |0,l=>some ([],l)
 |n+1,l=>if dN 5 l=true then
   (match pO l with
    |some (x,m)=>(match fz n m with
     |some (xs,m')=>some (x::xs,m')
     |none=>none)
    |none=>none)
  else some ([],l)
def fJ:Nat→nu (List Re)
 |0,l=>some ([],l)
 |n+1,l=>if dN 55 l=true then
   (match gY 55 l with
    |some (a,m)=>(match fJ n m with
     |some (b,m')=>some (a::b,m')
     |none=>none)
    |none=>none)
  else some ([],l)
def nJ:nu (List Re):=fun l=>if dN 54 l=true then
  (match gY 54 l with
   |some (a,m)=>(match fJ m.length m with
    |some (b,m')=>if b=[]then some ([a],m')else
     (match gY 56 m' with
      |some (e,Lo)=>some (a::(b++[e]),Lo)
      |none=>none)
    |none=>none)
   |none=>none)
 else some ([],l)
def pP:nu (List Re):=fV (dC [0,1,313,314,315,2,287,288,291,290]) (fV nJ (dC [3]))
def rJ:nu Li:=fun l=>match pP l with
 |some (h,m)=>(match fz m.length m with
  |some (c,m')=>(match gY 4 m' with
   |some (_,Lo)=>some (⟨h,c⟩,Lo)
   |none=>none)
  |none=>none)
 |none=>none
def l_(k:Int):Re:=⟨k,0,[]⟩
def fD(x:Im):List Re:=x.f++(x.p++[l_ 17])
def fS(c:Ce):List Re:=c.h++(c.i.flatMap fD++[l_ 7])
def iH(t:Li):List Re:=t.h++(t.c.flatMap fS++[l_ 4])
def wK(x y:Im):Bool:=x.f.length==y.f.length&&x.p.length==y.p.length
def jE:List Im→List Im→Bool
 | [],[]=>true
 |x::l,y::m=>wK x y&&jE l m
 |_,_=>false
def wJ(c d:Ce):Bool:=c.h.length==d.h.length&&jE c.i d.i
def jD:List Ce→List Ce→Bool
 | [],[]=>true
 |x::l,y::m=>wJ x y&&jD l m
 |_,_=>false
def F5(t u:Li):Bool:=t.h.length==u.h.length&&jD t.c u.c
def nk(t:Li):Bool:=match rJ (iH t)with
 |some (u,[])=>F5 t u
 |_=>false
theorem fA{k:Int}{l m:List Re}{r:Re}(h:gY k l=some (r,m)):l=r::m∧r.k=k∧gp r=true:=by
 unfold gY at h;split at h
 ·split at h
  ·rename_i hk;simp only[au,aF]at h;obtain⟨rfl,rfl⟩:=h;exact⟨rfl,hk⟩
  ·simp at h
 ·simp at h
def sk{α:Type}(p:nu α)(fl:α→List Re):Prop:=∀l x m,p l=some (x,m)→l=fl x++m
def nv(p:nu (List Re)):Prop:=∀l x m,p l=some (x,m)→∀r∈x,gp r=true
theorem cT:∀ks,sk (dC ks) id∧nv (dC ks)
 | []=>⟨fun l x m h=>by simp[dC]at h;simp[h],fun l x m h=>by simp[dC]at h;simp[h.1]⟩
 |k::ks=>by
  have ih:=cT ks;have key:∀l x m,dC (k::ks) l=some (x,m)→l=x++m∧∀r∈x,gp r=true:=by
   intro l x m h;unfold dC at h;split at h
   ·split at h
    ·rename_i r m1 hm;split at h
     ·rename_i rs m2 hr;simp only[au,aF]at h;obtain⟨rfl,rfl⟩:=h;obtain⟨rfl,_,hrr⟩:=fA hm;have e1:=ih.1 _ _ _ hr;have e2:=ih.2 _ _ _ hr;simp only[id]at e1;subst e1;refine⟨rfl,fun r hr=>?_⟩;rcases List.mem_cons.1 hr with rfl|hr
      ·exact hrr
      ·exact e2 r hr
     ·simp at h
    ·simp at h
   ·exact⟨ih.1 _ _ _ h,ih.2 _ _ _ h⟩
  exact⟨fun l x m h=>(key l x m h).1,fun l x m h=>(key l x m h).2⟩
theorem fL{p q:nu (List Re)}(hp:sk p id∧nv p)(hq:sk q id∧nv q):sk (fV p q) id∧nv (fV p q):=by
 have key:∀l x m,fV p q l=some (x,m)→l=x++m∧∀r∈x,gp r=true:=by
  intro l x m h;unfold fV at h;split at h
  ·rename_i a m1 ha;split at h
   ·rename_i b m2 hb;simp only[au,aF]at h;obtain⟨rfl,rfl⟩:=h;have e1:=hp.1 _ _ _ ha;have e2:=hq.1 _ _ _ hb;simp only[id]at e1 e2;subst e1 e2;refine⟨by simp,fun r hr=>?_⟩;rcases List.mem_append.1 hr with hr|hr
    ·exact hp.2 _ _ _ ha r hr
    ·exact hq.2 _ _ _ hb r hr
   ·simp at h
  ·simp at h
 exact⟨fun l x m h=>(key l x m h).1,fun l x m h=>(key l x m h).2⟩
theorem oT:sk (fun l=>some (([]:List Re),l)) id∧nv (fun l=>some ([],l)):=
 ⟨fun l x m h=>by simp at h;simp[h],fun l x m h=>by simp at h;simp[h.1]⟩
theorem ko:sk j0 id∧nv j0:=by
 refine⟨fun l x m h=>?_,fun l x m h=>?_⟩<;>unfold j0 at h<;>split at h
 ·exact(cT _).1 _ _ _ h
 ·exact oT.1 _ _ _ h
 ·exact(cT _).2 _ _ _ h
 ·exact oT.2 _ _ _ h
theorem oZ(k:Int):sk (gP k) id∧nv (gP k):=by
 unfold gP
 repeat' split
 ·exact cT _
 ·exact cT _
 ·exact fL (cT _) (fL ko (cT _))
 ·exact fL (cT _) (fL ko (cT _))
 ·exact fL (cT _) (fL ko (cT _))
 ·exact cT _
 ·exact cT _
 ·exact oT
theorem Ek:sk eJ id∧nv eJ:=by
 refine⟨fun l x m h=>?_,fun l x m h=>?_⟩<;>unfold eJ at h<;>split at h
 ·exact(fL (cT _) (oZ _)).1 _ _ _ h
 ·simp at h
 ·exact(fL (cT _) (oZ _)).2 _ _ _ h
 ·simp at h
theorem yP:∀n,sk (eU n) id∧nv (eU n)
 |0=>oT
 |n+1=>by
  have ih:=yP n;have:=fL (cT [43,44]) ih;refine⟨fun l x m h=>?_,fun l x m h=>?_⟩<;>unfold eU at h<;>split at h
  ·exact this.1 _ _ _ h
  ·exact oT.1 _ _ _ h
  ·exact this.2 _ _ _ h
  ·exact oT.2 _ _ _ h
theorem zl{k:Int}{r:Re}(hk:k=17∨k=7∨k=4)(h:r.k=k)(hr:gp r=true):r=l_ k:=by
 obtain⟨rk,rd,rb⟩:=r;simp only at h;subst h;have hs:EK rk=some ⟨0,1,0,0⟩:=by rcases hk with rfl|rfl|rfl<;>rfl
 simp only[gp,hs,aL,mu,dG]at hr;obtain⟨h1,_,_,h4,_⟩:=hr;have:rb.length=0:=by omega
 unfold l_;rw[h1,aM this]
theorem vA{k:Int}(hk:k=17∨k=7∨k=4):gp (l_ k)=true:=by rcases hk with rfl|rfl|rfl<;>decide
theorem rH:sk fT fD:=by
 intro l x m h;unfold fT at h;split at h
 ·rename_i f m1 hf;split at h
  ·rename_i p m2 hp;split at h
   ·rename_i r m3 hm;simp only[au,aF]at h;obtain⟨rfl,rfl⟩:=h;obtain⟨rfl,hk,hr⟩:=fA hm;have e1:=Ek.1 _ _ _ hf;have e2:=(yP _).1 _ _ _ hp;simp only[id]at e1 e2;rw[e1,e2,zl (.inl rfl) hk hr];simp[fD]
   ·simp at h
  ·simp at h
 ·simp at h
theorem tL:∀n,sk (fQ n) (List.flatMap fD)
 |0=>fun l x m h=>by simp[fQ]at h;obtain⟨rfl,rfl⟩:=h;simp
 |n+1=>fun l x m h=>by
  unfold fQ at h;split at h
  ·split at h
   ·rename_i y m1 hy;split at h
    ·rename_i ys m2 Wf;simp only[au,aF]at h;obtain⟨rfl,rfl⟩:=h;have e1:=rH _ _ _ hy;have e2:=tL n _ _ _ Wf;rw[e1,e2];simp
    ·simp at h
   ·simp at h
  ·simp at h;obtain⟨rfl,rfl⟩:=h;simp
theorem rG:sk pO fS:=by
 intro l x m h;unfold pO at h;split at h
 ·rename_i f m1 hf;split at h
  ·rename_i p m2 hp;split at h
   ·rename_i r m3 hm;simp only[au,aF]at h;obtain⟨rfl,rfl⟩:=h;obtain⟨rfl,hk,hr⟩:=fA hm;have e1:=(cT _).1 _ _ _ hf;have e2:=(tL _) _ _ _ hp;simp only[id]at e1 e2;rw[e1,e2,zl (.inr (.inl rfl)) hk hr];simp[fS]
   ·simp at h
  ·simp at h
 ·simp at h
theorem yL:∀n,sk (fz n) (List.flatMap fS)
 |0=>fun l x m h=>by simp[fz]at h;obtain⟨rfl,rfl⟩:=h;simp
 |n+1=>fun l x m h=>by
  unfold fz at h;split at h
  ·split at h
   ·rename_i y m1 hy;split at h
    ·rename_i ys m2 Wf;simp only[au,aF]at h;obtain⟨rfl,rfl⟩:=h;have e1:=rG _ _ _ hy;have e2:=yL n _ _ _ Wf;rw[e1,e2];simp
    ·simp at h
   ·simp at h
  ·simp at h;obtain⟨rfl,rfl⟩:=h;simp
theorem tM:∀n,sk (fJ n) id∧nv (fJ n)
 |0=>oT
 |n+1=>by
  have ih:=tM n;have key:∀l x m,fJ (n+1) l=some (x,m)→l=x++m∧∀r∈x,gp r=true:=by
   intro l x m h;unfold fJ at h;split at h
   ·split at h
    ·rename_i r m1 hm;split at h
     ·rename_i rs m2 hr;simp only[au,aF]at h;obtain⟨rfl,rfl⟩:=h;obtain⟨rfl,_,hrr⟩:=fA hm;have e1:=ih.1 _ _ _ hr;have e2:=ih.2 _ _ _ hr;simp only[id]at e1;subst e1;refine⟨rfl,fun r hr=>?_⟩;rcases List.mem_cons.1 hr with rfl|hr
      ·exact hrr
      ·exact e2 r hr
     ·simp at h
    ·simp at h
   ·simp at h;obtain⟨rfl,rfl⟩:=h;simp
  exact⟨fun l x m h=>(key l x m h).1,fun l x m h=>(key l x m h).2⟩
theorem Be:sk nJ id∧nv nJ:=by
 have key:∀l x m,nJ l=some (x,m)→l=x++m∧∀r∈x,gp r=true:=by
  intro l x m h;unfold nJ at h;split at h
  ·split at h
   ·rename_i a m1 ha;obtain⟨rfl,_,NY⟩:=fA ha;split at h
    ·rename_i b m2 hb;have e1:=(tM _).1 _ _ _ hb;have e2:=(tM _).2 _ _ _ hb;simp only[id]at e1;subst e1;split at h
     ·rename_i hb0;simp only[au,aF]at h;obtain⟨rfl,rfl⟩:=h;subst hb0;exact⟨rfl,fun r hr=>by simp at hr;subst hr;exact NY⟩
     ·split at h
      ·rename_i e m3 he;simp only[au,aF]at h;obtain⟨rfl,rfl⟩:=h;obtain⟨rfl,_,NZ⟩:=fA he;refine⟨by simp,fun r hr=>?_⟩;simp only[aH,dU,aI,bU]at hr;rcases hr with rfl|hr|rfl
       ·exact NY
       ·exact e2 r hr
       ·exact NZ
      ·simp at h
    ·simp at h
   ·simp at h
  ·simp at h;obtain⟨rfl,rfl⟩:=h;simp
 exact⟨fun l x m h=>(key l x m h).1,fun l x m h=>(key l x m h).2⟩
theorem IH:sk pP id∧nv pP:=fL (cT _) (fL Be (cT _))
theorem LG:sk rJ iH:=by
 intro l x m h;unfold rJ at h;split at h
 ·rename_i f m1 hf;split at h
  ·rename_i p m2 hp;split at h
   ·rename_i r m3 hm;simp only[au,aF]at h;obtain⟨rfl,rfl⟩:=h;obtain⟨rfl,hk,hr⟩:=fA hm;have e1:=IH.1 _ _ _ hf;have e2:=(yL _) _ _ _ hp;simp only[id]at e1 e2;rw[e1,e2,zl (.inr (.inr rfl)) hk hr];simp[iH]
   ·simp at h
  ·simp at h
 ·simp at h
theorem Ov{x y:Im}{a b:List Re}(h:wK x y=true)(e:fD x++a=fD y++b):x=y∧a=b:=by
 obtain⟨xf,xp⟩:=x;obtain⟨yf,yp⟩:=y;simp only[wK,aL,mu]at h;simp only[fD,aT]at e;obtain⟨rfl,e1⟩:=List.append_inj e h.1;obtain⟨rfl,e2⟩:=List.append_inj e1 h.2;exact⟨rfl,by simpa using e2⟩
theorem CK:∀{l m:List Im} {a b:List Re},jE l m=true→l.flatMap fD++a=m.flatMap fD++b→l=m∧a=b
 | [],[],a,b,_,e=>⟨rfl,by simpa using e⟩
 | [],y::m,_,_,h,_=>by simp[jE]at h
 |x::l,[],_,_,h,_=>by simp[jE]at h
 |x::l,y::m,a,b,h,e=>by
  simp only[jE,aL]at h;simp only[bL,aT]at e;obtain⟨rfl,e1⟩:=Ov h.1 e;obtain⟨rfl,e2⟩:=CK h.2 e1;exact⟨rfl,e2⟩
theorem Ou{x y:Ce}{a b:List Re}(h:wJ x y=true)(e:fS x++a=fS y++b):x=y∧a=b:=by
 obtain⟨xf,xp⟩:=x;obtain⟨yf,yp⟩:=y;simp only[wJ,aL,mu]at h;simp only[fS,aT]at e;obtain⟨rfl,e1⟩:=List.append_inj e h.1;obtain⟨rfl,e2⟩:=CK h.2 e1;exact⟨rfl,by simpa using e2⟩
theorem CJ:∀{l m:List Ce} {a b:List Re},jD l m=true→l.flatMap fS++a=m.flatMap fS++b→l=m∧a=b
 | [],[],a,b,_,e=>⟨rfl,by simpa using e⟩
 | [],y::m,_,_,h,_=>by simp[jD]at h
 |x::l,[],_,_,h,_=>by simp[jD]at h
 |x::l,y::m,a,b,h,e=>by
  simp only[jD,aL]at h;simp only[bL,aT]at e;obtain⟨rfl,e1⟩:=Ou h.1 e;obtain⟨rfl,e2⟩:=CJ h.2 e1;exact⟨rfl,e2⟩
theorem R7{x y:Li}{a b:List Re}(h:F5 x y=true)(e:iH x++a=iH y++b):x=y∧a=b:=by
 obtain⟨xf,xp⟩:=x;obtain⟨yf,yp⟩:=y;simp only[F5,aL,mu]at h;simp only[iH,aT]at e;obtain⟨rfl,e1⟩:=List.append_inj e h.1;obtain⟨rfl,e2⟩:=CJ h.2 e1;exact⟨rfl,by simpa using e2⟩
theorem yI:∀l,jE l l=true
 | []=>rfl
 |x::l=>by simp[jE,wK,yI l]
theorem yH:∀l,jD l l=true
 | []=>rfl
 |x::l=>by simp[jD,wJ,yI,yH l]
theorem LY{t:Li}:nk t=true↔rJ (iH t)=some (t,[]):=by
 unfold nk;constructor
 ·intro h;split at h
  ·rename_i u hu;have e:=LG _ _ _ hu;rw[ah]at e;obtain⟨rfl,_⟩:=R7 (a:=[]) (b:=[]) h (by simpa using e);exact hu
  ·simp at h
 ·intro h;rw[h];simp[F5,yH]
def zK(K:List Int)(m m':List Re):Prop:=∀k∈K,dN k m=dN k m'
def YA(K:List Int){α:Type}(p:nu α)(fl:α→List Re):Prop:=∀l x m m',p l=some (x,m)→zK K m m'→p (fl x++m')=some (x,m')
def Hq{α:Type}(p:nu α)(fl:α→List Re):Prop:=∀l x m m',p l=some (x,m)→p (fl x++m')=some (x,m')
theorem tO{x m m':List Re}{k:Int}(h:x=[]→dN k m=dN k m'):dN k (x++m)=dN k (x++m'):=by
 cases x with
 |nil=>exact h rfl
 |cons r x=>rfl
theorem zK.app{K:List Int}{x m m':List Re}(h:x=[]→zK K m m'):zK K (x++m) (x++m'):=fun k hk=>tO (fun e=>h e k hk)
theorem kR{k:Int}{r:Re}{m:List Re}(h1:r.k=k)(h2:gp r=true):gY k (r::m)=some (r,m):=by simp[gY,h1,h2]
theorem o7:∀(ks:List Int) {K:List Int},(∀k∈ks,¬k<256→k % 256∈K)→YA K (dC ks) id
 | [],K,_=>fun l x m m' h _=>by simp[dC]at h;obtain⟨rfl,rfl⟩:=h;rfl
 |k::ks,K,hK=>fun l x m m' h ha=>by
  have ih:=o7 ks (K:=K) (fun k hk=>hK k (cN _ hk));have el:=(cT (k::ks)).1 _ _ _ h;simp only[id]at el⊢;unfold dC at h;split at h
  ·rename_i hc;split at h
   ·rename_i r m1 hm;split at h
    ·rename_i rs m2 hr;simp only[au,aF]at h;obtain⟨rfl,rfl⟩:=h;obtain⟨rfl,hk,hrr⟩:=fA hm;have:=ih _ _ _ m' hr ha;unfold dC;rw[if_pos (by rcases hc with hc|hc;exact .inl hc;exact .inr hc),dR,kR hk hrr];simp only[id]at this;simp only[this]
    ·simp at h
   ·simp at h
  ·rename_i hc;have:=ih _ _ _ m' h ha;unfold dC;rw[if_neg ?_]
   ·exact this
   ·intro hn;rcases hn with hn|hn
    ·exact hc (.inl hn)
    ·apply hc;refine .inr ?_;rw[el];rw[tO (x:=x) (m:=m) (m':=m') (fun _=>ha _ (hK k (by simp) (fun h=>hc (.inl h))))];exact hn
theorem gQ:∀(ks:List Int) (k:Int),k<256→Hq (dC (ks++[k])) id∧∀l x m,dC (ks++[k]) l=some (x,m)→x≠ []
 | [],k,hk=>by
  refine⟨fun l x m m' h=>?_,fun l x m h=>?_⟩
  ·simp only[aB,dC,hk,true_or,eX]at h⊢;split at h
   ·rename_i r m1 hm;simp only[au,aF]at h;obtain⟨rfl,rfl⟩:=h;obtain⟨rfl,hk,hrr⟩:=fA hm;simp only[id,dR,aB,kR hk hrr]
   ·simp at h
  ·simp only[aB,dC,hk,true_or,eX]at h;split at h
   ·simp only[au,aF]at h;rw[←h.1];simp
   ·simp at h
 |j::ks,k,hk=>by
  have ih:=gQ ks k hk;have key:∀l x m m',dC (j::(ks++[k])) l=some (x,m)→dC (j::(ks++[k])) (x++m')=some (x,m')∧x≠ []:=by
   intro l x m m' h;have el:=(cT (j::(ks++[k]))).1 _ _ _ h;simp only[id]at el;unfold dC at h;split at h
   ·rename_i hc;split at h
    ·rename_i r m1 hm;split at h
     ·rename_i rs m2 hr;simp only[au,aF]at h;obtain⟨rfl,rfl⟩:=h;obtain⟨rfl,hk,hrr⟩:=fA hm;have:=ih.1 _ _ _ m' hr;simp only[id]at this;refine⟨?_,by simp⟩;unfold dC;rw[if_pos (by rcases hc with hc|hc;exact .inl hc;exact .inr hc),dR,kR hk hrr];simp only[this]
     ·simp at h
    ·simp at h
   ·rename_i hc;have h1:=ih.1 _ _ _ m' h;have h2:=ih.2 _ _ _ h;refine⟨?_,h2⟩;unfold dC;rw[if_neg ?_]
    ·exact h1
    ·intro hn;rcases hn with hn|hn
     ·exact hc (.inl hn)
     ·apply hc;refine .inr ?_;rw[el,tO (x:=x) (m:=m) (m':=m') (fun e=>absurd e h2)];exact hn
  exact⟨fun l x m m' h=>(key l x m m' h).1,fun l x m h=>(key l x m m h).2⟩
theorem kC{K:List Int}{p q:nu (List Re)}(hqe:sk q id)(hp:YA K p id)(hq:Hq q id∧∀l x m,q l=some (x,m)→x≠ []):Hq (fV p q) id∧∀l x m,fV p q l=some (x,m)→x≠ []:=by
 have key:∀l x m m',fV p q l=some (x,m)→fV p q (x++m')=some (x,m')∧x≠ []:=by
  intro l x m m' h;unfold fV at h⊢;split at h
  ·rename_i a m1 h1;split at h
   ·rename_i b m2 h2;simp only[au,aF]at h;obtain⟨rfl,rfl⟩:=h;have e2:=hqe _ _ _ h2;simp only[id]at e2;subst e2;have hb:=hq.2 _ _ _ h2;have g2:=hq.1 _ _ _ m' h2;have g1:=hp _ _ _ (b++m') h1 (zK.app fun e=>absurd e hb);simp only[id]at g1 g2;rw[aT,g1];simp only[g2];exact⟨trivial,by simp[hb]⟩
   ·simp at h
  ·simp at h
 exact⟨fun l x m m' h=>(key l x m m' h).1,fun l x m h=>(key l x m m h).2⟩
theorem Hq.loc{K:List Int}{α:Type}{p:nu α}{fl:α→List Re}(h:Hq p fl):YA K p fl:=fun l x m m' hl _=>h l x m m' hl
theorem vL:YA [26,27,28] j0 id:=fun l x m m' h ha=>by
 have el:=ko.1 _ _ _ h;simp only[id]at el⊢;unfold j0 at h⊢;split at h
 ·rename_i hs;have hx:x≠ []:=by
   rintro rfl;have:=gQ [] 26 (by decide);unfold dC at h;simp only[true_or,eX,show(26:Int)<256 by decide]at h;split at h
   ·split at h<;>simp at h
   ·simp at h
  rw[←tO (x:=x) (m:=m) (m':=m') (fun e=>absurd e hx),←el,if_pos hs];exact o7 [26,283,284] (K:=[26,27,28]) (by decide) _ _ _ m' h ha
 ·rename_i hs;simp only[au,aF]at h;obtain⟨rfl,rfl⟩:=h;rw[if_neg (by rw[aB,←ha 26 (by simp)];exact hs)];rfl
theorem IG{k:Int}(hk:oP k=true):Hq (gP k) id∧∀l x m,gP k l=some (x,m)→x≠ []:=by
 simp only[oP,dZ,mu]at hk;rcases hk with(((((rfl|rfl)|rfl)|rfl)|rfl)|rfl)|rfl
 ·exact gQ [13,14] 16 (by decide)
 ·exact gQ [13,14,289,271,304,305] 16 (by decide)
 ·exact kC (K:=[26,27,28]) (fL ko (cT _)).1 (gQ [] 18 (by decide)).1.loc (kC (cT _).1 vL (gQ [] 16 (by decide)))
 ·exact kC (K:=[26,27,28]) (fL ko (cT _)).1 (gQ [] 18 (by decide)).1.loc (kC (cT _).1 vL (gQ [19] 16 (by decide)))
 ·exact kC (K:=[23,33,15]) (fL ko (cT _)).1 (o7 _ (by decide)) (kC (cT _).1 vL (gQ [16] 25 (by decide)))
 ·exact gQ [13,42] 16 (by decide)
 ·exact gQ [13,46] 16 (by decide)
theorem wY{r:Re}{l x m:List Re}(hk:oP r.k=true)(h:eJ (r::l)=some (x,m)):(∃x',x=r::x')∧∀m',eJ (x++m')=some (x,m'):=by
 unfold eJ at h;simp only at h;have hs:=kC (K:=[38,47]) (p:=dC [r.k,294,303]) (oZ r.k).1 (o7 _ (by
  intro k h1 h2;simp only[aH,aI,bU]at h1;rcases h1 with rfl|rfl|rfl
  ·exfalso
   apply h2;simp only[oP,dZ,mu]at hk;omega
  ·decide
  ·decide)) (IG hk)
 have he:=(fL (cT [r.k,294,303]) (oZ r.k)).1 _ _ _ h;simp only[id]at he;cases x with
 |nil=>exact absurd rfl (hs.2 _ _ _ h)
 |cons y x=>
  rw[dR]at he;injection he with e1 e2;subst e1;refine⟨⟨x,rfl⟩,fun m'=>?_⟩;have:=hs.1 _ _ _ m' h;simp only[id]at this;unfold eJ;exact this
theorem uA{a b:Int}{l x m:List Re}(ha:a<256)(h:dC [a,b] l=some (x,m)):m.length<l.length:=by
 have e:=(cT [a,b]).1 _ _ _ h;simp only[id]at e;have hx:x≠ []:=by
  rintro rfl;unfold dC at h;simp only[ha,true_or,eX]at h;split at h
  ·split at h<;>simp at h
  ·simp at h
 rw[e,aA];cases x with
 |nil=>exact absurd rfl hx
 |cons r x=>simp
theorem yQ:∀(n n':Nat) (l:List Re),l.length≤n→l.length≤n'→eU n l=eU n' l
 |0,0,l,_,_=>rfl
 |0,n'+1,l,h,_=>by
  have:l=[]:=aM (by omega);subst this;simp[eU,dN]
 |n+1,0,l,_,h=>by
  have:l=[]:=aM (by omega);subst this;simp[eU,dN]
 |n+1,n'+1,l,h,h'=>by
  unfold eU;split
  ·split
   ·rename_i a m hm;have:=uA (by decide) hm;rw[yQ n n' m (by omega) (by omega)]
   ·rfl
  ·rfl
theorem Bl:∀n,∀l x m m',l.length≤n→eU n l=some (x,m)→zK [43] m m'→∀n',(x++m').length≤n'→eU n' (x++m')=some (x,m')
 |0,l,x,m,m',hl,h,ha,n',hn=>by
  have:l=[]:=aM (by omega);subst this;simp[eU]at h;obtain⟨rfl,rfl⟩:=h;cases n' with
  |zero=>rfl
  |succ n'=>
   unfold eU;rw[aB,if_neg (by rw[←ha 43 (by simp)];decide)]
 |n+1,l,x,m,m',hl,h,ha,n',hn=>by
  unfold eU at h;split at h
  ·rename_i hs;split at h
   ·rename_i a m1 h1;split at h
    ·rename_i b m2 h2;simp only[au,aF]at h;obtain⟨rfl,rfl⟩:=h;have e1:=(cT _).1 _ _ _ h1;simp only[id]at e1;subst e1;have hlen:=uA (by decide) h1;have ih:=Bl n m1 b _ m' (by simp only[aA]at hl hlen;omega) h2 ha;have g1:=(gQ [43] 44 (by decide)).1 _ _ _ (b++m') h1;simp only[id]at g1;have ha0:a≠ []:=(gQ [43] 44 (by decide)).2 _ _ _ h1;have hpos:0<a.length:=List.length_pos_iff.2 ha0;cases n' with
     |zero=>simp only[aA]at hn;omega
     |succ n'=>
      unfold eU;rw[aT,tO (x:=a) (m:=b++m') (m':=m1) (fun e=>absurd e ha0),if_pos hs];rw[show dC [43,44] (a++(b++m'))=some (a,b++m')from g1];simp only;rw[ih n' (by simp only[aA]at hn⊢;omega)]
    ·simp at h
   ·simp at h
  ·rename_i hs;simp only[au,aF]at h;obtain⟨rfl,rfl⟩:=h;cases n' with
   |zero=>
    rfl
   |succ n'=>
    unfold eU;rw[aB,if_neg (by rw[←ha 43 (by simp)];exact hs)]
def jC(x:Im):Prop:=dX (fD x)=true∧fT (fD x)=some (x,[])
theorem Bg{l m:List Re}{x:Im}(hs:dX l=true)(h:fT l=some (x,m)):dX (fD x)=true∧∀m',fT (fD x++m')=some (x,m'):=by
 cases l with
 |nil=>simp[dX]at hs
 |cons r l=>
  simp only[dX]at hs;unfold fT at h;split at h
  ·rename_i f m1 hf;obtain⟨⟨f',rfl⟩,g1⟩:=wY hs hf;split at h
   ·rename_i p m2 hp;split at h
    ·rename_i r' m3 hm;simp only[au,aF]at h;obtain⟨rfl,rfl⟩:=h;obtain⟨rfl,hk,hr⟩:=fA hm;refine⟨by simpa [fD,dX]using hs,fun m'=>?_⟩;have g2:=Bl _ _ _ _ (l_ 17::m') (aj _) hp (fun k hk'=>by simp only[aH,aI,bU]at hk';subst hk';simp[dN,l_,hk]) _ (aj _);unfold fT;rw[show fD ⟨r::f',p⟩++m'=(r::f')++(p++(l_ 17::m'))by simp[fD],g1];simp only;rw[g2];simp only;rw[kR (k:=17) (r:=l_ 17) rfl (vA (.inl rfl))]
    ·simp at h
   ·simp at h
  ·simp at h
theorem Lk{l m:List Re}{x:Im}(hs:dX l=true)(h:fT l=some (x,m)):jC x:=by
 obtain⟨h1,h2⟩:=Bg hs h;exact⟨h1,by simpa using h2 []⟩
theorem jC.go{x:Im}(h:jC x)(m:List Re):dX (fD x++m)=true∧fT (fD x++m)=some (x,m):=by
 refine⟨?_,(Bg h.1 h.2).2 m⟩;have:=h.1;cases hf:fD x with
 |nil=>rw[hf]at this;simp[dX]at this
 |cons r l=>rw[hf]at this;exact this
theorem qF(x:Im):fD x≠ []:=by simp[fD]
theorem CY:∀n l xs m,l.length≤n→fQ n l=some (xs,m)→(∀x∈xs,jC x)∧dX m=false
 |0,l,xs,m,hl,h=>by
  have:l=[]:=aM (by omega);subst this;simp[fQ]at h;obtain⟨rfl,rfl⟩:=h;exact⟨by simp,rfl⟩
 |n+1,l,xs,m,hl,h=>by
  unfold fQ at h;split at h
  ·rename_i hs;split at h
   ·rename_i y m1 hy;split at h
    ·rename_i ys m2 Wf;simp only[au,aF]at h;obtain⟨rfl,rfl⟩:=h;have e:=rH _ _ _ hy;have hlen:m1.length<l.length:=by
      rw[e,aA];have:=List.length_pos_iff.2 (qF y);omega
     obtain⟨g1,g2⟩:=CY n m1 ys _ (by omega) Wf;refine⟨fun x hx=>?_,g2⟩;rcases List.mem_cons.1 hx with rfl|hx
     ·exact Lk hs hy
     ·exact g1 x hx
    ·simp at h
   ·simp at h
  ·rename_i hs;simp only[au,aF]at h;obtain⟨rfl,rfl⟩:=h;exact⟨by simp,by simpa using hs⟩
theorem CX:∀(xs:List Im) (n:Nat) (m:List Re),(∀x∈xs,jC x)→dX m=false→(xs.flatMap fD++m).length≤n→fQ n (xs.flatMap fD++m)=some (xs,m)
 | [],n,m,_,hm,hn=>by
  cases n with
  |zero=>rfl
  |succ n=>
   unfold fQ;simp only[qY,aB];rw[if_neg (by rw[hm];decide)]
 |x::xs,n,m,hx,hm,hn=>by
  obtain⟨h1,h2⟩:=jC.go (hx x (by simp)) (xs.flatMap fD++m);have hpos:=List.length_pos_iff.2 (qF x);cases n with
  |zero=>simp at hn;exact absurd hn.1 (qF x)
  |succ n=>
   unfold fQ;rw[bL,aT,if_pos h1,h2];simp only;rw[CX xs n m (fun y hy=>hx y (cN _ hy)) hm (by simp only[bL,aA]at hn⊢;omega)]
def we(h:List Re):Prop:=dC [5,6,308] (h++[l_ 7])=some (h,[l_ 7])
def sT(c:Ce):Prop:=we c.h∧∀x∈c.i,jC x
theorem SM{l:List Re}{k:Int}(hs:dX l=true)(hk:oP k=false):dN k l=false:=by
 cases l with
 |nil=>rfl
 |cons r l=>
  simp only[dX]at hs;simp only[dN,eL];rintro rfl;rw[hs]at hk;simp at hk
theorem Ab{xs:List Im}{m:List Re}(hx:∀x∈xs,jC x):dN 52 (xs.flatMap fD++l_ 7::m)=false:=by
 cases xs with
 |nil=>rfl
 |cons x xs=>
  rw[bL,aT];exact SM ((hx x (by simp)).go _).1 (by decide)
theorem Pv{l m:List Re}{c:Ce}(h:pO l=some (c,m)):sT c:=by
 unfold pO at h;split at h
 ·rename_i f m1 hf;split at h
  ·rename_i p m2 hp;split at h
   ·rename_i r m3 hm;simp only[au,aF]at h;obtain⟨rfl,rfl⟩:=h;obtain⟨rfl,hk,hr⟩:=fA hm;have hpo:=(CY _ _ _ _ (aj _) hp).1;have e2:=tL _ _ _ _ hp;have hr7:=zl (.inr (.inl rfl)) hk hr;refine⟨?_,hpo⟩;refine o7 [5,6,308] (K:=[52]) (by decide) _ _ _ _ hf (fun k hk'=>?_);simp only[aH,aI,bU]at hk';subst hk';rw[e2,hr7,Ab hpo];rfl
   ·simp at h
  ·simp at h
 ·simp at h
theorem we.shape{h:List Re}(hh:we h):∃r l,h=r::l∧r.k=5:=by
 unfold we dC at hh;simp only[true_or,eX,show(5:Int)<256 by decide]at hh;split at hh
 ·rename_i r m hm;obtain⟨e,hk,_⟩:=fA hm;split at hh
  ·simp only[au,aF]at hh;exact⟨r,_,hh.1.symm,hk⟩
  ·simp at hh
 ·simp at hh
theorem sT.go{c:Ce}(h:sT c)(m:List Re):dN 5 (fS c++m)=true∧pO (fS c++m)=some (c,m):=by
 obtain⟨ch,ci⟩:=c;obtain⟨h1,h2⟩:=h;simp only at h1 h2;obtain⟨r,l,rfl,hk⟩:=h1.shape;refine⟨by simp[fS,dN,hk],?_⟩;unfold pO;have g1:=o7 [5,6,308] (K:=[52]) (by decide) _ _ _ (ci.flatMap fD++l_ 7::m) h1 (fun k hk'=>by
  simp only[aH,aI,bU]at hk';subst hk';rw[Ab h2];rfl)
 simp only[id]at g1;rw[show fS ⟨r::l,ci⟩++m=(r::l)++(ci.flatMap fD++l_ 7::m)by simp[fS],g1];simp only;rw[CX ci _ _ h2 rfl (aj _)];simp only;rw[kR (k:=7) (r:=l_ 7) rfl (vA (.inr (.inl rfl)))]
theorem qE(x:Ce):fS x≠ []:=by simp[fS]
theorem CW:∀n l xs m,l.length≤n→fz n l=some (xs,m)→(∀x∈xs,sT x)∧dN 5 m=false
 |0,l,xs,m,hl,h=>by
  have:l=[]:=aM (by omega);subst this;simp[fz]at h;obtain⟨rfl,rfl⟩:=h;exact⟨by simp,rfl⟩
 |n+1,l,xs,m,hl,h=>by
  unfold fz at h;split at h
  ·rename_i hs;split at h
   ·rename_i y m1 hy;split at h
    ·rename_i ys m2 Wf;simp only[au,aF]at h;obtain⟨rfl,rfl⟩:=h;have e:=rG _ _ _ hy;have hlen:m1.length<l.length:=by
      rw[e,aA];have:=List.length_pos_iff.2 (qE y);omega
     obtain⟨g1,g2⟩:=CW n m1 ys _ (by omega) Wf;refine⟨fun x hx=>?_,g2⟩;rcases List.mem_cons.1 hx with rfl|hx
     ·exact Pv hy
     ·exact g1 x hx
    ·simp at h
   ·simp at h
  ·rename_i hs;simp only[au,aF]at h;obtain⟨rfl,rfl⟩:=h;exact⟨by simp,by simpa using hs⟩
theorem CV:∀(xs:List Ce) (n:Nat) (m:List Re),(∀x∈xs,sT x)→dN 5 m=false→(xs.flatMap fS++m).length≤n→fz n (xs.flatMap fS++m)=some (xs,m)
 | [],n,m,_,hm,hn=>by
  cases n with
  |zero=>rfl
  |succ n=>
   unfold fz;simp only[qY,aB];rw[if_neg (by rw[hm];decide)]
 |x::xs,n,m,hx,hm,hn=>by
  obtain⟨h1,h2⟩:=sT.go (hx x (by simp)) (xs.flatMap fS++m);cases n with
  |zero=>simp at hn;exact absurd hn.1 (qE x)
  |succ n=>
   unfold fz;rw[bL,aT,if_pos h1,h2];simp only;have hpos:=List.length_pos_iff.2 (qE x);rw[CV xs n m (fun y hy=>hx y (cN _ hy)) hm (by simp only[bL,aA]at hn⊢;omega)]
def H7(h:List Re):Prop:=pP h=some (h,[])
theorem yO:∀(n n':Nat) (l:List Re),l.length≤n→l.length≤n'→fJ n l=fJ n' l
 |0,0,l,_,_=>rfl
 |0,n'+1,l,h,_=>by
  have:l=[]:=aM (by omega);subst this;simp[fJ,dN]
 |n+1,0,l,_,h=>by
  have:l=[]:=aM (by omega);subst this;simp[fJ,dN]
 |n+1,n'+1,l,h,h'=>by
  unfold fJ;split
  ·split
   ·rename_i a m hm;have:=(fA hm).1;subst this;simp only[aD]at h h';rw[yO n n' m (by omega) (by omega)]
   ·rfl
  ·rfl
theorem vK:∀n,∀l x m m',l.length≤n→fJ n l=some (x,m)→zK [55] m m'→∀n',(x++m').length≤n'→fJ n' (x++m')=some (x,m')
 |0,l,x,m,m',hl,h,ha,n',hn=>by
  have:l=[]:=aM (by omega);subst this;simp[fJ]at h;obtain⟨rfl,rfl⟩:=h;cases n' with
  |zero=>rfl
  |succ n'=>
   unfold fJ;rw[aB,if_neg (by rw[←ha 55 (by simp)];decide)]
 |n+1,l,x,m,m',hl,h,ha,n',hn=>by
  unfold fJ at h;split at h
  ·rename_i hs;split at h
   ·rename_i a m1 h1;split at h
    ·rename_i b m2 h2;simp only[au,aF]at h;obtain⟨rfl,rfl⟩:=h;obtain⟨rfl,hk,hr⟩:=fA h1;simp only[aD]at hl;have ih:=vK n m1 b _ m' (by omega) h2 ha;cases n' with
     |zero=>simp at hn
     |succ n'=>
      unfold fJ;rw[dR,if_pos (by simp[dN,hk]),kR hk hr];simp only;rw[ih n' (by simpa using hn)]
    ·simp at h
   ·simp at h
  ·rename_i hs;simp only[au,aF]at h;obtain⟨rfl,rfl⟩:=h;cases n' with
   |zero=>rfl
   |succ n'=>
    unfold fJ;rw[aB,if_neg (by rw[←ha 55 (by simp)];exact hs)]
theorem LD:YA [54,55] nJ id:=fun l x m m' h ha=>by
 unfold nJ at h;split at h
 ·rename_i hs;split at h
  ·rename_i a m1 h1;obtain⟨rfl,hk,hr⟩:=fA h1;split at h
   ·rename_i b m2 h2;split at h
    ·rename_i hb;simp only[au,aF]at h;obtain⟨rfl,rfl⟩:=h;subst hb;have g:=vK _ _ _ _ m' (aj _) h2 (fun k hk'=>ha k (by simp only[aH,aI,bU]at hk'⊢;exact .inr hk')) m'.length (by simp);unfold nJ;simp only[id,dR,aB]at g⊢;rw[if_pos (by simp[dN,hk]),kR hk hr];simp only[g,eX]
    ·rename_i hb;split at h
     ·rename_i e m3 h3;obtain⟨rfl,hk3,hr3⟩:=fA h3;simp only[au,aF]at h;obtain⟨rfl,rfl⟩:=h;have g:=vK _ _ _ _ (e::m') (aj _) h2 (fun k hk'=>by simp[dN]) (b++e::m').length (aj _);unfold nJ;simp only[id,dR,aT,aB]at g⊢;rw[if_pos (by simp[dN,hk]),kR hk hr];simp only[g];rw[if_neg hb,kR hk3 hr3]
     ·simp at h
   ·simp at h
  ·simp at h
 ·rename_i hs;simp only[au,aF]at h;obtain⟨rfl,rfl⟩:=h;unfold nJ;simp only[id,aB];rw[if_neg (by rw[←ha 54 (by simp)];exact hs)]
theorem Bf:Hq pP id∧∀l x m,pP l=some (x,m)→x≠ []:=
 kC (K:=[57,58,59,31,32,35,34]) (fL Be (cT _)).1 (o7 _ (by decide)) (kC (cT _).1 LD (gQ [] 3 (by decide)))
theorem yU{t:Li}:nk t=true↔H7 t.h∧∀c∈t.c,sT c:=by
 rw[LY];obtain⟨th,tc⟩:=t;constructor
 ·intro h;unfold rJ at h;split at h
  ·rename_i f m1 hf;split at h
   ·rename_i p m2 hp;split at h
    ·rename_i r m3 hm;simp only[au,aF,Li.mk.injEq]at h;obtain⟨⟨rfl,rfl⟩,rfl⟩:=h;refine⟨?_,(CW _ _ _ _ (aj _) hp).1⟩;have:=Bf.1 _ _ _ [] hf;simpa [H7]using this
    ·simp at h
   ·simp at h
  ·simp at h
 ·rintro⟨h1,h2⟩;simp only at h1 h2;unfold rJ;have g1:=Bf.1 _ _ _ (tc.flatMap fS++[l_ 4]) h1;simp only[id]at g1;simp only[iH];rw[g1];simp only;rw[CV tc _ _ h2 rfl (aj _)];simp only;rw[kR (k:=4) (r:=l_ 4) rfl (vA (.inr (.inr rfl)))]
end Go.Proofs.YtgaaopjagcaojaaGreat
