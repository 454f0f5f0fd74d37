import Derived.Test.YtgaaopjagcaojaaGreatVk
import Derived.Test.YtgaaopjagcaojaaGreatPo
import Derived.Deep.SlicePairs
import Derived.Test.YtgaaopjagcaojaaGreatNatU
set_option linter.unusedSimpArgs false
set_option linter.unusedVariables false
namespace Go.Proofs.YtgaaopjagcaojaaGreat
open Go.RowKit Go.ChangeShapes Go.WideShapes
def intOf:Value→Int
 | .int _ z=>z
 |_=>0
section
variable{H:Type}{enc:TypeId×Value→H}{P:Program}{w:World}
theorem Nm{t e ti:TypeId}{f0 f1:Field}{c:Value}{n:Nat}{y:DataW H×List MemPlace}(ht:P.underlying t=some (.slice e))(he:P.underlying e=some (.struct #[f0,f1]))(hce:P.cellsOf e=2)
  (h0:f0.type=ti∧f0.offset=0)(h1:f1.type=ti∧f1.offset=1)(hi:P.underlying ti=some (.int .i64))(hci:P.cellsOf ti=1)(h:DataW.trod enc P w 0 (fun _=>true) true n t [c]=some y):
  ∃(ao:Option Addr) (n c':Nat) (fH:List Dp),c=.slice ao n c'∧n=fH.length∧n≤c'∧(∀p∈fH,(Lit.int .i64 p.x).wf=true∧(Lit.int .i64 p.y).wf=true)∧(RA ao (fH.flatMap d_)).p (fun _=>True) w:=by
 rcases Go.Deep.open_slice_pairs ht he hce h0.2 h1.2 (by rw[h0.1];exact hci) (by rw[h1.1];exact hci) h with⟨hcs,_⟩|⟨a,len,cap,m,n',V0,V1,D0,D1,P0,P1,hcs,_,hl,_,hm,_,hx⟩
 ·simp at hcs;subst hcs;exact⟨none,0,0,[],rfl,rfl,ai _,by simp,RA.nil _ _ _⟩
 ·simp at hcs;subst hcs;simp only[eV]at hm;subst hm;have hz:∀i,i<len→∃x y:Int,V0 i=.int .i64 x∧V1 i=.int .i64 y∧(Lit.int .i64 x).wf=true∧(Lit.int .i64 y).wf=true:=fun i hi'=>by
   obtain⟨_,_,g0,g1⟩:=hx i (by omega);rw[h0.1]at g0;rw[h1.1]at g1;obtain⟨x,ex,wx⟩:=tu hi g0;obtain⟨y,ey,wy⟩:=tu hi g1;exact⟨x,y,ex,ey,wx,wy⟩
  refine⟨some a,len,m,(List.range len).map fun i=>⟨intOf (V0 i),intOf (V1 i)⟩,rfl,by simp,hl,fun p hp=>?_,fun hne=>?_⟩
  ·obtain⟨i,hir,rfl⟩:=List.mem_map.1 hp;obtain⟨x,y,ex,ey,wx,wy⟩:=hz i (List.mem_range.1 hir);simp only[ex,ey,intOf];exact⟨wx,wy⟩
  ·have hpos:0<len:=by
    rcases Nat.eq_zero_or_pos len with h|h
    ·subst h;simp at hne
    ·exact h
   have hc0:=(hx 0 (by omega)).1;obtain⟨b,off,sp⟩:=a;have hsp:sp=none:=by
    simp only[Addr.add,lq,eV]at hc0;unfold World.cell? at hc0;split at hc0
    ·cases sp with
     |none=>rfl
     |some x=>simp at hc0
    ·simp at hc0
   subst hsp;refine⟨b,off,rfl,trivial,fun k v hv=>?_⟩;have hk:k<len*2:=by
    have:=(List.getElem?_eq_some_iff.1 hv).1;rw[nN]at this;simpa using this
   have hi2:k/2<len:=by omega
   obtain⟨x,y,ex,ey,_,_⟩:=hz (k/2) hi2;obtain⟨k0,k1,_,_⟩:=hx (k/2) (by omega);have hg:((List.range len).map fun i=>(⟨intOf (V0 i),intOf (V1 i)⟩:Dp))[k/2]? =some ⟨x,y⟩:=by
    simp[bN,nH hi2,ex,ey,intOf]
   rcases Nat.mod_two_eq_zero_or_one k with hm2|hm2
   ·have:=ek hg 0 (.int .i64 x) rfl;rw[show k/2*2+0=k by omega]at this;rw[this]at hv;injection hv with hv;rw[←hv];rw[gj,ex]at k0;rw[show off+k=off+k/2*2 by omega];exact k0
   ·have:=ek hg 1 (.int .i64 y) rfl;rw[show k/2*2+1=k by omega]at this;rw[this]at hv;injection hv with hv;rw[←hv];rw[gj,ey]at k1;rw[show off+k=off+(k/2*2+1)by omega];exact k1
end
structure Re where
 k:Int
 d:Int
 b:List Int
instance:Inhabited Re:=⟨⟨0,0,[]⟩⟩
structure Im where
 f:List Re
 p:List Re
instance:Inhabited Im:=⟨⟨[],[]⟩⟩
structure Ce where
 h:List Re
 i:List Im
instance:Inhabited Ce:=⟨⟨[],[]⟩⟩
structure Li where
 h:List Re
 c:List Ce
instance:Inhabited Li:=⟨⟨[],[]⟩⟩
structure QQ where
 data:Int
 part:Int
 least:Int
 most:Int
def E_(k:Int):Option QQ:=
 if k=0∨k=13∨k=14∨k=22∨k=33∨k=34∨k=42∨k=43∨k=46∨k=54∨k=57 then some ⟨2,2,1,1⟩
 else if k=1∨k=5 then some ⟨2,24,1,1⟩
 else if k=19 then some ⟨2,4,1,1⟩
 else if k=59 then some ⟨2,6,1,32⟩
 else if k=4∨k=7∨k=8∨k=9∨k=10∨k=11∨k=12∨k=17∨k=21∨k=45∨k=56 then some ⟨0,1,0,0⟩
 else if k=15∨k=47∨k=48∨k=49 then some ⟨3,4,1,1⟩
 else if k=16 then some ⟨3,8,1,8191⟩
 else if k=27∨k=28 then some ⟨5,8,1,1⟩
 else if k=3 then some ⟨5,16,1,1⟩
 else if k=23∨k=26∨k=38∨k=52 then some ⟨1,2,1,1⟩
 else if k=2∨k=25∨k=44∨k=55∨k=58 then some ⟨6,2,1,256⟩
 else if k=6∨k=18 then some ⟨6,2,1,16⟩
 else if k=35 then some ⟨6,44,1,1⟩
 else if k=32 then some ⟨6,176,1,1⟩
 else if k=31 then some ⟨6,44,1,17⟩
 else none
def hZ(b:List Int):List Int:=if b.getLast?=some 0 then b.dropLast else b
def kF(c:Int):Bool:=(decide (65≤c)&&decide (c≤90))||(decide (97≤c)&&decide (c≤122))||(decide (48≤c)&&decide (c≤57))||(c==95||c==63||c==36)
def AY(k:Int):Bool:=k==2||k==25||k==44||k==55||k==58
def AX(k:Int):Bool:=k==6||k==18
def gg(r:Re):Bool:=
 match E_ r.k with
 |none=>false
 |some s=>r.d==s.data&&((r.b.length:Int) % s.part==0&&(decide (s.least≤(r.b.length:Int)/s.part)&&(decide ((r.b.length:Int)/s.part≤s.most)&&
   (if AY r.k then !(hZ r.b).contains 0 else if AX r.k then(hZ r.b).all kF else true))))
abbrev nJ(α:Type):=List Re→Option (α×List Re)
def dR(k:Int)(l:List Re):Bool:=match l with
 |r::_=>r.k==k
 | []=>false
def gN(k:Int):nJ Re:=fun l=>match l with
 |r::m=>if r.k=k∧gg r=true then some (r,m)else none
 | []=>none
def dk:List Int→nJ (List Re)
 | [],l=>some ([],l)
 |k::ks,l=>if k<256∨dR (k % 256) l=true then
   (match gN (k % 256) l with
    |some (r,m)=>(match dk ks m with
     |some (rs,m')=>some (r::rs,m')
     |none=>none)
    |none=>none)
  else dk ks l
def fW(p q:nJ (List Re)):nJ (List Re):=fun l=>match p l with
 |some (a,m)=>(match q m with
  |some (b,m')=>some (a++b,m')
  |none=>none)
 |none=>none
def j_:nJ (List Re):=fun l=>if dR 26 l=true then dk [26,283,284] l else some ([],l)
def gT(k:Int):nJ (List Re):=
 if k=8 then dk [13,14,16]
 else if k=9 then dk [13,14,289,271,304,305,16]
 else if k=10 then fW (dk [18]) (fW j_ (dk [16]))
 else if k=11 then fW (dk [18]) (fW j_ (dk [19,16]))
 else if k=12 then fW (dk [13,22,279,289,271]) (fW j_ (dk [16,25]))
 else if k=21 then dk [13,42,16]
 else if k=45 then dk [13,46,16]
 else fun l=>some ([],l)
def eM:nJ (List Re):=fun l=>match l with
 |r::_=>fW (dk [r.k,294,303]) (gT r.k) l
 | []=>none
def fe:Nat→nJ (List Re)
 |0,l=>some ([],l)
 |n+1,l=>if dR 43 l=true then
   (match dk [43,44] l with
    |some (a,m)=>(match fe n m with
     |some (b,m')=>some (a++b,m')
     |none=>none)
    |none=>none)
  else some ([],l)
def fV:nJ Im:=fun l=>match eM l with
 |some (f,m)=>(match fe m.length m with
  |some (p,m')=>(match gN 17 m' with
   |some (_,LJ)=>some (⟨f,p⟩,LJ)
   |none=>none)
  |none=>none)
 |none=>none
def o6(k:Int):Bool:=k==8||k==9||k==10||k==11||k==12||k==21||k==45
def ec(l:List Re):Bool:=match l with
 |r::_=>o6 r.k
 | []=>false
def gf:Nat→nJ (List Im)
 |0,l=>some ([],l)
 |n+1,l=>if ec l=true then
   (match fV l with
    |some (x,m)=>(match gf n m with
     |some (xs,m')=>some (x::xs,m')
     |none=>none)
    |none=>none)
  else some ([],l)
def pZ:nJ Ce:=fun l=>match dk [5,6,308] l with
 |some (h,m)=>(match gf m.length m with
  |some (i,m')=>(match gN 7 m' with
   |some (_,LJ)=>some (⟨h,i⟩,LJ)
   |none=>none)
  |none=>none)
 |none=>none
def fF:Nat→nJ (List Ce)
 |0,l=>some ([],l)
 |n+1,l=>if dR 5 l=true then
   (match pZ l with
    |some (x,m)=>(match fF n m with
     |some (xs,m')=>some (x::xs,m')
     |none=>none)
    |none=>none)
  else some ([],l)
def fQ:Nat→nJ (List Re)
 |0,l=>some ([],l)
 |n+1,l=>if dR 55 l=true then
   (match gN 55 l with
    |some (a,m)=>(match fQ n m with
     |some (b,m')=>some (a::b,m')
     |none=>none)
    |none=>none)
  else some ([],l)
def nZ:nJ (List Re):=fun l=>if dR 54 l=true then
  (match gN 54 l with
   |some (a,m)=>(match fQ m.length m with
    |some (b,m')=>if b=[]then some ([a],m')else
     (match gN 56 m' with
      |some (e,LJ)=>some (a::(b++[e]),LJ)
      |none=>none)
    |none=>none)
   |none=>none)
 else some ([],l)
def p9:nJ (List Re):=fW (dk [0,1,313,314,315,2,287,288,291,290]) (fW nZ (dk [3]))
def se:nJ Li:=fun l=>match p9 l with
 |some (h,m)=>(match fF m.length m with
  |some (c,m')=>(match gN 4 m' with
   |some (_,LJ)=>some (⟨h,c⟩,LJ)
   |none=>none)
  |none=>none)
 |none=>none
def iI(k:Int):Re:=⟨k,0,[]⟩
def eP(x:Im):List Re:=x.f++(x.p++[iI 17])
def gh(c:Ce):List Re:=c.h++(c.i.flatMap eP++[iI 7])
def jo(t:Li):List Re:=t.h++(t.c.flatMap gh++[iI 4])
def xa(x y:Im):Bool:=x.f.length==y.f.length&&x.p.length==y.p.length
def jQ:List Im→List Im→Bool
 | [],[]=>true
 |x::l,y::m=>xa x y&&jQ l m
 |_,_=>false
def w_(c d:Ce):Bool:=c.h.length==d.h.length&&jQ c.i d.i
def jP:List Ce→List Ce→Bool
 | [],[]=>true
 |x::l,y::m=>w_ x y&&jP l m
 |_,_=>false
def Gm(t u:Li):Bool:=t.h.length==u.h.length&&jP t.c u.c
def oh(t:Li):Bool:=match se (jo t)with
 |some (u,[])=>Gm t u
 |_=>false
theorem fG{k:Int}{l m:List Re}{r:Re}(h:gN k l=some (r,m)):l=r::m∧r.k=k∧gg r=true:=by
 unfold gN at h;split at h
 ·split at h
  ·rename_i hk;simp only[aq,aI]at h;obtain⟨rfl,rfl⟩:=h;exact⟨rfl,hk⟩
  ·simp at h
 ·simp at h
def sO{α:Type}(p:nJ α)(fl:α→List Re):Prop:=∀l x m,p l=some (x,m)→l=fl x++m
def nL(p:nJ (List Re)):Prop:=∀l x m,p l=some (x,m)→∀r∈x,gg r=true
theorem cU:∀ks,sO (dk ks) id∧nL (dk ks)
 | []=>⟨fun l x m h=>by simp[dk]at h;simp[h],fun l x m h=>by simp[dk]at h;simp[h.1]⟩
 |k::ks=>by
  have ih:=cU ks;have key:∀l x m,dk (k::ks) l=some (x,m)→l=x++m∧∀r∈x,gg r=true:=by
   intro l x m h;unfold dk at h;split at h
   ·split at h
    ·rename_i r m1 hm;split at h
     ·rename_i rs m2 hr;simp only[aq,aI]at h;obtain⟨rfl,rfl⟩:=h;obtain⟨rfl,_,hrr⟩:=fG hm;have e1:=ih.1 _ _ _ hr;have e2:=ih.2 _ _ _ hr;simp only[id]at e1;subst e1;refine⟨rfl,fun r hr=>?_⟩;rcases List.mem_cons.1 hr with rfl|hr
      ·exact hrr
      ·exact e2 r hr
     ·simp at h
    ·simp at h
   ·exact⟨ih.1 _ _ _ h,ih.2 _ _ _ h⟩
  exact⟨fun l x m h=>(key l x m h).1,fun l x m h=>(key l x m h).2⟩
theorem fX{p q:nJ (List Re)}(hp:sO p id∧nL p)(hq:sO q id∧nL q):sO (fW p q) id∧nL (fW p q):=by
 have key:∀l x m,fW p q l=some (x,m)→l=x++m∧∀r∈x,gg r=true:=by
  intro l x m h;unfold fW at h;split at h
  ·rename_i a m1 ha;split at h
   ·rename_i b m2 hb;simp only[aq,aI]at h;obtain⟨rfl,rfl⟩:=h;have e1:=hp.1 _ _ _ ha;have e2:=hq.1 _ _ _ hb;simp only[id]at e1 e2;subst e1 e2;refine⟨by simp,fun r hr=>?_⟩;rcases List.mem_append.1 hr with hr|hr
    ·exact hp.2 _ _ _ ha r hr
    ·exact hq.2 _ _ _ hb r hr
   ·simp at h
  ·simp at h
 exact⟨fun l x m h=>(key l x m h).1,fun l x m h=>(key l x m h).2⟩
theorem o_:sO (fun l=>some (([]:List Re),l)) id∧nL (fun l=>some ([],l)):=
 ⟨fun l x m h=>by simp at h;simp[h],fun l x m h=>by simp at h;simp[h.1]⟩
theorem kG:sO j_ id∧nL j_:=by
 refine⟨fun l x m h=>?_,fun l x m h=>?_⟩<;>unfold j_ at h<;>split at h
 ·exact(cU _).1 _ _ _ h
 ·exact o_.1 _ _ _ h
 ·exact(cU _).2 _ _ _ h
 ·exact o_.2 _ _ _ h
theorem pt(k:Int):sO (gT k) id∧nL (gT k):=by
 unfold gT
 repeat' split
 ·exact cU _
 ·exact cU _
 ·exact fX (cU _) (fX kG (cU _))
 ·exact fX (cU _) (fX kG (cU _))
 ·exact fX (cU _) (fX kG (cU _))
 ·exact cU _
 ·exact cU _
 ·exact o_
theorem EH:sO eM id∧nL eM:=by
 refine⟨fun l x m h=>?_,fun l x m h=>?_⟩<;>unfold eM at h<;>split at h
 ·exact(fX (cU _) (pt _)).1 _ _ _ h
 ·simp at h
 ·exact(fX (cU _) (pt _)).2 _ _ _ h
 ·simp at h
theorem zf:∀n,sO (fe n) id∧nL (fe n)
 |0=>o_
 |n+1=>by
  have ih:=zf n;have:=fX (cU [43,44]) ih;refine⟨fun l x m h=>?_,fun l x m h=>?_⟩<;>unfold fe at h<;>split at h
  ·exact this.1 _ _ _ h
  ·exact o_.1 _ _ _ h
  ·exact this.2 _ _ _ h
  ·exact o_.2 _ _ _ h
theorem zK{k:Int}{r:Re}(hk:k=17∨k=7∨k=4)(h:r.k=k)(hr:gg r=true):r=iI k:=by
 obtain⟨rk,rd,rb⟩:=r;simp only at h;subst h;have hs:E_ rk=some ⟨0,1,0,0⟩:=by rcases hk with rfl|rfl|rfl<;>rfl
 simp only[gg,hs,aK,ly,dj]at hr;obtain⟨h1,_,_,h4,_⟩:=hr;have:rb.length=0:=by omega
 unfold iI;rw[h1,aL this]
theorem vO{k:Int}(hk:k=17∨k=7∨k=4):gg (iI k)=true:=by rcases hk with rfl|rfl|rfl<;>decide
theorem r9:sO fV eP:=by
 intro l x m h;unfold fV at h;split at h
 ·rename_i f m1 hf;split at h
  ·rename_i p m2 hp;split at h
   ·rename_i r m3 hm;simp only[aq,aI]at h;obtain⟨rfl,rfl⟩:=h;obtain⟨rfl,hk,hr⟩:=fG hm;have e1:=EH.1 _ _ _ hf;have e2:=(zf _).1 _ _ _ hp;simp only[id]at e1 e2;rw[e1,e2,zK (.inl rfl) hk hr];simp[eP]
   ·simp at h
  ·simp at h
 ·simp at h
theorem uj:∀n,sO (gf n) (List.flatMap eP)
 |0=>fun l x m h=>by simp[gf]at h;obtain⟨rfl,rfl⟩:=h;simp
 |n+1=>fun l x m h=>by
  unfold gf at h;split at h
  ·split at h
   ·rename_i y m1 hy;split at h
    ·rename_i ys m2 Wy;simp only[aq,aI]at h;obtain⟨rfl,rfl⟩:=h;have e1:=r9 _ _ _ hy;have e2:=uj n _ _ _ Wy;rw[e1,e2];simp
    ·simp at h
   ·simp at h
  ·simp at h;obtain⟨rfl,rfl⟩:=h;simp
theorem rZ:sO pZ gh:=by
 intro l x m h;unfold pZ at h;split at h
 ·rename_i f m1 hf;split at h
  ·rename_i p m2 hp;split at h
   ·rename_i r m3 hm;simp only[aq,aI]at h;obtain⟨rfl,rfl⟩:=h;obtain⟨rfl,hk,hr⟩:=fG hm;have e1:=(cU _).1 _ _ _ hf;have e2:=(uj _) _ _ _ hp;simp only[id]at e1 e2;rw[e1,e2,zK (.inr (.inl rfl)) hk hr];simp[gh]
   ·simp at h
  ·simp at h
 ·simp at h
theorem zb:∀n,sO (fF n) (List.flatMap gh)
 |0=>fun l x m h=>by simp[fF]at h;obtain⟨rfl,rfl⟩:=h;simp
 |n+1=>fun l x m h=>by
  unfold fF at h;split at h
  ·split at h
   ·rename_i y m1 hy;split at h
    ·rename_i ys m2 Wy;simp only[aq,aI]at h;obtain⟨rfl,rfl⟩:=h;have e1:=rZ _ _ _ hy;have e2:=zb n _ _ _ Wy;rw[e1,e2];simp
    ·simp at h
   ·simp at h
  ·simp at h;obtain⟨rfl,rfl⟩:=h;simp
theorem uk:∀n,sO (fQ n) id∧nL (fQ n)
 |0=>o_
 |n+1=>by
  have ih:=uk n;have key:∀l x m,fQ (n+1) l=some (x,m)→l=x++m∧∀r∈x,gg r=true:=by
   intro l x m h;unfold fQ at h;split at h
   ·split at h
    ·rename_i r m1 hm;split at h
     ·rename_i rs m2 hr;simp only[aq,aI]at h;obtain⟨rfl,rfl⟩:=h;obtain⟨rfl,_,hrr⟩:=fG hm;have e1:=ih.1 _ _ _ hr;have e2:=ih.2 _ _ _ hr;simp only[id]at e1;subst e1;refine⟨rfl,fun r hr=>?_⟩;rcases List.mem_cons.1 hr with rfl|hr
      ·exact hrr
      ·exact e2 r hr
     ·simp at h
    ·simp at h
   ·simp at h;obtain⟨rfl,rfl⟩:=h;simp
  exact⟨fun l x m h=>(key l x m h).1,fun l x m h=>(key l x m h).2⟩
theorem Bw:sO nZ id∧nL nZ:=by
 have key:∀l x m,nZ l=some (x,m)→l=x++m∧∀r∈x,gg r=true:=by
  intro l x m h;unfold nZ at h;split at h
  ·split at h
   ·rename_i a m1 ha;obtain⟨rfl,_,R0⟩:=fG ha;split at h
    ·rename_i b m2 hb;have e1:=(uk _).1 _ _ _ hb;have e2:=(uk _).2 _ _ _ hb;simp only[id]at e1;subst e1;split at h
     ·rename_i hb0;simp only[aq,aI]at h;obtain⟨rfl,rfl⟩:=h;subst hb0;exact⟨rfl,fun r hr=>by simp at hr;subst hr;exact R0⟩
     ·split at h
      ·rename_i e m3 he;simp only[aq,aI]at h;obtain⟨rfl,rfl⟩:=h;obtain⟨rfl,_,Wt⟩:=fG he;refine⟨by simp,fun r hr=>?_⟩;simp only[aD,ez,aC,bp]at hr;rcases hr with rfl|hr|rfl
       ·exact R0
       ·exact e2 r hr
       ·exact Wt
      ·simp at h
    ·simp at h
   ·simp at h
  ·simp at h;obtain⟨rfl,rfl⟩:=h;simp
 exact⟨fun l x m h=>(key l x m h).1,fun l x m h=>(key l x m h).2⟩
theorem IZ:sO p9 id∧nL p9:=fX (cU _) (fX Bw (cU _))
theorem L7:sO se jo:=by
 intro l x m h;unfold se at h;split at h
 ·rename_i f m1 hf;split at h
  ·rename_i p m2 hp;split at h
   ·rename_i r m3 hm;simp only[aq,aI]at h;obtain⟨rfl,rfl⟩:=h;obtain⟨rfl,hk,hr⟩:=fG hm;have e1:=IZ.1 _ _ _ hf;have e2:=(zb _) _ _ _ hp;simp only[id]at e1 e2;rw[e1,e2,zK (.inr (.inr rfl)) hk hr];simp[jo]
   ·simp at h
  ·simp at h
 ·simp at h
theorem OO{x y:Im}{a b:List Re}(h:xa x y=true)(e:eP x++a=eP y++b):x=y∧a=b:=by
 obtain⟨xf,xp⟩:=x;obtain⟨yf,yp⟩:=y;simp only[xa,aK,ly]at h;simp only[eP,aT]at e;obtain⟨rfl,e1⟩:=List.append_inj e h.1;obtain⟨rfl,e2⟩:=List.append_inj e1 h.2;exact⟨rfl,by simpa using e2⟩
theorem C6:∀{l m:List Im} {a b:List Re},jQ l m=true→l.flatMap eP++a=m.flatMap eP++b→l=m∧a=b
 | [],[],a,b,_,e=>⟨rfl,by simpa using e⟩
 | [],y::m,_,_,h,_=>by simp[jQ]at h
 |x::l,[],_,_,h,_=>by simp[jQ]at h
 |x::l,y::m,a,b,h,e=>by
  simp only[jQ,aK]at h;simp only[bh,aT]at e;obtain⟨rfl,e1⟩:=OO h.1 e;obtain⟨rfl,e2⟩:=C6 h.2 e1;exact⟨rfl,e2⟩
theorem ON{x y:Ce}{a b:List Re}(h:w_ x y=true)(e:gh x++a=gh y++b):x=y∧a=b:=by
 obtain⟨xf,xp⟩:=x;obtain⟨yf,yp⟩:=y;simp only[w_,aK,ly]at h;simp only[gh,aT]at e;obtain⟨rfl,e1⟩:=List.append_inj e h.1;obtain⟨rfl,e2⟩:=C6 h.2 e1;exact⟨rfl,by simpa using e2⟩
theorem C4:∀{l m:List Ce} {a b:List Re},jP l m=true→l.flatMap gh++a=m.flatMap gh++b→l=m∧a=b
 | [],[],a,b,_,e=>⟨rfl,by simpa using e⟩
 | [],y::m,_,_,h,_=>by simp[jP]at h
 |x::l,[],_,_,h,_=>by simp[jP]at h
 |x::l,y::m,a,b,h,e=>by
  simp only[jP,aK]at h;simp only[bh,aT]at e;obtain⟨rfl,e1⟩:=ON h.1 e;obtain⟨rfl,e2⟩:=C4 h.2 e1;exact⟨rfl,e2⟩
theorem Sd{x y:Li}{a b:List Re}(h:Gm x y=true)(e:jo x++a=jo y++b):x=y∧a=b:=by
 obtain⟨xf,xp⟩:=x;obtain⟨yf,yp⟩:=y;simp only[Gm,aK,ly]at h;simp only[jo,aT]at e;obtain⟨rfl,e1⟩:=List.append_inj e h.1;obtain⟨rfl,e2⟩:=C4 h.2 e1;exact⟨rfl,by simpa using e2⟩
theorem y_:∀l,jQ l l=true
 | []=>rfl
 |x::l=>by simp[jQ,xa,y_ l]
theorem y9:∀l,jP l l=true
 | []=>rfl
 |x::l=>by simp[jP,w_,y_,y9 l]
theorem Mp{t:Li}:oh t=true↔se (jo t)=some (t,[]):=by
 unfold oh;constructor
 ·intro h;split at h
  ·rename_i u hu;have e:=L7 _ _ _ hu;rw[af]at e;obtain⟨rfl,_⟩:=Sd (a:=[]) (b:=[]) h (by simpa using e);exact hu
  ·simp at h
 ·intro h;rw[h];simp[Gm,y9]
def Ab(K:List Int)(m m':List Re):Prop:=∀k∈K,dR k m=dR k m'
def YK(K:List Int){α:Type}(p:nJ α)(fl:α→List Re):Prop:=∀l x m m',p l=some (x,m)→Ab K m m'→p (fl x++m')=some (x,m')
def H2{α:Type}(p:nJ α)(fl:α→List Re):Prop:=∀l x m m',p l=some (x,m)→p (fl x++m')=some (x,m')
theorem uq{x m m':List Re}{k:Int}(h:x=[]→dR k m=dR k m'):dR k (x++m)=dR k (x++m'):=by
 cases x with
 |nil=>exact h rfl
 |cons r x=>rfl
theorem Ab.app{K:List Int}{x m m':List Re}(h:x=[]→Ab K m m'):Ab K (x++m) (x++m'):=fun k hk=>uq (fun e=>h e k hk)
theorem k8{k:Int}{r:Re}{m:List Re}(h1:r.k=k)(h2:gg r=true):gN k (r::m)=some (r,m):=by simp[gN,h1,h2]
theorem pB:∀(ks:List Int) {K:List Int},(∀k∈ks,¬k<256→k % 256∈K)→YK K (dk ks) id
 | [],K,_=>fun l x m m' h _=>by simp[dk]at h;obtain⟨rfl,rfl⟩:=h;rfl
 |k::ks,K,hK=>fun l x m m' h ha=>by
  have ih:=pB ks (K:=K) (fun k hk=>hK k (cX _ hk));have el:=(cU (k::ks)).1 _ _ _ h;simp only[id]at el⊢;unfold dk at h;split at h
  ·rename_i hc;split at h
   ·rename_i r m1 hm;split at h
    ·rename_i rs m2 hr;simp only[aq,aI]at h;obtain⟨rfl,rfl⟩:=h;obtain⟨rfl,hk,hrr⟩:=fG hm;have:=ih _ _ _ m' hr ha;unfold dk;rw[if_pos (by rcases hc with hc|hc;exact .inl hc;exact .inr hc),dO,k8 hk hrr];simp only[id]at this;simp only[this]
    ·simp at h
   ·simp at h
  ·rename_i hc;have:=ih _ _ _ m' h ha;unfold dk;rw[if_neg ?_]
   ·exact this
   ·intro hn;rcases hn with hn|hn
    ·exact hc (.inl hn)
    ·apply hc;refine .inr ?_;rw[el];rw[uq (x:=x) (m:=m) (m':=m') (fun _=>ha _ (hK k (by simp) (fun h=>hc (.inl h))))];exact hn
theorem ij:∀(ks:List Int) (k:Int),k<256→H2 (dk (ks++[k])) id∧∀l x m,dk (ks++[k]) l=some (x,m)→x≠ []
 | [],k,hk=>by
  refine⟨fun l x m m' h=>?_,fun l x m h=>?_⟩
  ·simp only[aA,dk,hk,true_or,eV]at h⊢;split at h
   ·rename_i r m1 hm;simp only[aq,aI]at h;obtain⟨rfl,rfl⟩:=h;obtain⟨rfl,hk,hrr⟩:=fG hm;simp only[id,dO,aA,k8 hk hrr]
   ·simp at h
  ·simp only[aA,dk,hk,true_or,eV]at h;split at h
   ·simp only[aq,aI]at h;rw[←h.1];simp
   ·simp at h
 |j::ks,k,hk=>by
  have ih:=ij ks k hk;have key:∀l x m m',dk (j::(ks++[k])) l=some (x,m)→dk (j::(ks++[k])) (x++m')=some (x,m')∧x≠ []:=by
   intro l x m m' h;have el:=(cU (j::(ks++[k]))).1 _ _ _ h;simp only[id]at el;unfold dk at h;split at h
   ·rename_i hc;split at h
    ·rename_i r m1 hm;split at h
     ·rename_i rs m2 hr;simp only[aq,aI]at h;obtain⟨rfl,rfl⟩:=h;obtain⟨rfl,hk,hrr⟩:=fG hm;have:=ih.1 _ _ _ m' hr;simp only[id]at this;refine⟨?_,by simp⟩;unfold dk;rw[if_pos (by rcases hc with hc|hc;exact .inl hc;exact .inr hc),dO,k8 hk hrr];simp only[this]
     ·simp at h
    ·simp at h
   ·rename_i hc;have h1:=ih.1 _ _ _ m' h;have h2:=ih.2 _ _ _ h;refine⟨?_,h2⟩;unfold dk;rw[if_neg ?_]
    ·exact h1
    ·intro hn;rcases hn with hn|hn
     ·exact hc (.inl hn)
     ·apply hc;refine .inr ?_;rw[el,uq (x:=x) (m:=m) (m':=m') (fun e=>absurd e h2)];exact hn
  exact⟨fun l x m m' h=>(key l x m m' h).1,fun l x m h=>(key l x m m h).2⟩
theorem kN{K:List Int}{p q:nJ (List Re)}(hqe:sO q id)(hp:YK K p id)(hq:H2 q id∧∀l x m,q l=some (x,m)→x≠ []):H2 (fW p q) id∧∀l x m,fW p q l=some (x,m)→x≠ []:=by
 have key:∀l x m m',fW p q l=some (x,m)→fW p q (x++m')=some (x,m')∧x≠ []:=by
  intro l x m m' h;unfold fW at h⊢;split at h
  ·rename_i a m1 h1;split at h
   ·rename_i b m2 h2;simp only[aq,aI]at h;obtain⟨rfl,rfl⟩:=h;have e2:=hqe _ _ _ h2;simp only[id]at e2;subst e2;have hb:=hq.2 _ _ _ h2;have g2:=hq.1 _ _ _ m' h2;have g1:=hp _ _ _ (b++m') h1 (Ab.app fun e=>absurd e hb);simp only[id]at g1 g2;rw[aT,g1];simp only[g2];exact⟨trivial,by simp[hb]⟩
   ·simp at h
  ·simp at h
 exact⟨fun l x m m' h=>(key l x m m' h).1,fun l x m h=>(key l x m m h).2⟩
theorem H2.loc{K:List Int}{α:Type}{p:nJ α}{fl:α→List Re}(h:H2 p fl):YK K p fl:=fun l x m m' hl _=>h l x m m' hl
theorem v_:YK [26,27,28] j_ id:=fun l x m m' h ha=>by
 have el:=kG.1 _ _ _ h;simp only[id]at el⊢;unfold j_ at h⊢;split at h
 ·rename_i hs;have hx:x≠ []:=by
   rintro rfl;have:=ij [] 26 (by decide);unfold dk at h;simp only[true_or,eV,show(26:Int)<256 by decide]at h;split at h
   ·split at h<;>simp at h
   ·simp at h
  rw[←uq (x:=x) (m:=m) (m':=m') (fun e=>absurd e hx),←el,if_pos hs];exact pB [26,283,284] (K:=[26,27,28]) (by decide) _ _ _ m' h ha
 ·rename_i hs;simp only[aq,aI]at h;obtain⟨rfl,rfl⟩:=h;rw[if_neg (by rw[aA,←ha 26 (by simp)];exact hs)];rfl
theorem IY{k:Int}(hk:o6 k=true):H2 (gT k) id∧∀l x m,gT k l=some (x,m)→x≠ []:=by
 simp only[o6,eu,ly]at hk;rcases hk with(((((rfl|rfl)|rfl)|rfl)|rfl)|rfl)|rfl
 ·exact ij [13,14] 16 (by decide)
 ·exact ij [13,14,289,271,304,305] 16 (by decide)
 ·exact kN (K:=[26,27,28]) (fX kG (cU _)).1 (ij [] 18 (by decide)).1.loc (kN (cU _).1 v_ (ij [] 16 (by decide)))
 ·exact kN (K:=[26,27,28]) (fX kG (cU _)).1 (ij [] 18 (by decide)).1.loc (kN (cU _).1 v_ (ij [19] 16 (by decide)))
 ·exact kN (K:=[23,33,15]) (fX kG (cU _)).1 (pB _ (by decide)) (kN (cU _).1 v_ (ij [16] 25 (by decide)))
 ·exact ij [13,42] 16 (by decide)
 ·exact ij [13,46] 16 (by decide)
theorem xy{r:Re}{l x m:List Re}(hk:o6 r.k=true)(h:eM (r::l)=some (x,m)):(∃x',x=r::x')∧∀m',eM (x++m')=some (x,m'):=by
 unfold eM at h;simp only at h;have hs:=kN (K:=[38,47]) (p:=dk [r.k,294,303]) (pt r.k).1 (pB _ (by
  intro k h1 h2;simp only[aD,aC,bp]at h1;rcases h1 with rfl|rfl|rfl
  ·exfalso
   apply h2;simp only[o6,eu,ly]at hk;omega
  ·decide
  ·decide)) (IY hk)
 have he:=(fX (cU [r.k,294,303]) (pt r.k)).1 _ _ _ h;simp only[id]at he;cases x with
 |nil=>exact absurd rfl (hs.2 _ _ _ h)
 |cons y x=>
  rw[dO]at he;injection he with e1 e2;subst e1;refine⟨⟨x,rfl⟩,fun m'=>?_⟩;have:=hs.1 _ _ _ m' h;simp only[id]at this;unfold eM;exact this
theorem uS{a b:Int}{l x m:List Re}(ha:a<256)(h:dk [a,b] l=some (x,m)):m.length<l.length:=by
 have e:=(cU [a,b]).1 _ _ _ h;simp only[id]at e;have hx:x≠ []:=by
  rintro rfl;unfold dk at h;simp only[ha,true_or,eV]at h;split at h
  ·split at h<;>simp at h
  ·simp at h
 rw[e,az];cases x with
 |nil=>exact absurd rfl hx
 |cons r x=>simp
theorem zg:∀(n n':Nat) (l:List Re),l.length≤n→l.length≤n'→fe n l=fe n' l
 |0,0,l,_,_=>rfl
 |0,n'+1,l,h,_=>by
  have:l=[]:=aL (by omega);subst this;simp[fe,dR]
 |n+1,0,l,_,h=>by
  have:l=[]:=aL (by omega);subst this;simp[fe,dR]
 |n+1,n'+1,l,h,h'=>by
  unfold fe;split
  ·split
   ·rename_i a m hm;have:=uS (by decide) hm;rw[zg n n' m (by omega) (by omega)]
   ·rfl
  ·rfl
theorem BH:∀n,∀l x m m',l.length≤n→fe n l=some (x,m)→Ab [43] m m'→∀n',(x++m').length≤n'→fe n' (x++m')=some (x,m')
 |0,l,x,m,m',hl,h,ha,n',hn=>by
  have:l=[]:=aL (by omega);subst this;simp[fe]at h;obtain⟨rfl,rfl⟩:=h;cases n' with
  |zero=>rfl
  |succ n'=>
   unfold fe;rw[aA,if_neg (by rw[←ha 43 (by simp)];decide)]
 |n+1,l,x,m,m',hl,h,ha,n',hn=>by
  unfold fe at h;split at h
  ·rename_i hs;split at h
   ·rename_i a m1 h1;split at h
    ·rename_i b m2 h2;simp only[aq,aI]at h;obtain⟨rfl,rfl⟩:=h;have e1:=(cU _).1 _ _ _ h1;simp only[id]at e1;subst e1;have hlen:=uS (by decide) h1;have ih:=BH n m1 b _ m' (by simp only[az]at hl hlen;omega) h2 ha;have g1:=(ij [43] 44 (by decide)).1 _ _ _ (b++m') h1;simp only[id]at g1;have ha0:a≠ []:=(ij [43] 44 (by decide)).2 _ _ _ h1;have hpos:0<a.length:=List.length_pos_iff.2 ha0;cases n' with
     |zero=>simp only[az]at hn;omega
     |succ n'=>
      unfold fe;rw[aT,uq (x:=a) (m:=b++m') (m':=m1) (fun e=>absurd e ha0),if_pos hs];rw[show dk [43,44] (a++(b++m'))=some (a,b++m')from g1];simp only;rw[ih n' (by simp only[az]at hn⊢;omega)]
    ·simp at h
   ·simp at h
  ·rename_i hs;simp only[aq,aI]at h;obtain⟨rfl,rfl⟩:=h;cases n' with
   |zero=>
    rfl
   |succ n'=>
    unfold fe;rw[aA,if_neg (by rw[←ha 43 (by simp)];exact hs)]
def g9(x:Im):Prop:=ec (eP x)=true∧fV (eP x)=some (x,[])
theorem BB{l m:List Re}{x:Im}(hs:ec l=true)(h:fV l=some (x,m)):ec (eP x)=true∧∀m',fV (eP x++m')=some (x,m'):=by
 cases l with
 |nil=>simp[ec]at hs
 |cons r l=>
  simp only[ec]at hs;unfold fV at h;split at h
  ·rename_i f m1 hf;obtain⟨⟨f',rfl⟩,g1⟩:=xy hs hf;split at h
   ·rename_i p m2 hp;split at h
    ·rename_i r' m3 hm;simp only[aq,aI]at h;obtain⟨rfl,rfl⟩:=h;obtain⟨rfl,hk,hr⟩:=fG hm;refine⟨by simpa [eP,ec]using hs,fun m'=>?_⟩;have g2:=BH _ _ _ _ (iI 17::m') (ai _) hp (fun k hk'=>by simp only[aD,aC,bp]at hk';subst hk';simp[dR,iI,hk]) _ (ai _);unfold fV;rw[show eP ⟨r::f',p⟩++m'=(r::f')++(p++(iI 17::m'))by simp[eP],g1];simp only;rw[g2];simp only;rw[k8 (k:=17) (r:=iI 17) rfl (vO (.inl rfl))]
    ·simp at h
   ·simp at h
  ·simp at h
theorem LC{l m:List Re}{x:Im}(hs:ec l=true)(h:fV l=some (x,m)):g9 x:=by
 obtain⟨h1,h2⟩:=BB hs h;exact⟨h1,by simpa using h2 []⟩
theorem g9.go{x:Im}(h:g9 x)(m:List Re):ec (eP x++m)=true∧fV (eP x++m)=some (x,m):=by
 refine⟨?_,(BB h.1 h.2).2 m⟩;have:=h.1;cases hf:eP x with
 |nil=>rw[hf]at this;simp[ec]at this
 |cons r l=>rw[hf]at this;exact this
theorem qY(x:Im):eP x≠ []:=by simp[eP]
theorem Dj:∀n l xs m,l.length≤n→gf n l=some (xs,m)→(∀x∈xs,g9 x)∧ec m=false
 |0,l,xs,m,hl,h=>by
  have:l=[]:=aL (by omega);subst this;simp[gf]at h;obtain⟨rfl,rfl⟩:=h;exact⟨by simp,rfl⟩
 |n+1,l,xs,m,hl,h=>by
  unfold gf at h;split at h
  ·rename_i hs;split at h
   ·rename_i y m1 hy;split at h
    ·rename_i ys m2 Wy;simp only[aq,aI]at h;obtain⟨rfl,rfl⟩:=h;have e:=r9 _ _ _ hy;have hlen:m1.length<l.length:=by
      rw[e,az];have:=List.length_pos_iff.2 (qY y);omega
     obtain⟨g1,g2⟩:=Dj n m1 ys _ (by omega) Wy;refine⟨fun x hx=>?_,g2⟩;rcases List.mem_cons.1 hx with rfl|hx
     ·exact LC hs hy
     ·exact g1 x hx
    ·simp at h
   ·simp at h
  ·rename_i hs;simp only[aq,aI]at h;obtain⟨rfl,rfl⟩:=h;exact⟨by simp,by simpa using hs⟩
theorem Di:∀(xs:List Im) (n:Nat) (m:List Re),(∀x∈xs,g9 x)→ec m=false→(xs.flatMap eP++m).length≤n→gf n (xs.flatMap eP++m)=some (xs,m)
 | [],n,m,_,hm,hn=>by
  cases n with
  |zero=>rfl
  |succ n=>
   unfold gf;simp only[iL,aA];rw[if_neg (by rw[hm];decide)]
 |x::xs,n,m,hx,hm,hn=>by
  obtain⟨h1,h2⟩:=g9.go (hx x (by simp)) (xs.flatMap eP++m);have hpos:=List.length_pos_iff.2 (qY x);cases n with
  |zero=>simp at hn;exact absurd hn.1 (qY x)
  |succ n=>
   unfold gf;rw[bh,aT,if_pos h1,h2];simp only;rw[Di xs n m (fun y hy=>hx y (cX _ hy)) hm (by simp only[bh,az]at hn⊢;omega)]
def zD(h:List Re):Prop:=dk [5,6,308] (h++[iI 7])=some (h,[iI 7])
def vK(c:Ce):Prop:=zD c.h∧∀x∈c.i,g9 x
theorem SX{l:List Re}{k:Int}(hs:ec l=true)(hk:o6 k=false):dR k l=false:=by
 cases l with
 |nil=>rfl
 |cons r l=>
  simp only[ec]at hs;simp only[dR,fB];rintro rfl;rw[hs]at hk;simp at hk
theorem As{xs:List Im}{m:List Re}(hx:∀x∈xs,g9 x):dR 52 (xs.flatMap eP++iI 7::m)=false:=by
 cases xs with
 |nil=>rfl
 |cons x xs=>
  rw[bh,aT];exact SX ((hx x (by simp)).go _).1 (by decide)
theorem PN{l m:List Re}{c:Ce}(h:pZ l=some (c,m)):vK c:=by
 unfold pZ at h;split at h
 ·rename_i f m1 hf;split at h
  ·rename_i p m2 hp;split at h
   ·rename_i r m3 hm;simp only[aq,aI]at h;obtain⟨rfl,rfl⟩:=h;obtain⟨rfl,hk,hr⟩:=fG hm;have hpo:=(Dj _ _ _ _ (ai _) hp).1;have e2:=uj _ _ _ _ hp;have hr7:=zK (.inr (.inl rfl)) hk hr;refine⟨?_,hpo⟩;refine pB [5,6,308] (K:=[52]) (by decide) _ _ _ _ hf (fun k hk'=>?_);simp only[aD,aC,bp]at hk';subst hk';rw[e2,hr7,As hpo];rfl
   ·simp at h
  ·simp at h
 ·simp at h
theorem zD.shape{h:List Re}(hh:zD h):∃r l,h=r::l∧r.k=5:=by
 unfold zD dk at hh;simp only[true_or,eV,show(5:Int)<256 by decide]at hh;split at hh
 ·rename_i r m hm;obtain⟨e,hk,_⟩:=fG hm;split at hh
  ·simp only[aq,aI]at hh;exact⟨r,_,hh.1.symm,hk⟩
  ·simp at hh
 ·simp at hh
theorem vK.go{c:Ce}(h:vK c)(m:List Re):dR 5 (gh c++m)=true∧pZ (gh c++m)=some (c,m):=by
 obtain⟨ch,ci⟩:=c;obtain⟨h1,h2⟩:=h;simp only at h1 h2;obtain⟨r,l,rfl,hk⟩:=h1.shape;refine⟨by simp[gh,dR,hk],?_⟩;unfold pZ;have g1:=pB [5,6,308] (K:=[52]) (by decide) _ _ _ (ci.flatMap eP++iI 7::m) h1 (fun k hk'=>by
  simp only[aD,aC,bp]at hk';subst hk';rw[As h2];rfl)
 simp only[id]at g1;rw[show gh ⟨r::l,ci⟩++m=(r::l)++(ci.flatMap eP++iI 7::m)by simp[gh],g1];simp only;rw[Di ci _ _ h2 rfl (ai _)];simp only;rw[k8 (k:=7) (r:=iI 7) rfl (vO (.inr (.inl rfl)))]
theorem qX(x:Ce):gh x≠ []:=by simp[gh]
theorem Dh:∀n l xs m,l.length≤n→fF n l=some (xs,m)→(∀x∈xs,vK x)∧dR 5 m=false
 |0,l,xs,m,hl,h=>by
  have:l=[]:=aL (by omega);subst this;simp[fF]at h;obtain⟨rfl,rfl⟩:=h;exact⟨by simp,rfl⟩
 |n+1,l,xs,m,hl,h=>by
  unfold fF at h;split at h
  ·rename_i hs;split at h
   ·rename_i y m1 hy;split at h
    ·rename_i ys m2 Wy;simp only[aq,aI]at h;obtain⟨rfl,rfl⟩:=h;have e:=rZ _ _ _ hy;have hlen:m1.length<l.length:=by
      rw[e,az];have:=List.length_pos_iff.2 (qX y);omega
     obtain⟨g1,g2⟩:=Dh n m1 ys _ (by omega) Wy;refine⟨fun x hx=>?_,g2⟩;rcases List.mem_cons.1 hx with rfl|hx
     ·exact PN hy
     ·exact g1 x hx
    ·simp at h
   ·simp at h
  ·rename_i hs;simp only[aq,aI]at h;obtain⟨rfl,rfl⟩:=h;exact⟨by simp,by simpa using hs⟩
theorem Dg:∀(xs:List Ce) (n:Nat) (m:List Re),(∀x∈xs,vK x)→dR 5 m=false→(xs.flatMap gh++m).length≤n→fF n (xs.flatMap gh++m)=some (xs,m)
 | [],n,m,_,hm,hn=>by
  cases n with
  |zero=>rfl
  |succ n=>
   unfold fF;simp only[iL,aA];rw[if_neg (by rw[hm];decide)]
 |x::xs,n,m,hx,hm,hn=>by
  obtain⟨h1,h2⟩:=vK.go (hx x (by simp)) (xs.flatMap gh++m);cases n with
  |zero=>simp at hn;exact absurd hn.1 (qX x)
  |succ n=>
   unfold fF;rw[bh,aT,if_pos h1,h2];simp only;have hpos:=List.length_pos_iff.2 (qX x);rw[Dg xs n m (fun y hy=>hx y (cX _ hy)) hm (by simp only[bh,az]at hn⊢;omega)]
def N5(h:List Re):Prop:=p9 h=some (h,[])
theorem ze:∀(n n':Nat) (l:List Re),l.length≤n→l.length≤n'→fQ n l=fQ n' l
 |0,0,l,_,_=>rfl
 |0,n'+1,l,h,_=>by
  have:l=[]:=aL (by omega);subst this;simp[fQ,dR]
 |n+1,0,l,_,h=>by
  have:l=[]:=aL (by omega);subst this;simp[fQ,dR]
 |n+1,n'+1,l,h,h'=>by
  unfold fQ;split
  ·split
   ·rename_i a m hm;have:=(fG hm).1;subst this;simp only[aF]at h h';rw[ze n n' m (by omega) (by omega)]
   ·rfl
  ·rfl
theorem vZ:∀n,∀l x m m',l.length≤n→fQ n l=some (x,m)→Ab [55] m m'→∀n',(x++m').length≤n'→fQ n' (x++m')=some (x,m')
 |0,l,x,m,m',hl,h,ha,n',hn=>by
  have:l=[]:=aL (by omega);subst this;simp[fQ]at h;obtain⟨rfl,rfl⟩:=h;cases n' with
  |zero=>rfl
  |succ n'=>
   unfold fQ;rw[aA,if_neg (by rw[←ha 55 (by simp)];decide)]
 |n+1,l,x,m,m',hl,h,ha,n',hn=>by
  unfold fQ at h;split at h
  ·rename_i hs;split at h
   ·rename_i a m1 h1;split at h
    ·rename_i b m2 h2;simp only[aq,aI]at h;obtain⟨rfl,rfl⟩:=h;obtain⟨rfl,hk,hr⟩:=fG h1;simp only[aF]at hl;have ih:=vZ n m1 b _ m' (by omega) h2 ha;cases n' with
     |zero=>simp at hn
     |succ n'=>
      unfold fQ;rw[dO,if_pos (by simp[dR,hk]),k8 hk hr];simp only;rw[ih n' (by simpa using hn)]
    ·simp at h
   ·simp at h
  ·rename_i hs;simp only[aq,aI]at h;obtain⟨rfl,rfl⟩:=h;cases n' with
   |zero=>rfl
   |succ n'=>
    unfold fQ;rw[aA,if_neg (by rw[←ha 55 (by simp)];exact hs)]
theorem L0:YK [54,55] nZ id:=fun l x m m' h ha=>by
 unfold nZ at h;split at h
 ·rename_i hs;split at h
  ·rename_i a m1 h1;obtain⟨rfl,hk,hr⟩:=fG h1;split at h
   ·rename_i b m2 h2;split at h
    ·rename_i hb;simp only[aq,aI]at h;obtain⟨rfl,rfl⟩:=h;subst hb;have g:=vZ _ _ _ _ m' (ai _) h2 (fun k hk'=>ha k (by simp only[aD,aC,bp]at hk'⊢;exact .inr hk')) m'.length (by simp);unfold nZ;simp only[id,dO,aA]at g⊢;rw[if_pos (by simp[dR,hk]),k8 hk hr];simp only[g,eV]
    ·rename_i hb;split at h
     ·rename_i e m3 h3;obtain⟨rfl,hk3,hr3⟩:=fG h3;simp only[aq,aI]at h;obtain⟨rfl,rfl⟩:=h;have g:=vZ _ _ _ _ (e::m') (ai _) h2 (fun k hk'=>by simp[dR]) (b++e::m').length (ai _);unfold nZ;simp only[id,dO,aT,aA]at g⊢;rw[if_pos (by simp[dR,hk]),k8 hk hr];simp only[g];rw[if_neg hb,k8 hk3 hr3]
     ·simp at h
   ·simp at h
  ·simp at h
 ·rename_i hs;simp only[aq,aI]at h;obtain⟨rfl,rfl⟩:=h;unfold nZ;simp only[id,aA];rw[if_neg (by rw[←ha 54 (by simp)];exact hs)]
theorem BA:H2 p9 id∧∀l x m,p9 l=some (x,m)→x≠ []:=
 kN (K:=[57,58,59,31,32,35,34]) (fX Bw (cU _)).1 (pB _ (by decide)) (kN (cU _).1 L0 (ij [] 3 (by decide)))
theorem uz{t:Li}:oh t=true↔N5 t.h∧∀c∈t.c,vK c:=by
 rw[Mp];obtain⟨th,tc⟩:=t;constructor
 ·intro h;unfold se at h;split at h
  ·rename_i f m1 hf;split at h
   ·rename_i p m2 hp;split at h
    ·rename_i r m3 hm;simp only[aq,aI,Li.mk.injEq]at h;obtain⟨⟨rfl,rfl⟩,rfl⟩:=h;refine⟨?_,(Dh _ _ _ _ (ai _) hp).1⟩;have:=BA.1 _ _ _ [] hf;simpa [N5]using this
    ·simp at h
   ·simp at h
  ·simp at h
 ·rintro⟨h1,h2⟩;simp only at h1 h2;unfold se;have g1:=BA.1 _ _ _ (tc.flatMap gh++[iI 4]) h1;simp only[id]at g1;simp only[jo];rw[g1];simp only;rw[Dg tc _ _ h2 rfl (ai _)];simp only;rw[k8 (k:=4) (r:=iI 4) rfl (vO (.inr (.inr rfl)))]
end Go.Proofs.YtgaaopjagcaojaaGreat
