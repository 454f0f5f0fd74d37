/- An AREF has the shapes of its SREFs, one by one, row by row, whenever the Go function FlatArrays is called. -/
import Derived.Test.YtgaaopjagcaojaaGreatCa
import Derived.Test.YtgaaopjagcaojaaGreatBb
import Derived.Test.YtgaaopjagcaojaaGreatRows
import Derived.JoinedOf
import Derived.ProofKit
import Derived.Test.YtgaaopjagcaojaaGreatVy
import Derived.SizedLaws
import Derived.Test.YtgaaopjagcaojaaGreatVk
set_option linter.unusedSimpArgs false
set_option linter.unusedVariables false
set_option maxHeartbeats 4000000
namespace Go.Proofs.YtgaaopjagcaojaaGreat
open Go.RowKit Go.IntWalk
def lS(c r x y dx dy ex ey:Int):Im:=⟨[⟨11,0,[]⟩,⟨18,6,mz mT⟩,⟨19,2,[c,r].flatMap sB⟩,⟨16,3,[x,y,x+c*dx,y+c*dy,x+r*ex,y+r*ey].flatMap lB⟩],[]⟩
def jo(c r:Nat)(x y dx dy ex ey:Int):List Im:=(List.range r).flatMap fun k:Nat=>(List.range c).map fun i:Nat=>k8 mT (x+i*dx+k*ex) (y+i*dy+k*ey)
theorem LO{b:List Int}{n:Nat}(h:b.length=8*n)(h1:1≤n)(h2:n≤8191):gh ⟨16,3,b⟩=true:=by
 rw[BM (s:=⟨3,8,1,8191⟩) (by rfl)];simp only[h];rw[show((8*n:Nat):Int) % 8=0 by omega,show((8*n:Nat):Int)/8=n by omega];simp[AW,AV];omega
theorem yx(k:Int)(ks:List Int)(l:List Re):dk (k::ks) l=if k<256∨dR (k % 256) l=true then
   (match gQ (k % 256) l with
    |some (r,m)=>(match dk ks m with
     |some (rs,m')=>some (r::rs,m')
     |none=>none)
    |none=>none)
  else dk ks l:=rfl
def MT(s k b:List Int):Im:=⟨[⟨8,0,[]⟩,⟨13,2,s⟩,⟨14,2,k⟩,⟨16,3,b⟩],[]⟩
theorem Ra{a k:Int}{b:List Int}(h:gh ⟨16,3,b⟩=true):hZ (MT ([a].flatMap sB) ([k].flatMap sB) b):=by
 refine⟨by kernel_rfl,?_⟩;have e:dk [16] [⟨16,3,b⟩,iI 17]=some ([⟨16,3,b⟩],[iI 17]):=by
  rw[yx,if_pos (.inl (by decide))];unfold gQ;rw[show(16:Int) % 256=16 by decide];simp only;rw[if_pos ⟨trivial,h⟩];rfl
 have e2:dk [13,14,16] [⟨13,2,[a].flatMap sB⟩,⟨14,2,[k].flatMap sB⟩,⟨16,3,b⟩,iI 17]=some ([⟨13,2,[a].flatMap sB⟩,⟨14,2,[k].flatMap sB⟩,⟨16,3,b⟩],[iI 17]):=by
  have:∀r:Re,dk [13,14,16] [⟨13,2,[a].flatMap sB⟩,⟨14,2,[k].flatMap sB⟩,r,iI 17]=(match dk [16] [r,iI 17]with
    |some (rs,m')=>some (⟨13,2,[a].flatMap sB⟩::⟨14,2,[k].flatMap sB⟩::rs,m')
    |none=>none):=fun r=>by
   rw[yx,if_pos (.inl (by decide)),show gQ (13 % 256) [⟨13,2,[a].flatMap sB⟩,⟨14,2,[k].flatMap sB⟩,r,iI 17]=some (⟨13,2,[a].flatMap sB⟩,[⟨14,2,[k].flatMap sB⟩,r,iI 17])by kernel_rfl];simp only;rw[yx,if_pos (.inl (by decide)),show gQ (14 % 256) [⟨14,2,[k].flatMap sB⟩,r,iI 17]=some (⟨14,2,[k].flatMap sB⟩,[r,iI 17])by kernel_rfl];simp only;cases dk [16] [r,iI 17]<;>rfl
  rw[this,e]
 have e3:eM (eQ (MT ([a].flatMap sB) ([k].flatMap sB) b))=some ((MT ([a].flatMap sB) ([k].flatMap sB) b).f,[iI 17]):=by
  show fX (dk [8,294,303]) (gW 8) [⟨8,0,[]⟩,⟨13,2,[a].flatMap sB⟩,⟨14,2,[k].flatMap sB⟩,⟨16,3,b⟩,iI 17]=_;unfold fX;rw[show dk [8,294,303] [⟨8,0,[]⟩,⟨13,2,[a].flatMap sB⟩,⟨14,2,[k].flatMap sB⟩,⟨16,3,b⟩,iI 17]=some ([⟨8,0,[]⟩],[⟨13,2,[a].flatMap sB⟩,⟨14,2,[k].flatMap sB⟩,⟨16,3,b⟩,iI 17])by kernel_rfl];simp only;rw[show gW 8=dk [13,14,16]by rfl,e2];rfl
 unfold fW;rw[e3];rfl
theorem Bs:∀l:List Dp,jD (l.flatMap pO)=l
 | []=>rfl
 |d::l=>by
  rw[bj];show⟨d.x,d.y⟩::jD (l.flatMap pO)=_;rw[Bs l]
def zN(d:Dp):Prop:=(-1000000≤d.x∧d.x≤1000000)∧ -1000000≤d.y∧d.y≤1000000
section
variable{ps:List Dp}
theorem Ax(hl:3≤ps.length∧ps.length≤12):(g8 ps).length=ps.length+1:=by
 unfold g8;rw[az,dF];omega
theorem KT(hl:3≤ps.length∧ps.length≤12)(a k:Int):hZ (cL a k ps):=by
 refine Ra (LO (n:=ps.length+1) ?_ (by omega) (by omega));rw[N8,qT,Ax hl];omega
theorem Av(hl:3≤ps.length∧ps.length≤12)(hm:∀d∈ps,zN d)(a k:Int):a_ (cL a k ps)=g8 ps:=by
 unfold a_;rw[show dK (cL a k ps) 16=some ⟨16,3,((g8 ps).flatMap pO).flatMap lB⟩by kernel_rfl];simp only;rw[Bb,Bs];intro z hz;obtain⟨d,hd,hz⟩:=List.mem_flatMap.1 hz;have zK:d∈ps:=by
  unfold g8 at hd;rcases List.mem_append.1 hd with h|h
  ·exact h
  ·exact dI h
 have:=hm d zK;unfold zN at this;simp only[pO,aD,aC,bp]at hz;rcases hz with rfl|rfl<;>omega
theorem DT(hl:3≤ps.length∧ps.length≤12)(hm:∀d∈ps,zN d)(a k:Int):gU (cL a k ps)=true:=by
 have hk:cC (cL a k ps)=8:=rfl;unfold gU;rw[if_pos hk,Av hl hm];have hn:=Ax hl;rw[aK,dj,dj,hn];refine⟨by omega,?_⟩;cases ps with
 |nil=>simp at hl
 |cons d l=>
  unfold g8;simp
theorem Ft(hl:3≤ps.length∧ps.length≤12)(hm:∀d∈ps,zN d)(a k:Int):(a_ (cL a k ps)).dropLast=ps:=by
 rw[Av hl hm];cases ps with
 |nil=>simp at hl
 |cons d l=>exact List.dropLast_concat
end
theorem EN(c:Nat):∀l:List Nat,(l.map fun _=>c).sum=l.length*c
 | []=>by simp
 |a::l=>by
  rw[b_,fA,EN c l,aF,ed];omega
theorem zE{c z:Int}(hc:1≤c):Rat.divInt (c*z) c=(z:Rat):=by
 rw[iu,dH];have:(c:Rat)≠0:=by
  intro h;have:=Rat.intCast_inj.1 (show(c:Rat)=((0:Int):Rat)from h);omega
 grind
theorem Kw(x y:Int)(h:(-1000000≤x∧x≤1000000)∧ -1000000≤y∧y≤1000000):a_ (k8 mT x y)=[⟨x,y⟩]:=by
 unfold a_;rw[show dK (k8 mT x y) 16=some ⟨16,3,[x,y].flatMap lB⟩by kernel_rfl];simp only;rw[Bb]
 ·rfl
 ·intro z hz;simp only[aD,aC,bp]at hz;rcases hz with rfl|rfl<;>omega
theorem aab(x y:Int)(h:(-1000000≤x∧x≤1000000)∧ -1000000≤y∧y≤1000000):lz (k8 mT x y) 0 0=Gv x y:=by
 unfold lz oC;rw[Kw x y h,show oY (k8 mT x y)=false by kernel_rfl,show gH (k8 mT x y)=0 by kernel_rfl,show jK (k8 mT x y)=1 by kernel_rfl,if_neg (by simp),if_neg (by simp)];rfl
theorem MU{ps:List Dp}(hl:3≤ps.length∧ps.length≤12)(hm:∀d∈ps,zN d)(a k:Int):hZ (cL a k ps)∧cC (cL a k ps)=8∧gU (cL a k ps)=true∧iB (cL a k ps)=none:=
 ⟨KT hl a k,rfl,DT hl hm a k,by kernel_rfl⟩
theorem Su{B:Im}{l:List Im}(h:qL B l):zu (gn B l).c:=Vf h.lost (by rw[h.feat];simp) (by
  rintro⟨c,hc,hd⟩;obtain⟨d,he⟩:=h.deps hc;rw[he]at hd;simp at hd)
theorem Sv{B:Im}{l:List Im}(h:qL B l){s:List Sh}(hs:gl (fun U=>fy B ((a_ B).dropLast.map (s_ U))) (l.flatMap fun x=>(List.range (aT x).2.toNat).flatMap fun k:Nat=>(List.range (aT x).1.toNat).map fun i:Nat=>(lz x i k).then yg)=.ok s):(s.length:Int)=(l.map fun x=>(aT x).1*(aT x).2).sum:=by
 rw[←h.total];exact Lm (Su h) (h.lay.trans hs)
section
variable{c r:Nat}{x y dx dy ex ey:Int}
theorem kR{c:Nat}{z:Int}(hc:c≤6)(hz: -1000≤z∧z≤1000): -6000≤(c:Int)*z∧(c:Int)*z≤6000:=by
 have h:=cK (c:Int) z;have h2:c*z.natAbs≤6*1000:=aR hc (by omega);have h3:((c:Int)).natAbs=c:=by omega
 rw[h3]at h;omega
theorem s9(hc:1≤c∧c≤6)(hr:1≤r∧r≤6):aT (lS c r x y dx dy ex ey)=((c:Int),(r:Int)):=by
 unfold aT;rw[show dK (lS c r x y dx dy ex ey) 19=some ⟨19,2,[(c:Int),(r:Int)].flatMap sB⟩by kernel_rfl];simp only;rw[LS]
 ·rfl
 ·intro z hz;simp only[aD,aC,bp]at hz;rcases hz with rfl|rfl<;>omega
theorem Ji(hc:1≤c∧c≤6)(hr:1≤r∧r≤6)(hx: -1000≤x∧x≤1000)(hy: -1000≤y∧y≤1000)(hdx: -1000≤dx∧dx≤1000)(wO: -1000≤dy∧dy≤1000)(hex: -1000≤ex∧ex≤1000)(wP: -1000≤ey∧ey≤1000):a_ (lS c r x y dx dy ex ey)=[⟨x,y⟩,⟨x+c*dx,y+c*dy⟩,⟨x+r*ex,y+r*ey⟩]:=by
 unfold a_;rw[show dK (lS c r x y dx dy ex ey) 16=some ⟨16,3,[x,y,x+c*dx,y+c*dy,x+r*ex,y+r*ey].flatMap lB⟩by kernel_rfl];simp only;have h1:=kR hc.2 hdx;have h2:=kR hc.2 wO;have h3:=kR hr.2 hex;have h4:=kR hr.2 wP;rw[Bb]
 ·rfl
 ·intro z hz;simp only[aD,aC,bp]at hz;rcases hz with rfl|rfl|rfl|rfl|rfl|rfl<;>omega
theorem S6(hc:1≤c∧c≤6)(hr:1≤r∧r≤6)(hx: -1000≤x∧x≤1000)(hy: -1000≤y∧y≤1000)(hdx: -1000≤dx∧dx≤1000)(wO: -1000≤dy∧dy≤1000)(hex: -1000≤ex∧ex≤1000)(wP: -1000≤ey∧ey≤1000)(i k:Int):lz (lS c r x y dx dy ex ey) i k=Gv (x+i*dx+k*ex) (y+i*dy+k*ey):=by
 unfold lz oC;rw[Ji hc hr hx hy hdx wO hex wP,s9 hc hr,show oY (lS c r x y dx dy ex ey)=false by kernel_rfl,show gH (lS c r x y dx dy ex ey)=0 by kernel_rfl,show jK (lS c r x y dx dy ex ey)=1 by kernel_rfl];rw[if_pos (by rfl),if_pos (by rfl)];simp only[List.getD_cons_zero,List.getD_cons_succ];unfold CQ;rw[show(x+c*dx-x)*i=c*(i*dx)by rw[show x+c*dx-x=c*dx by omega,Int.mul_assoc,iq dx],show(x+r*ex-x)*k=r*(k*ex)by rw[show x+r*ex-x=r*ex by omega,Int.mul_assoc,iq ex],
  show(y+c*dy-y)*i=c*(i*dy)by rw[show y+c*dy-y=c*dy by omega,Int.mul_assoc,iq dy],show(y+r*ey-y)*k=r*(k*ey)by rw[show y+r*ey-y=r*ey by omega,Int.mul_assoc,iq ey],
  zE (by omega),zE (by omega),zE (by omega),zE (by omega)]
 unfold Gv;simp only[fV]
theorem QY(hc:1≤c∧c≤6)(hr:1≤r∧r≤6)(hx: -1000≤x∧x≤1000)(hy: -1000≤y∧y≤1000)(hdx: -1000≤dx∧dx≤1000)(wO: -1000≤dy∧dy≤1000)(hex: -1000≤ex∧ex≤1000)(wP: -1000≤ey∧ey≤1000){B:Im}(hB:hZ B∧cC B=8∧gU B=true∧iB B=none):qL B [lS c r x y dx dy ex ey]:=by
 refine⟨hB.1,hB.2.1,hB.2.2.1,hB.2.2.2,fun z hz=>?_,by simp⟩;simp only[aD,aC,bp]at hz;subst hz;have hk:cC (lS c r x y dx dy ex ey)=11:=rfl;refine⟨⟨by kernel_rfl,by kernel_rfl⟩,.inr hk,?_,by kernel_rfl⟩;unfold gU;rw[if_neg (by omega),if_neg (by omega),if_neg (by omega),if_neg (by omega),if_pos hk,s9 hc hr,Ji hc hr hx hy hdx wO hex wP,show iU (lS c r x y dx dy ex ey)=true by kernel_rfl];simp;omega
theorem MH(hc:1≤c∧c≤6)(hr:1≤r∧r≤6)(hx: -1000≤x∧x≤1000)(hy: -1000≤y∧y≤1000)(hdx: -1000≤dx∧dx≤1000)(wO: -1000≤dy∧dy≤1000)(hex: -1000≤ex∧ex≤1000)(wP: -1000≤ey∧ey≤1000){i k:Nat}(hi:i<c)(hk:k<r):((-1000000≤x+i*dx+k*ex∧x+i*dx+k*ex≤1000000)∧ -1000000≤y+i*dy+k*ey∧y+i*dy+k*ey≤1000000):=by
 have h1:=kR (c:=i) (by omega) hdx;have h2:=kR (c:=i) (by omega) wO;have h3:=kR (c:=k) (by omega) hex;have h4:=kR (c:=k) (by omega) wP;omega
theorem zW(hc:1≤c∧c≤6)(hr:1≤r∧r≤6)(hx: -1000≤x∧x≤1000)(hy: -1000≤y∧y≤1000)(hdx: -1000≤dx∧dx≤1000)(wO: -1000≤dy∧dy≤1000)(hex: -1000≤ex∧ex≤1000)(wP: -1000≤ey∧ey≤1000){z:Im}(hz:z∈jo c r x y dx dy ex ey):∃i k:Nat,i<c∧k<r∧z=k8 mT (x+i*dx+k*ex) (y+i*dy+k*ey):=by
 obtain⟨k,hk,hz⟩:=List.mem_flatMap.1 hz;obtain⟨i,hi,rfl⟩:=List.mem_map.1 hz;exact⟨i,k,by simpa using hi,by simpa using hk,rfl⟩
theorem PD(hc:1≤c∧c≤6)(hr:1≤r∧r≤6)(hx: -1000≤x∧x≤1000)(hy: -1000≤y∧y≤1000)(hdx: -1000≤dx∧dx≤1000)(wO: -1000≤dy∧dy≤1000)(hex: -1000≤ex∧ex≤1000)(wP: -1000≤ey∧ey≤1000){B:Im}(hB:hZ B∧cC B=8∧gU B=true∧iB B=none):qL B (jo c r x y dx dy ex ey):=by
 refine⟨hB.1,hB.2.1,hB.2.2.1,hB.2.2.2,fun z hz=>?_,?_⟩
 ·obtain⟨i,k,hi,hk,rfl⟩:=zW hc hr hx hy hdx wO hex wP hz;have ha:=MH hc hr hx hy hdx wO hex wP hi hk;generalize x+i*dx+k*ex=X at*;generalize y+i*dy+k*ey=Y at*;have hk:cC (k8 mT X Y)=10:=rfl;refine⟨⟨by kernel_rfl,by kernel_rfl⟩,.inl hk,?_,by kernel_rfl⟩;unfold gU;rw[if_neg (by omega),if_neg (by omega),if_neg (by omega),if_pos hk,Kw X Y ha,show aT (k8 mT X Y)=(1,1)by kernel_rfl,show iU (k8 mT X Y)=true by kernel_rfl];rfl
 ·intro he;have:k8 mT (x+(0:Nat)*dx+(0:Nat)*ex) (y+(0:Nat)*dy+(0:Nat)*ey)∈jo c r x y dx dy ex ey:=List.mem_flatMap.2 ⟨0,by simp;omega,List.mem_map.2 ⟨0,by simp;omega,rfl⟩⟩;rw[he]at this;simp at this
theorem K8(hc:1≤c∧c≤6)(hr:1≤r∧r≤6)(hx: -1000≤x∧x≤1000)(hy: -1000≤y∧y≤1000)(hdx: -1000≤dx∧dx≤1000)(wO: -1000≤dy∧dy≤1000)(hex: -1000≤ex∧ex≤1000)(wP: -1000≤ey∧ey≤1000):((jo c r x y dx dy ex ey).flatMap fun z=>(List.range (aT z).2.toNat).flatMap fun k:Nat=>(List.range (aT z).1.toNat).map fun i:Nat=>(lz z i k).then yg)=
  ([lS c r x y dx dy ex ey].flatMap fun z=>(List.range (aT z).2.toNat).flatMap fun k:Nat=>(List.range (aT z).1.toNat).map fun i:Nat=>(lz z i k).then yg):=by
 rw[bj,iL,af,s9 hc hr];simp only[gB];unfold jo;rw[List.flatMap_assoc];refine dz List.flatten (nQ fun k hk=>?_);rw[List.flatMap_map];have:∀m:List Nat,(∀i∈m,i<c)→(m.flatMap fun i:Nat=>(List.range (aT (k8 mT (x+i*dx+k*ex) (y+i*dy+k*ey))).2.toNat).flatMap fun k':Nat=>(List.range (aT (k8 mT (x+i*dx+k*ex) (y+i*dy+k*ey))).1.toNat).map fun i':Nat=>(lz (k8 mT (x+i*dx+k*ex) (y+i*dy+k*ey)) i' k').then yg)=
   m.map fun i:Nat=>(lz (lS c r x y dx dy ex ey) i k).then yg:=by
  intro m
  induction m with
  |nil=>intro _;rfl
  |cons i m ih=>
   intro hm;rw[bj,b_,ih fun j hj=>hm j (by simp[hj]),S6 hc hr hx hy hdx wO hex wP];have ha:=MH hc hr hx hy hdx wO hex wP (hm i (by simp)) (by simpa using hk);generalize x+i*dx+k*ex=X at*;generalize y+i*dy+k*ey=Y at*;rw[show aT (k8 mT X Y)=(1,1)by kernel_rfl];show [(lz (k8 mT X Y) 0 0).then yg]++_=_;rw[aab X Y ha];rfl
 exact this _ fun i hi=>by simpa using hi
theorem RI(hc:1≤c∧c≤6)(hr:1≤r∧r≤6)(hx: -1000≤x∧x≤1000)(hy: -1000≤y∧y≤1000)(hdx: -1000≤dx∧dx≤1000)(wO: -1000≤dy∧dy≤1000)(hex: -1000≤ex∧ex≤1000)(wP: -1000≤ey∧ey≤1000){ps:List Dp}(hm:∀d∈ps,zN d)(B:Im){X Y:Int}(ha:(-1000000≤X∧X≤1000000)∧ -1000000≤Y∧Y≤1000000):∃s,fy B (ps.map (s_ ((Gv X Y).then yg)))=.ok s:=by
 rw[RK];obtain⟨q,hq⟩:=CR (l:=ps.map (s_ (Gv X Y))) (fun p hp=>by
  obtain⟨d,hd,rfl⟩:=List.mem_map.1 hp;have:=hm d hd;unfold zN at this;unfold s_;simp only;rw[ZC,ZD,Oq,Oq];unfold yW;omega)
 exact⟨_,by unfold fy;rw[hq]⟩
theorem QX(hc:1≤c∧c≤6)(hr:1≤r∧r≤6)(hx: -1000≤x∧x≤1000)(hy: -1000≤y∧y≤1000)(hdx: -1000≤dx∧dx≤1000)(wO: -1000≤dy∧dy≤1000)(hex: -1000≤ex∧ex≤1000)(wP: -1000≤ey∧ey≤1000):(([lS c r x y dx dy ex ey]:List Im).map fun z=>(aT z).1*(aT z).2).sum=((c*r:Nat):Int):=by
 have hg:=s9 (x:=x) (y:=y) (dx:=dx) (dy:=dy) (ex:=ex) (ey:=ey) hc hr;generalize lS c r x y dx dy ex ey=A at hg⊢;rw[b_,cZ,fA,uY,hg,qh];exact(dp c r).symm
theorem PC(hc:1≤c∧c≤6)(hr:1≤r∧r≤6)(hx: -1000≤x∧x≤1000)(hy: -1000≤y∧y≤1000)(hdx: -1000≤dx∧dx≤1000)(wO: -1000≤dy∧dy≤1000)(hex: -1000≤ex∧ex≤1000)(wP: -1000≤ey∧ey≤1000):((jo c r x y dx dy ex ey).map fun z=>(aT z).1*(aT z).2).sum=((c*r:Nat):Int):=by
 have e:(jo c r x y dx dy ex ey).map (fun z=>(aT z).1*(aT z).2)=(jo c r x y dx dy ex ey).map fun _=>(1:Int):=nQ fun z hz=>by
  obtain⟨i,k,_,_,rfl⟩:=zW hc hr hx hy hdx wO hex wP hz;generalize x+i*dx+k*ex=X;generalize y+i*dy+k*ey=Y;rw[show aT (k8 mT X Y)=(1,1)by kernel_rfl];rfl
 rw[e,oP,Int.mul_one];unfold jo;rw[List.length_flatMap];simp only[bL,dX];rw[EN,dX,eA]
theorem QW(hc:1≤c∧c≤6)(hr:1≤r∧r≤6)(hx: -1000≤x∧x≤1000)(hy: -1000≤y∧y≤1000)(hdx: -1000≤dx∧dx≤1000)(wO: -1000≤dy∧dy≤1000)(hex: -1000≤ex∧ex≤1000)(wP: -1000≤ey∧ey≤1000){ps:List Dp}(hl:3≤ps.length∧ps.length≤12)(hm:∀d∈ps,zN d)(a k:Int):
  ∃s,gl (fun U=>fy (cL a k ps) ((a_ (cL a k ps)).dropLast.map (s_ U))) ([lS c r x y dx dy ex ey].flatMap fun z=>(List.range (aT z).2.toNat).flatMap fun k:Nat=>(List.range (aT z).1.toNat).map fun i:Nat=>(lz z i k).then yg)=.ok s:=Hg (fun U hU=>by
  rw[bj,iL,af,s9 hc hr]at hU;simp only[gB]at hU;obtain⟨j,hj,hU⟩:=List.mem_flatMap.1 hU;obtain⟨i,hi,rfl⟩:=List.mem_map.1 hU;rw[S6 hc hr hx hy hdx wO hex wP,Ft hl hm];exact RI hc hr hx hy hdx wO hex wP hm _ (MH hc hr hx hy hdx wO hex wP (by simpa using hi) (by simpa using hj)))
theorem MG(hc:1≤c∧c≤6)(hr:1≤r∧r≤6)(hx: -1000≤x∧x≤1000)(hy: -1000≤y∧y≤1000)(hdx: -1000≤dx∧dx≤1000)(wO: -1000≤dy∧dy≤1000)(hex: -1000≤ex∧ex≤1000)(wP: -1000≤ey∧ey≤1000){ps:List Dp}(hl:3≤ps.length∧ps.length≤12)(hm:∀d∈ps,zN d)(a k:Int):
  ∃s,vh (gn (cL a k ps) [lS c r x y dx dy ex ey]) 36=.ok s∧vh (gn (cL a k ps) (jo c r x y dx dy ex ey)) 36=.ok s∧s.length=c*r:=by
 have hB:=MU hl hm a k;have h1:=QY hc hr hx hy hdx wO hex wP hB;have h2:=PD hc hr hx hy hdx wO hex wP hB;have EW:c*r≤36:=aP (aR hc.2 hr.2) (by decide);have t1:=QX hc hr hx hy hdx wO hex wP;have t2:=PC hc hr hx hy hdx wO hex wP;have f1:=h1.flat (n:=36) (by decide) (by decide) (by rw[t1];exact Int.ofNat_le.2 EW);have f2:=h2.flat (n:=36) (by decide) (by decide) (by rw[t2];exact Int.ofNat_le.2 EW);rw[K8 hc hr hx hy hdx wO hex wP]at f2;obtain⟨s,hs⟩:=QW hc hr hx hy hdx wO hex wP hl hm a k;have hn:=Sv h1 hs;rw[t1]at hn;exact⟨s,f1.trans hs,f2.trans hs,Int.ofNat.inj hn⟩
end
section
variable{Γ:List aE}
end
theorem wK{b:Nat}:∀{l:List Nat} {a:Nat},a≤b→(∀x∈l,x≤b)→l.foldl max a≤b
 | [],a,ha,_=>ha
 |y::l,a,ha,h=>wK (l:=l) (by have:=h y (by simp);omega) (fun x hx=>h x (by simp[hx]))
theorem Du{α:Type}{f:Nat→Nat}{g:α→Nat}:∀(l:List α) (k:Nat),(∀i x,l[i]? =some x→f (k+i)≤g x)→((List.range' k l.length).map f).sum≤(l.map g).sum
 | [],k,_=>by simp
 |x::l,k,h=>by
  rw[aF,List.range'_succ,b_,fA,b_,fA];have h1:=h 0 x rfl;have h2:=Du l (k+1) (fun i y hy=>by
   have:=h (i+1) y (by simpa using hy);rw[show k+1+i=k+(i+1)by omega];exact this)
  simp only[fm]at h1;omega
theorem Xk{t:List Ce}{i:Nat}{c:Ce}(hc:t[i]? =some c){b:Nat}(h:∀x∈c.i,wI x≤b):wC t i≤b:=by
 unfold wC;rw[tJ hc];exact wK (aM _) (fun y hy=>by
  obtain⟨x,hx,rfl⟩:=List.mem_map.1 hy;exact h x hx)
theorem Sr{t:List Ce}{g:Ce→Nat}(h:∀c∈t,∀x∈c.i,wI x≤g c):zr t≤(t.map g).sum:=by
 unfold zr;rw[List.range_eq_range'];refine Du t 0 (fun i c hc=>?_);rw[cz];exact Xk hc (h c (aO hc))
section
variable{Γ:List aE}
theorem xj(aa:Option Addr)(an ac:Nat)(ba:Option Addr)(bn bc:Nat){l:List Sh} [h1:aZ (LF oR qK.x ⟨aa,an,ac⟩) l Γ] [h2:aZ (LF oR qK.x ⟨ba,bn,bc⟩) l Γ]:
  au tb Tryz.prog 14 [.slice aa an ac,.slice ba bn bc] Γ (jv (.bool true)):=by
 refine au.of_W aB Tryz.func14 rfl ?_;refine W.len oR qK.x ⟨aa,an,ac⟩ rfl (fun ha ha2 ha3=>?_);refine W.len oR qK.x ⟨ba,bn,bc⟩ rfl (fun hb _ _=>?_);simp only at ha hb ha2 ha3;refine aS [] 11 ((an:Int) != (bn:Int)) (by rw[ha,hb];simp) ?_;refine j0 [11] [4,5] (fun a:SO=>[(4,.bool false),(5,.int .i64 a.z)]) (fun _=>[]) (fun _=>[]) (fun _=>[LF oR qK.x ⟨aa,an,ac⟩ l,LF oR qK.x ⟨ba,bn,bc⟩ l]) (fun a=>a.z=a.i∧a.i≤an) (fun a=>an-a.i) ⟨0,0,.bool true,[]⟩ ⟨rfl,aM _⟩ (eC eK (eC eK eE)) ?_;rintro⟨i,z,v,O⟩ K ⟨hz,hi⟩ close;simp only at hz hi;by_cases hl:z<(an:Int)
 ·obtain⟨⟨A,k,p⟩,hx⟩:∃x,l[i]? =some x:=⟨_,ar (by omega)⟩;refine Mu oR qK.x ⟨aa,an,ac⟩ hx (by kernel_rfl) (by decide) (fun xV ye e ha4 he=>?_);obtain⟨⟨pa,pn,pc⟩,e⟩:=e;obtain rfl:e=⟨A,k,p⟩:=he;simp only at ha4;subst ha4;refine Mu oR qK.x ⟨ba,bn,bc⟩ hx (by kernel_rfl) (by decide) (fun DQ Ek e hb4 he=>?_);obtain⟨⟨qa,qn,qc⟩,e⟩:=e;obtain rfl:e=⟨A,k,p⟩:=he;simp only at hb4;subst hb4;refine W.more (Δ:=[zw ⟨pa,pn,pc⟩ p,zw ⟨qa,qn,qc⟩ p,RA (some ⟨xV,ye+i*3,none⟩) [.int .i64 A,.int .i64 k,.slice pa pn pc],RA (some ⟨DQ,Ek+i*3,none⟩) [.int .i64 A,.int .i64 k,.slice qa qn qc]]) rfl (fun I w _ hh=>aG.cons (hh _ (.tail _ (.tail _ (.head _)))) (aG.cons (hh _ (.head _)) (aG.cons (hh _ (.tail _ (.tail _ (.tail _ (.head _))))) (aV (hh _ (.tail _ (.head _))))))) ?_;refine Je ⟨pa,pn,pc⟩ rfl (fun hp yT hp4=>?_);refine Je ⟨qa,qn,qc⟩ rfl (fun hq _ hq4=>?_);simp only at hp hq yT hp4 hq4;refine bD [] 15 (decide (z<(an:Int))) (aw hl) ?_;refine cA [15] 3 xV ye an ac .i64 i z hz aB (by omega) ?_;refine cr [] 0 xV (ye+i*3) aB ?_;refine eg [] 1 xV (ye+i*3+0) (.int .i64 A) aB (fun I w hd hh=>dL xV (ye+i*3) I w hd hh 0 _ rfl) ?_;refine cA [] 3 DQ Ek bn bc .i64 i z hz aB (by omega) ?_;refine cr [] 0 DQ (Ek+i*3) aB ?_;refine eg [] 1 DQ (Ek+i*3+0) (.int .i64 A) aB (fun I w hd hh=>dL DQ (Ek+i*3) I w hd hh 0 _ rfl) ?_
  refine aS [] 29 (A != A) (by simp) ?_;refine cA [29] 3 xV ye an ac .i64 i z hz aB (by omega) ?_;refine cr [29] 1 xV (ye+i*3) aB ?_;refine eg [29] 1 xV (ye+i*3+1) (.int .i64 k) aB (fun I w hd hh=>dL xV (ye+i*3) I w hd hh 1 _ rfl) ?_;refine cA [29] 3 DQ Ek bn bc .i64 i z hz aB (by omega) ?_;refine cr [29] 1 DQ (Ek+i*3) aB ?_;refine eg [29] 1 DQ (Ek+i*3+1) (.int .i64 k) aB (fun I w hd hh=>dL DQ (Ek+i*3) I w hd hh 1 _ rfl) ?_;refine aS [29] 42 (k != k) (by simp) ?_;refine cA [42] 3 xV ye an ac .i64 i z hz aB (by omega) ?_;refine cr [42] 2 xV (ye+i*3) aB ?_;refine eg [42] 1 xV (ye+i*3+2) (.slice pa pn pc) aB (fun I w hd hh=>dL xV (ye+i*3) I w hd hh 2 _ rfl) ?_;refine cA [42] 3 DQ Ek bn bc .i64 i z hz aB (by omega) ?_;refine cr [42] 2 DQ (Ek+i*3) aB ?_;refine eg [42] 1 DQ (Ek+i*3+2) (.slice qa qn qc) aB (fun I w hd hh=>dL DQ (Ek+i*3) I w hd hh 2 _ rfl) ?_;refine aS [42] 56 ((pn:Int) != (qn:Int)) (by rw[hp,hq];simp) ?_;refine j0 [56] [4,6] (fun a:SO=>[(4,.bool false),(6,.int .i64 a.z)]) (fun _=>[]) (fun _=>[]) (fun _=>[LF oR qK.x ⟨some ⟨xV,ye,none⟩,an,ac⟩ l,LF oR qK.x ⟨some ⟨DQ,Ek,none⟩,bn,bc⟩ l,zw ⟨pa,pn,pc⟩ p,zw ⟨qa,qn,qc⟩ p,RA (some ⟨xV,ye+i*3,none⟩) [.int .i64 A,.int .i64 k,.slice pa pn pc],RA (some ⟨DQ,Ek+i*3,none⟩) [.int .i64 A,.int .i64 k,.slice qa qn qc]]) (fun a=>a.z=a.i∧a.i≤pn) (fun a=>pn-a.i) ⟨0,0,.bool true,[]⟩ ⟨rfl,aM _⟩ (eC eK (eC eK (eC eK (eC eK (eC eK (eC eK eE)))))) ?_
  rintro⟨j,zj,v2,O2⟩ K2 ⟨XF,hj⟩ close2;simp only at XF hj;by_cases hlj:zj<(pn:Int)
  ·obtain⟨d,hd⟩:∃d,p[j]? =some d:=⟨_,ar (by omega)⟩;obtain⟨pb,po,Zn⟩:=hp4 (by rintro rfl;simp at hd);obtain⟨qb,qo,Qr⟩:=hq4 (by rintro rfl;simp at hd);subst Zn Qr;refine W.more (Δ:=[RA (some ⟨pb,po,none⟩) (p.flatMap d_),RA (some ⟨qb,qo,none⟩) (p.flatMap d_)]) rfl (fun I w _ hh=>aG.cons (aZ.p (k:=zw ⟨some ⟨pb,po,none⟩,pn,pc⟩) (a:=p) inferInstance hh).2.2 (aV (aZ.p (k:=zw ⟨some ⟨qb,qo,none⟩,qn,qc⟩) (a:=p) inferInstance hh).2.2)) ?_;refine cA [] 3 xV ye an ac .i64 i z hz aB (by omega) ?_;refine cr [] 2 xV (ye+i*3) aB ?_;refine eg [] 1 xV (ye+i*3+2) (.slice (some ⟨pb,po,none⟩) pn pc) aB (fun I w hd hh=>dL xV (ye+i*3) I w hd hh 2 _ rfl) ?_;refine bD [] 64 (decide (zj<(pn:Int))) (aw hlj) ?_;refine cA [64] 3 xV ye an ac .i64 i z hz aB (by omega) ?_;refine cr [] 2 xV (ye+i*3) aB ?_;refine eg [] 1 xV (ye+i*3+2) (.slice (some ⟨pb,po,none⟩) pn pc) aB (fun I w hd hh=>dL xV (ye+i*3) I w hd hh 2 _ rfl) ?_;refine cA [] 2 pb po pn pc .i64 j zj XF aB (by omega) ?_;refine de [] pb (po+j*2) (d_ d) aB (eD pb po (j*2) (ek hd)) ?_;refine cA [] 3 DQ Ek bn bc .i64 i z hz aB (by omega) ?_;refine cr [] 2 DQ (Ek+i*3) aB ?_;refine eg [] 1 DQ (Ek+i*3+2) (.slice (some ⟨qb,qo,none⟩) qn qc) aB (fun I w hd hh=>dL DQ (Ek+i*3) I w hd hh 2 _ rfl) ?_;refine cA [] 2 qb qo qn qc .i64 j zj XF aB (by omega) ?_
   refine de [] qb (qo+j*2) (d_ d) aB (eD qb qo (j*2) (ek hd)) ?_;refine Mw [] 58 d d ?_;refine aS [] 83 (!decide (d=d)) (by simp) ?_;exact close2 [83] _ _ ⟨j+1,IntKind.i64.wrap (zj+1),.bool true,[]⟩ (by kernel_rfl) (by kernel_rfl) ⟨by simp only[ah];omega,by simp only;omega⟩ (by simp only;omega) (eC eK (eC eK (eC eK (eC eK (eC eK (eC eK eE))))))
  ·refine cA [] 3 xV ye an ac .i64 i z hz aB (by omega) ?_;refine cr [] 2 xV (ye+i*3) aB ?_;refine eg [] 1 xV (ye+i*3+2) (.slice pa pn pc) aB (fun I w hd hh=>dL xV (ye+i*3) I w hd hh 2 _ rfl) ?_;refine aS [] 64 (decide (zj<(pn:Int))) (ak hlj) ?_;exact close [64] _ _ ⟨i+1,IntKind.i64.wrap (z+1),.bool true,[]⟩ (by kernel_rfl) (by kernel_rfl) ⟨by simp only[ah];omega,by simp only;omega⟩ (by simp only;omega) (eC eK (eC eK eE))
 ·refine aS [] 15 (decide (z<(an:Int))) (ak hl) ?_;exact W.r [15] (.bool true) ⟨rfl,rfl⟩ bU
end
theorem MN{b:Nat}{l:List Int}{I:f_}{w:World}(hl:l.length≤1000)(hb:ke l)(h:(dY b (l.map (Value.int .u8))).p I w):(BF ⟨some ⟨b,0,none⟩,l.length,l.length⟩ l).p I w:=
 ⟨rfl,⟨ai _,by simp only;unfold maxLen;omega⟩,hb,RA.of_row h fun _ _ hv=>hv⟩
theorem pU{b:Nat}(es:List nj){I:f_}{w:World}(hm:es.length≤1000)(h:(dY b (es.flatMap lJ.cells)).p I w)(hf:∀e∈es,(mr e.f e.p e.x).p I w):(uv ⟨some ⟨b,0,none⟩,es.length,es.length⟩ (es.map nj.x)).p I w:=
 ⟨es,rfl,(bL ..).symm,⟨ai _,by simp only;unfold maxLen;omega⟩,fun e he=>hf e he,RA.of_row h fun _ _ hv=>hv⟩
theorem wG{b:Nat}(es:List qg){I:f_}{w:World}(hm:es.length≤1000)(h:(dY b (es.flatMap pG.cells)).p I w)(hf:∀e∈es,(xL e.h e.i e.x).p I w):(pE ⟨some ⟨b,0,none⟩,es.length,es.length⟩ (es.map qg.x)).p I w:=
 ⟨es,rfl,(bL ..).symm,⟨ai _,by simp only;unfold maxLen;omega⟩,fun e he=>hf e he,RA.of_row h fun _ _ hv=>hv⟩
theorem EL{b:Nat}(es:List qK){I:f_}{w:World}(hm:es.length≤1000)(h:(dY b (es.flatMap oR.cells)).p I w)(hf:∀e∈es,(zw e.s e.x.p).p I w):(LF oR qK.x ⟨some ⟨b,0,none⟩,es.length,es.length⟩ (es.map qK.x)).p I w:=
 ⟨es,rfl,(bL ..).symm,⟨ai _,by simp only;unfold maxLen;omega⟩,fun e he=>hf e he,RA.of_row h fun _ _ hv=>hv⟩
theorem EE{b:Nat}{l:List Dp}{I:f_}{w:World}(hl:l.length≤1000)(h:(dY b (l.flatMap d_)).p I w):(zw ⟨some ⟨b,0,none⟩,l.length,l.length⟩ l).p I w:=
 ⟨rfl,⟨ai _,by simp only;unfold maxLen;omega⟩,RA.of_row h fun _ _ hv=>hv⟩
theorem FD{l:List Int}(h:l.all (fun z=>decide (0≤z)&&decide (z<256))=true):ke l:=fun z hz=>by
 have:=List.all_eq_true.1 h z hz;simpa using this
theorem oI:(jr kD).length≤100000:=by decide
theorem mN:zr kD.c≤160:=by decide+kernel
def kQ:List Dp:=[⟨0,0⟩,⟨10,0⟩,⟨10,10⟩,⟨0,10⟩]
def x8:List Ce:=[eP mT [cL 1 0 kQ],eP jL [jU]]
section
variable{Γ:List aE}
theorem mV:au tb Tryz.prog 9 [] Γ (jv (.bool true)):=by
 refine au.of_W aB Tryz.func9 rfl ?_;refine cI [] 4 (kQ.flatMap d_) aB (fun b1=>?_);refine gI [] (Γ':=[RA (some ⟨b1,0,none⟩) (kQ.flatMap d_)]) (fun I w _ hh=>aV (RA.of_row hh.h0' fun _ _ hv=>hv)) (GN 1 0 (some ⟨b1,0,none⟩) 4 4 (ps:=kQ) rfl (by decide)) ?_;rintro _ _ ⟨u2,rfl,rfl⟩;refine aj [] (gN 10 0 ⟨none,0,0⟩) ?_;rintro _ _ ⟨rfl,rfl⟩;refine aj [] (xh mT (by decide)) ?_;rintro _ _ ⟨u4,rfl,rfl⟩;refine aj [] (gN 18 6 u4) ?_;rintro _ _ ⟨rfl,rfl⟩;refine cI [] 2 [.int .u8 0,.int .u8 0] aB (fun b6=>?_);refine aj [] (gN 26 1 ⟨some ⟨b6,0,none⟩,2,2⟩) ?_;rintro _ _ ⟨rfl,rfl⟩;refine cI [] 8 [.int .u8 66,.int .u8 90,.int .u8 0,.int .u8 0,.int .u8 0,.int .u8 0,.int .u8 0,.int .u8 0] aB (fun b8=>?_);refine aj [] (gN 28 5 ⟨some ⟨b8,0,none⟩,8,8⟩) ?_;rintro _ _ ⟨rfl,rfl⟩;refine cI [] 2 [.int .i64 100,.int .i64 0] aB (fun zm=>?_);refine gI [] (Γ':=[NL ⟨some ⟨zm,0,none⟩,2,2⟩ [100,0]]) (fun I w _ hh=>aV (tN (l:=[100,0]) (by decide) hh.h0')) (ri ⟨some ⟨zm,0,none⟩,2,2⟩ (l:=[100,0]) (by decide)) ?_;rintro _ _ ⟨u11,rfl,rfl⟩;refine aj [] (gN 16 3 u11) ?_;rintro _ _ ⟨rfl,rfl⟩;refine cI [] 5 [.int .u8 10,.int .u8 0,.slice none 0 0,.int .u8 18,.int .u8 6,bz u4,.int .u8 26,.int .u8 1,.slice (some ⟨b6,0,none⟩) 2 2,.int .u8 28,.int .u8 5,.slice (some ⟨b8,0,none⟩) 8 8,.int .u8 16,.int .u8 3,bz u11] aB (fun CA=>?_)
 have F0:∀{Γ':List aE} [aZ (BF u4) (mz mT) Γ'] [aZ (dY b6) [.int .u8 0,.int .u8 0] Γ'] [aZ (dY b8) [.int .u8 66,.int .u8 90,.int .u8 0,.int .u8 0,.int .u8 0,.int .u8 0,.int .u8 0,.int .u8 0] Γ'] [aZ (BF u11) ([100,0].flatMap lB) Γ']
   [aZ (dY CA) [.int .u8 10,.int .u8 0,.slice none 0 0,.int .u8 18,.int .u8 6,bz u4,.int .u8 26,.int .u8 1,.slice (some ⟨b6,0,none⟩) 2 2,.int .u8 28,.int .u8 5,.slice (some ⟨b8,0,none⟩) 8 8,.int .u8 16,.int .u8 3,bz u11] Γ'] {I:f_} {w:World},
   aG Γ' I w→(mr ⟨some ⟨CA,0,none⟩,5,5⟩ ⟨none,0,0⟩ jU).p I w:=fun{Γ'} _ _ _ _ _ {I w} hh=>
  ⟨rZ [⟨⟨none,0,0⟩,⟨10,0,[]⟩⟩,⟨u4,⟨18,6,mz mT⟩⟩,⟨⟨some ⟨b6,0,none⟩,2,2⟩,⟨26,1,[0,0]⟩⟩,⟨⟨some ⟨b8,0,none⟩,8,8⟩,⟨28,5,[66,90,0,0,0,0,0,0]⟩⟩,⟨u11,⟨16,3,[100,0].flatMap lB⟩⟩] (by simp) (aZ.p (k:=dY CA) inferInstance hh) (fun e he=>by
   simp only[aD,aC,bp]at he;rcases he with rfl|rfl|rfl|rfl|rfl
   ·exact h_ (by decide) (by decide) (qB _ _ _)
   ·exact h_ (by decide) (by decide) (aZ.p (k:=BF u4) inferInstance hh)
   ·exact h_ (by decide) (by decide) (MN (l:=[0,0]) (by decide) (FD rfl) (aZ.p (k:=dY b6) inferInstance hh))
   ·exact h_ (by decide) (by decide) (MN (l:=[66,90,0,0,0,0,0,0]) (by decide) (FD rfl) (aZ.p (k:=dY b8) inferInstance hh))
   ·exact h_ (by decide) (by decide) (aZ.p (k:=BF u11) inferInstance hh)),xC _ _⟩
 refine QO [] [0,3,8,1,2,4,5,6,7,9] [0,3,8,1,4,2,5,6,7,9] [0,3,8,4,1,2,5,6,7,9] ?_ ?_ ?_
 ·refine cI [] 1 [bz u2,.slice none 0 0] aB (fun xN=>?_);refine gI [] (Γ':=[uv ⟨some ⟨xN,0,none⟩,1,1⟩ [cL 1 0 kQ]]) (fun I w _ hh=>aV (pU [⟨u2,⟨none,0,0⟩,cL 1 0 kQ⟩] (by simp) (aZ.p (k:=dY xN) inferInstance hh) (fun e he=>by
   simp only[aD,aC,bp]at he;subst he;exact aZ.p (k:=mr u2 ⟨none,0,0⟩) inferInstance hh))) (lZ mT ⟨some ⟨xN,0,none⟩,1,1⟩ (l:=[cL 1 0 kQ]) (by decide)) ?_
  rintro _ _ ⟨I6,rfl,rfl⟩;refine cI [] 1 [.slice (some ⟨CA,0,none⟩) 5 5,.slice none 0 0] aB (fun zx=>?_);refine gI [] (Γ':=[uv ⟨some ⟨zx,0,none⟩,1,1⟩ [jU]]) (fun I w _ hh=>aV (pU [⟨⟨some ⟨CA,0,none⟩,5,5⟩,⟨none,0,0⟩,jU⟩] (by simp) (aZ.p (k:=dY zx) inferInstance hh) (fun e he=>by
   simp only[aD,aC,bp]at he;subst he;exact F0 hh))) (lZ jL ⟨some ⟨zx,0,none⟩,1,1⟩ (l:=[jU]) (by decide)) ?_
  rintro _ _ ⟨u32,rfl,rfl⟩;refine cI [] 2 [bz I6,.slice (some ⟨xN,0,none⟩) 1 1,bz u32,.slice (some ⟨zx,0,none⟩) 1 1] aB (fun DP=>?_);refine gI [] (Γ':=[pE ⟨some ⟨DP,0,none⟩,2,2⟩ x8]) (fun I w _ hh=>aV (wG [⟨I6,⟨some ⟨xN,0,none⟩,1,1⟩,eP mT [cL 1 0 kQ]⟩,⟨u32,⟨some ⟨zx,0,none⟩,1,1⟩,eP jL [jU]⟩] (by simp) (aZ.p (k:=dY DP) inferInstance hh) (fun e he=>by
   simp only[aD,aC,bp]at he;rcases he with rfl|rfl
   ·exact aZ.p (k:=xL I6 ⟨some ⟨xN,0,none⟩,1,1⟩) inferInstance hh
   ·exact aZ.p (k:=xL u32 ⟨some ⟨zx,0,none⟩,1,1⟩) inferInstance hh))) (xe ⟨some ⟨DP,0,none⟩,2,2⟩ (cs:=x8)) ?_
  rintro _ _ ⟨Uk,rfl,rfl⟩;refine aj [] (nG Uk ⟨some ⟨DP,0,none⟩,2,2⟩ 1 (t:=kD) oI (fun _=>mN)) ?_;rintro _ _ hp;rw[mP 1 (by decide) (by decide),if_neg (by decide)]at hp;rcases hp with⟨e,he,_⟩|⟨l,s,he,rfl,rfl⟩
  ·simp at he
  injection he with he;subst he;refine aj [] (nG Uk ⟨some ⟨DP,0,none⟩,2,2⟩ 0 (t:=kD) oI (fun _=>mN)) ?_;rintro _ _ hp;rw[mP 0 (by decide) (by decide),if_pos (by decide)]at hp;rcases hp with⟨e,he,rfl,rfl⟩|⟨l,s,he,_⟩
  rotate_left
  ·simp at he
  injection he with he;subst he;refine cI [] 4 (kC.flatMap d_) aB (fun KO=>?_);refine cI [] 1 [.int .i64 1,.int .i64 0,.slice (some ⟨KO,0,none⟩) 4 4] aB (fun KP=>?_);obtain⟨sa,sn,sc⟩:=s;refine bD [] 53 ((0:Int)==0) rfl ?_;refine gI [53,54] (Γ':=[LF oR qK.x ⟨some ⟨KP,0,none⟩,1,1⟩ [⟨1,0,kC⟩]]) (fun I w _ hh=>aV (EL [⟨⟨some ⟨KO,0,none⟩,4,4⟩,⟨1,0,kC⟩⟩] (by simp) (aZ.p (k:=dY KP) inferInstance hh) (fun e he=>by
   simp only[aD,aC,bp]at he;subst he;exact EE (l:=kC) (by decide) (aZ.p (k:=dY KO) inferInstance hh)))) (xj sa sn sc (some ⟨KP,0,none⟩) 1 1 (l:=[⟨1,0,kC⟩])) ?_
  rintro _ _ ⟨rfl,rfl⟩;exact W.r [54,59] (.bool true) ⟨rfl,rfl⟩ bU
 ·refine cI [] 1 [bz u2,.slice none 0 0] aB (fun xN=>?_);refine cI [] 1 [.slice (some ⟨CA,0,none⟩) 5 5,.slice none 0 0] aB (fun zx=>?_);refine gI [] (Γ':=[uv ⟨some ⟨xN,0,none⟩,1,1⟩ [cL 1 0 kQ]]) (fun I w _ hh=>aV (pU [⟨u2,⟨none,0,0⟩,cL 1 0 kQ⟩] (by simp) (aZ.p (k:=dY xN) inferInstance hh) (fun e he=>by
   simp only[aD,aC,bp]at he;subst he;exact aZ.p (k:=mr u2 ⟨none,0,0⟩) inferInstance hh))) (lZ mT ⟨some ⟨xN,0,none⟩,1,1⟩ (l:=[cL 1 0 kQ]) (by decide)) ?_
  rintro _ _ ⟨I6,rfl,rfl⟩;refine gI [] (Γ':=[uv ⟨some ⟨zx,0,none⟩,1,1⟩ [jU]]) (fun I w _ hh=>aV (pU [⟨⟨some ⟨CA,0,none⟩,5,5⟩,⟨none,0,0⟩,jU⟩] (by simp) (aZ.p (k:=dY zx) inferInstance hh) (fun e he=>by
   simp only[aD,aC,bp]at he;subst he;exact F0 hh))) (lZ jL ⟨some ⟨zx,0,none⟩,1,1⟩ (l:=[jU]) (by decide)) ?_
  rintro _ _ ⟨u32,rfl,rfl⟩;refine cI [] 2 [bz I6,.slice (some ⟨xN,0,none⟩) 1 1,bz u32,.slice (some ⟨zx,0,none⟩) 1 1] aB (fun DP=>?_);refine gI [] (Γ':=[pE ⟨some ⟨DP,0,none⟩,2,2⟩ x8]) (fun I w _ hh=>aV (wG [⟨I6,⟨some ⟨xN,0,none⟩,1,1⟩,eP mT [cL 1 0 kQ]⟩,⟨u32,⟨some ⟨zx,0,none⟩,1,1⟩,eP jL [jU]⟩] (by simp) (aZ.p (k:=dY DP) inferInstance hh) (fun e he=>by
   simp only[aD,aC,bp]at he;rcases he with rfl|rfl
   ·exact aZ.p (k:=xL I6 ⟨some ⟨xN,0,none⟩,1,1⟩) inferInstance hh
   ·exact aZ.p (k:=xL u32 ⟨some ⟨zx,0,none⟩,1,1⟩) inferInstance hh))) (xe ⟨some ⟨DP,0,none⟩,2,2⟩ (cs:=x8)) ?_
  rintro _ _ ⟨Uk,rfl,rfl⟩;refine aj [] (nG Uk ⟨some ⟨DP,0,none⟩,2,2⟩ 1 (t:=kD) oI (fun _=>mN)) ?_;rintro _ _ hp;rw[mP 1 (by decide) (by decide),if_neg (by decide)]at hp;rcases hp with⟨e,he,_⟩|⟨l,s,he,rfl,rfl⟩
  ·simp at he
  injection he with he;subst he;refine aj [] (nG Uk ⟨some ⟨DP,0,none⟩,2,2⟩ 0 (t:=kD) oI (fun _=>mN)) ?_;rintro _ _ hp;rw[mP 0 (by decide) (by decide),if_pos (by decide)]at hp;rcases hp with⟨e,he,rfl,rfl⟩|⟨l,s,he,_⟩
  rotate_left
  ·simp at he
  injection he with he;subst he;refine cI [] 4 (kC.flatMap d_) aB (fun KO=>?_);refine cI [] 1 [.int .i64 1,.int .i64 0,.slice (some ⟨KO,0,none⟩) 4 4] aB (fun KP=>?_);obtain⟨sa,sn,sc⟩:=s;refine bD [] 53 ((0:Int)==0) rfl ?_;refine gI [53,54] (Γ':=[LF oR qK.x ⟨some ⟨KP,0,none⟩,1,1⟩ [⟨1,0,kC⟩]]) (fun I w _ hh=>aV (EL [⟨⟨some ⟨KO,0,none⟩,4,4⟩,⟨1,0,kC⟩⟩] (by simp) (aZ.p (k:=dY KP) inferInstance hh) (fun e he=>by
   simp only[aD,aC,bp]at he;subst he;exact EE (l:=kC) (by decide) (aZ.p (k:=dY KO) inferInstance hh)))) (xj sa sn sc (some ⟨KP,0,none⟩) 1 1 (l:=[⟨1,0,kC⟩])) ?_
  rintro _ _ ⟨rfl,rfl⟩;exact W.r [54,59] (.bool true) ⟨rfl,rfl⟩ bU
 ·refine cI [] 1 [.slice (some ⟨CA,0,none⟩) 5 5,.slice none 0 0] aB (fun zx=>?_);refine cI [] 1 [bz u2,.slice none 0 0] aB (fun xN=>?_);refine gI [] (Γ':=[uv ⟨some ⟨xN,0,none⟩,1,1⟩ [cL 1 0 kQ]]) (fun I w _ hh=>aV (pU [⟨u2,⟨none,0,0⟩,cL 1 0 kQ⟩] (by simp) (aZ.p (k:=dY xN) inferInstance hh) (fun e he=>by
   simp only[aD,aC,bp]at he;subst he;exact aZ.p (k:=mr u2 ⟨none,0,0⟩) inferInstance hh))) (lZ mT ⟨some ⟨xN,0,none⟩,1,1⟩ (l:=[cL 1 0 kQ]) (by decide)) ?_
  rintro _ _ ⟨I6,rfl,rfl⟩;refine gI [] (Γ':=[uv ⟨some ⟨zx,0,none⟩,1,1⟩ [jU]]) (fun I w _ hh=>aV (pU [⟨⟨some ⟨CA,0,none⟩,5,5⟩,⟨none,0,0⟩,jU⟩] (by simp) (aZ.p (k:=dY zx) inferInstance hh) (fun e he=>by
   simp only[aD,aC,bp]at he;subst he;exact F0 hh))) (lZ jL ⟨some ⟨zx,0,none⟩,1,1⟩ (l:=[jU]) (by decide)) ?_
  rintro _ _ ⟨u32,rfl,rfl⟩;refine cI [] 2 [bz I6,.slice (some ⟨xN,0,none⟩) 1 1,bz u32,.slice (some ⟨zx,0,none⟩) 1 1] aB (fun DP=>?_);refine gI [] (Γ':=[pE ⟨some ⟨DP,0,none⟩,2,2⟩ x8]) (fun I w _ hh=>aV (wG [⟨I6,⟨some ⟨xN,0,none⟩,1,1⟩,eP mT [cL 1 0 kQ]⟩,⟨u32,⟨some ⟨zx,0,none⟩,1,1⟩,eP jL [jU]⟩] (by simp) (aZ.p (k:=dY DP) inferInstance hh) (fun e he=>by
   simp only[aD,aC,bp]at he;rcases he with rfl|rfl
   ·exact aZ.p (k:=xL I6 ⟨some ⟨xN,0,none⟩,1,1⟩) inferInstance hh
   ·exact aZ.p (k:=xL u32 ⟨some ⟨zx,0,none⟩,1,1⟩) inferInstance hh))) (xe ⟨some ⟨DP,0,none⟩,2,2⟩ (cs:=x8)) ?_
  rintro _ _ ⟨Uk,rfl,rfl⟩;refine aj [] (nG Uk ⟨some ⟨DP,0,none⟩,2,2⟩ 1 (t:=kD) oI (fun _=>mN)) ?_;rintro _ _ hp;rw[mP 1 (by decide) (by decide),if_neg (by decide)]at hp;rcases hp with⟨e,he,_⟩|⟨l,s,he,rfl,rfl⟩
  ·simp at he
  injection he with he;subst he;refine aj [] (nG Uk ⟨some ⟨DP,0,none⟩,2,2⟩ 0 (t:=kD) oI (fun _=>mN)) ?_;rintro _ _ hp;rw[mP 0 (by decide) (by decide),if_pos (by decide)]at hp;rcases hp with⟨e,he,rfl,rfl⟩|⟨l,s,he,_⟩
  rotate_left
  ·simp at he
  injection he with he;subst he;refine cI [] 4 (kC.flatMap d_) aB (fun KO=>?_);refine cI [] 1 [.int .i64 1,.int .i64 0,.slice (some ⟨KO,0,none⟩) 4 4] aB (fun KP=>?_);obtain⟨sa,sn,sc⟩:=s;refine bD [] 53 ((0:Int)==0) rfl ?_;refine gI [53,54] (Γ':=[LF oR qK.x ⟨some ⟨KP,0,none⟩,1,1⟩ [⟨1,0,kC⟩]]) (fun I w _ hh=>aV (EL [⟨⟨some ⟨KO,0,none⟩,4,4⟩,⟨1,0,kC⟩⟩] (by simp) (aZ.p (k:=dY KP) inferInstance hh) (fun e he=>by
   simp only[aD,aC,bp]at he;subst he;exact EE (l:=kC) (by decide) (aZ.p (k:=dY KO) inferInstance hh)))) (xj sa sn sc (some ⟨KP,0,none⟩) 1 1 (l:=[⟨1,0,kC⟩])) ?_
  rintro _ _ ⟨rfl,rfl⟩;exact W.r [54,59] (.bool true) ⟨rfl,rfl⟩ bU
end
section
variable{Γ:List aE}
end
theorem Hs(c:Nat)(h:c≤5):IntKind.i64.wrap (1+IntKind.i64.wrap (c:Int))=((c+1:Nat):Int):=by simp only[ah];omega
theorem xK(A B:Int)(hB: -6000≤B∧B≤6000)(hA: -1000≤A∧A≤1000):IntKind.i64.wrap (A+IntKind.i64.wrap B)=A+B:=by simp only[ah];omega
theorem Dz(A B C:Int)(hB: -6000≤B∧B≤6000)(hC: -6000≤C∧C≤6000)(hA: -1000≤A∧A≤1000):IntKind.i64.wrap (IntKind.i64.wrap (A+IntKind.i64.wrap B)+IntKind.i64.wrap C)=A+B+C:=by simp only[ah];omega
theorem uS(a:Int):∃A:Int,a.tmod 1000=A∧ -1000≤A∧A≤1000:=⟨_,rfl,by
 have h1:=Int.lt_tmod_of_pos a (show(0:Int)<1000 by decide);have h2:=Int.tmod_lt_of_pos a (show(0:Int)<1000 by decide);omega⟩
theorem PU(a:Int):∃c0:Nat,c0≤5∧(IntKind.u64.wrap a).tmod 6=(c0:Int):=by
 have h1:0≤IntKind.u64.wrap a:=by rw[IntKind.wrap_u64];omega
 refine⟨((IntKind.u64.wrap a).tmod 6).toNat,?_,?_⟩<;>rw[fN h1]<;>omega
theorem Hk{B:Im}{l:List Im}{a:Nat}(hB:wI B≤8)(h:∀x∈l,wI x≤8):zr (gn B l).c≤16:=by
 refine aP (Sr (g:=fun _=>8) (fun c hc x hx=>?_)) (ai _);simp only[gn,aD,aC,bp]at hc;rcases hc with rfl|rfl
 ·simp only[eP,aD,aC,bp]at hx;subst hx;exact hB
 ·exact h x hx
theorem Ku{B:Im}{l:List Im}(hB:(eQ B).length≤8)(h:∀x∈l,(eQ x).length≤8)(hl:l.length≤1000):(jr (gn B l)).length≤100000:=by
 have h1:(l.flatMap eQ).length≤8*l.length:=by
  clear hl
  induction l with
  |nil=>simp
  |cons x l ih=>
   have:=h x (by simp);have:=ih fun y hy=>h y (by simp[hy]);rw[bj,az,aF];omega
 have h2:(jr (gn B l)).length=11+(eQ B).length+(l.flatMap eQ).length:=by
  show(CC++([eP mT [B],eP jL l].flatMap gi++[iI 4])).length=_;rw[az,az,bj,bj,iL,af,az];unfold gi;rw[az,az,az,az];show 4+(2+(([B].flatMap eQ).length+1)+(2+((l.flatMap eQ).length+1))+1)=_;rw[show [B].flatMap eQ=eQ B by rw[bj,iL,af]];omega
 omega
theorem BK(c r:Nat)(x y dx dy ex ey:Int):(jo c r x y dx dy ex ey).length=r*c:=by
 unfold jo;rw[List.length_flatMap];simp only[bL,dX];rw[EN,dX]
structure AtS where
 k:Nat
 z:Int
 v:Sl
 O:List (Nat×List Value)
 es:List nj
theorem IP{α:Type}(f:Nat→List α)(k:Nat):(List.range (k+1)).flatMap f=(List.range k).flatMap f++f k:=by
 rw[List.range_succ,bA];simp
theorem G7{α:Type}(f:Nat→α)(k:Nat):(List.range (k+1)).map f=(List.range k).map f++[f k]:=by
 rw[List.range_succ,aX];rfl
section
variable{H:Type}{enc:TypeId×Value→H}{P:Program}{w:World}
theorem Sg{t e ti:TypeId}{f0 f1:Field}{v:Value}{d:DataW H}{ps:List MemPlace}(ht:P.underlying t=some (.slice e))(he:P.underlying e=some (.struct #[f0,f1]))
  (h0:f0.type=ti∧f0.offset=0)(h1:f1.type=ti∧f1.offset=1)(hi:P.underlying ti=some (.int .i64)){ao:Option Addr}{n c:Nat}(hv:v=.slice ao n c)(h:DataW.Trod enc P w 0 (fun _=>true) true t v d ps)(hce:P.cellsOf e=2:=by kernel_rfl)(hci:P.cellsOf ti=1:=by kernel_rfl):
  ∃fK:List Dp,n=fK.length∧(∀p∈fK,(Lit.int .i64 p.x).wf=true∧(Lit.int .i64 p.y).wf=true)∧n≤c∧(RA ao (fK.flatMap d_)).p (fun _=>True) w:=by
 subst hv;obtain⟨fuel,hf⟩:=h;obtain⟨ao',n',c',fK,e1,e2,e3,e4,e5⟩:=MW ht he hce h0 h1 hi hci hf;simp at e1;obtain⟨rfl,rfl,rfl⟩:=e1;exact⟨fK,e2,e4,e3,e5⟩
end
section
variable{Γ:List aE}
theorem Ep(po:Option Addr)(pn pc:Nat)(ps:List Dp) [h:aZ (RA po) (ps.flatMap d_) Γ](hn:pn=ps.length)(hc:pn≤pc)(hw:∀p∈ps,(Lit.int .i64 p.x).wf=true∧(Lit.int .i64 p.y).wf=true)(eH:Int)(w0:(Lit.int .i64 eH).wf=true)(rows:Int)(w1:(Lit.int .i64 rows).wf=true)(x:Int)(w2:(Lit.int .i64 x).wf=true)
  (y:Int)(w3:(Lit.int .i64 y).wf=true)(dx:Int)(w4:(Lit.int .i64 dx).wf=true)(dy:Int)(w5:(Lit.int .i64 dy).wf=true)(ex:Int)(w6:(Lit.int .i64 ex).wf=true)(ey:Int)(w7:(Lit.int .i64 ey).wf=true):
  au tb Tryz.prog 6 [.slice po pn pc,.int .i64 eH,.int .i64 rows,.int .i64 x,.int .i64 y,.int .i64 dx,.int .i64 dy,.int .i64 ex,.int .i64 ey] Γ (jv (.bool true)):=by
 refine au.of_W aB Tryz.func6 rfl ?_;by_cases hlo:pn<3
 ·refine bD [] 32 (decide ((pn:Int)<3)) (aw (by omega)) ?_;refine aj [36,32] mV ?_;rintro _ _ ⟨rfl,rfl⟩;exact W.r [] (.bool true) ⟨rfl,rfl⟩ bU
 refine aS [] 32 (decide ((pn:Int)<3)) (ak (by omega)) ?_;by_cases hhi:12<pn
 ·refine bD [32] 36 (decide ((pn:Int)>12)) (aw (by omega)) ?_;refine aj [36] mV ?_;rintro _ _ ⟨rfl,rfl⟩;exact W.r [] (.bool true) ⟨rfl,rfl⟩ bU
 refine aS [32] 36 (decide ((pn:Int)>12)) (ak (by omega)) ?_;refine xT [36] [18,19] (fun q:Nat×Int=>[(18,.bool false),(19,.int .i64 q.2)]) (fun _=>[]) (fun _=>[RA po (ps.flatMap d_)]) (fun q=>q.2=(q.1:Int)∧q.1≤ps.length∧∀d∈ps.take q.1,zN d) (fun q=>ps.length-q.1) (0,0) ⟨rfl,aM _,by simp⟩ (eC eK eE) ?_;rintro⟨i,z⟩ K ⟨hz,hi,hm⟩ close;simp only at hz hi hm;by_cases hlt:i<ps.length
 ·obtain⟨d,hd⟩:∃d,ps[i]? =some d:=⟨_,ar hlt⟩;refine Fb po (xs:=ps.flatMap d_) (fun e=>by
   have:=AE hd 0 _ rfl;rw[e]at this;simp at this) ?_
  rintro b off rfl;refine bD [] 41 (decide (z<(pn:Int))) (aw (by omega)) ?_;refine cA [41] 2 b off pn pc .i64 i z hz aB (by omega) ?_;refine cr [] 0 b (off+i*2) aB ?_;refine eg [] 1 b (off+i*2+0) (.int .i64 d.x) aB (pP b off hd 0 rfl) ?_;by_cases c1:d.x< -1000000
  ·refine bD [] 50 (decide (d.x< -1000000)) (aw c1) ?_;refine aj [73,66,58,50] mV ?_;rintro _ _ ⟨rfl,rfl⟩;exact W.r [] (.bool true) ⟨rfl,rfl⟩ bU
  refine aS [] 50 (decide (d.x< -1000000)) (ak c1) ?_;refine cA [50] 2 b off pn pc .i64 i z hz aB (by omega) ?_;refine cr [50] 0 b (off+i*2) aB ?_;refine eg [50] 1 b (off+i*2+0) (.int .i64 d.x) aB (pP b off hd 0 rfl) ?_;by_cases c2:d.x>1000000
  ·refine bD [50] 58 (decide (d.x>1000000)) (aw c2) ?_;refine aj [73,66,58] mV ?_;rintro _ _ ⟨rfl,rfl⟩;exact W.r [] (.bool true) ⟨rfl,rfl⟩ bU
  refine aS [50] 58 (decide (d.x>1000000)) (ak c2) ?_;refine cA [58] 2 b off pn pc .i64 i z hz aB (by omega) ?_;refine cr [58] 1 b (off+i*2) aB ?_;refine eg [58] 1 b (off+i*2+1) (.int .i64 d.y) aB (pP b off hd 1 rfl) ?_;by_cases c3:d.y< -1000000
  ·refine bD [58] 66 (decide (d.y< -1000000)) (aw c3) ?_;refine aj [73,66] mV ?_;rintro _ _ ⟨rfl,rfl⟩;exact W.r [] (.bool true) ⟨rfl,rfl⟩ bU
  refine aS [58] 66 (decide (d.y< -1000000)) (ak c3) ?_;refine cA [66] 2 b off pn pc .i64 i z hz aB (by omega) ?_;refine cr [66] 1 b (off+i*2) aB ?_;refine eg [66] 1 b (off+i*2+1) (.int .i64 d.y) aB (pP b off hd 1 rfl) ?_;by_cases c4:d.y>1000000
  ·refine bD [66] 73 (decide (d.y>1000000)) (aw c4) ?_;refine aj [73] mV ?_;rintro _ _ ⟨rfl,rfl⟩;exact W.r [] (.bool true) ⟨rfl,rfl⟩ bU
  refine aS [66] 73 (decide (d.y>1000000)) (ak c4) ?_;refine close [73] _ _ (i+1,IntKind.i64.wrap (z+1)) (by kernel_rfl) (by kernel_rfl) ⟨by simp only[ah];omega,by simp only;omega,?_⟩ (by simp only;omega) (eC eK eE);intro e he;rw[lH hd]at he;rcases List.mem_append.1 he with h1|h1
  ·exact hm e h1
  ·simp only[aD,aC,bp]at h1;subst h1;unfold zN;omega
 refine aS [] 41 (decide (z<(pn:Int))) (ak (by omega)) ?_;clear close;obtain rfl:i=ps.length:=by omega
 rw[aW (ai _)]at hm;obtain⟨c0,hc0,hC0⟩:=PU eH;obtain⟨r0,hr0,hR0⟩:=PU rows;obtain⟨X,hX,bX⟩:=uS x;obtain⟨Y,hY,bY⟩:=uS y;obtain⟨DX,hDX,Yl⟩:=uS dx;obtain⟨DY,hDY,Ym⟩:=uS dy;obtain⟨EX,hEX,Yn⟩:=uS ex;obtain⟨EY,hEY,Yo⟩:=uS ey;have hC:=Hs c0 hc0;have hR:=Hs r0 hr0;have bc:1≤c0+1∧c0+1≤6:=by omega
 have br:1≤r0+1∧r0+1≤6:=by omega
 have bl:3≤ps.length∧ps.length≤12:=by omega
 obtain⟨s,f1,f2,fs⟩:=MG bc br bX bY Yl Ym Yn Yo bl hm 3 4;refine mH [41] .u64 (IntKind.u64.wrap eH) 6 (c0:Int) (by decide) hC0 ?_;refine mH [] .u64 (IntKind.u64.wrap rows) 6 (r0:Int) (by decide) hR0 ?_;refine mH [] .i64 x 1000 X (by decide) hX ?_;refine mH [] .i64 y 1000 Y (by decide) hY ?_;refine mH [] .i64 dx 1000 DX (by decide) hDX ?_;refine mH [] .i64 dy 1000 DY (by decide) hDY ?_;refine mH [] .i64 ex 1000 EX (by decide) hEX ?_;refine mH [] .i64 ey 1000 EY (by decide) hEY ?_;refine aj [] (GN 3 4 po pn pc (ps:=ps) hn (by omega)) ?_;rintro _ _ ⟨ub,rfl,rfl⟩;refine cI [] 1 [bz ub,.slice none 0 0] aB (fun sS=>?_);refine gI [] (Γ':=[uv ⟨some ⟨sS,0,none⟩,1,1⟩ [cL 3 4 ps]]) (fun I w _ hh=>aV (pU [⟨ub,⟨none,0,0⟩,cL 3 4 ps⟩] (by simp) (aZ.p (k:=dY sS) inferInstance hh) (fun e he=>by
  simp only[aD,aC,bp]at he;subst he;exact aZ.p (k:=mr ub ⟨none,0,0⟩) inferInstance hh))) (lZ mT ⟨some ⟨sS,0,none⟩,1,1⟩ (l:=[cL 3 4 ps]) (by decide)) ?_
 rintro _ _ ⟨uc,rfl,rfl⟩;refine aj [] (gN 11 0 ⟨none,0,0⟩) ?_;rintro _ _ ⟨rfl,rfl⟩;refine aj [] (xh mT (by decide)) ?_;rintro _ _ ⟨ut,rfl,rfl⟩;refine aj [] (gN 18 6 ut) ?_;rintro _ _ ⟨rfl,rfl⟩;refine cI [] 2 [.int .i64 (IntKind.i64.wrap (1+IntKind.i64.wrap (c0:Int))),.int .i64 (IntKind.i64.wrap (1+IntKind.i64.wrap (r0:Int)))] aB (fun b16=>?_);refine gI [] (Γ':=[NL ⟨some ⟨b16,0,none⟩,2,2⟩ [((c0+1:Nat):Int),((r0+1:Nat):Int)]]) (fun I w _ hh=>aV (tN (l:=[((c0+1:Nat):Int),((r0+1:Nat):Int)]) (by simp) (by
  have:=hh.h0';rw[hC,hR]at this;exact this))) (pg ⟨some ⟨b16,0,none⟩,2,2⟩ (l:=[((c0+1:Nat):Int),((r0+1:Nat):Int)]) (by simp)) ?_
 rintro _ _ ⟨us,rfl,rfl⟩;refine aj [] (gN 19 2 us) ?_;rintro _ _ ⟨rfl,rfl⟩;have m1:=kR (c:=c0+1) (z:=DX) (by omega) Yl;have m2:=kR (c:=c0+1) (z:=DY) (by omega) Ym;have m3:=kR (c:=r0+1) (z:=EX) (by omega) Yn;have m4:=kR (c:=r0+1) (z:=EY) (by omega) Yo;refine cI [] 6 [.int .i64 X,.int .i64 Y,.int .i64 (IntKind.i64.wrap (X+IntKind.i64.wrap (IntKind.i64.wrap (1+IntKind.i64.wrap (c0:Int))*DX))),.int .i64 (IntKind.i64.wrap (Y+IntKind.i64.wrap (IntKind.i64.wrap (1+IntKind.i64.wrap (c0:Int))*DY))),
  .int .i64 (IntKind.i64.wrap (X+IntKind.i64.wrap (IntKind.i64.wrap (1+IntKind.i64.wrap (r0:Int))*EX))),.int .i64 (IntKind.i64.wrap (Y+IntKind.i64.wrap (IntKind.i64.wrap (1+IntKind.i64.wrap (r0:Int))*EY)))] aB (fun Q0=>?_)
 refine gI [] (Γ':=[NL ⟨some ⟨Q0,0,none⟩,6,6⟩ [X,Y,X+((c0+1:Nat):Int)*DX,Y+((c0+1:Nat):Int)*DY,X+((r0+1:Nat):Int)*EX,Y+((r0+1:Nat):Int)*EY]]) (fun I w _ hh=>aV (tN (l:=[X,Y,X+((c0+1:Nat):Int)*DX,Y+((c0+1:Nat):Int)*DY,X+((r0+1:Nat):Int)*EX,Y+((r0+1:Nat):Int)*EY]) (by simp) (by
  have:=hh.h0';rw[hC,hR,xK X _ m1 bX,xK Y _ m2 bY,xK X _ m3 bX,xK Y _ m4 bY]at this;exact this))) (ri ⟨some ⟨Q0,0,none⟩,6,6⟩ (l:=[X,Y,X+((c0+1:Nat):Int)*DX,Y+((c0+1:Nat):Int)*DY,X+((r0+1:Nat):Int)*EX,Y+((r0+1:Nat):Int)*EY]) (by simp)) ?_
 rintro _ _ ⟨ul,rfl,rfl⟩;refine aj [] (gN 16 3 ul) ?_;rintro _ _ ⟨rfl,rfl⟩;refine cI [] 4 [.int .u8 11,.int .u8 0,.slice none 0 0,.int .u8 18,.int .u8 6,bz ut,.int .u8 19,.int .u8 2,bz us,.int .u8 16,.int .u8 3,bz ul] aB (fun L_=>?_);refine W.code 999 ?_;refine W.more (Δ:=[mr ⟨some ⟨L_,0,none⟩,4,4⟩ ⟨none,0,0⟩ (lS ((c0+1:Nat):Int) ((r0+1:Nat):Int) X Y DX DY EX EY)]) (by kernel_rfl) (fun I w _ hh=>aV ⟨rZ [⟨⟨none,0,0⟩,⟨11,0,[]⟩⟩,⟨ut,⟨18,6,mz mT⟩⟩,⟨us,⟨19,2,[((c0+1:Nat):Int),((r0+1:Nat):Int)].flatMap sB⟩⟩,⟨ul,⟨16,3,[X,Y,X+((c0+1:Nat):Int)*DX,Y+((c0+1:Nat):Int)*DY,X+((r0+1:Nat):Int)*EX,Y+((r0+1:Nat):Int)*EY].flatMap lB⟩⟩] (by simp) (aZ.p (k:=dY L_) inferInstance hh) (fun e he=>by
  simp only[aD,aC,bp]at he;rcases he with rfl|rfl|rfl|rfl
  ·exact h_ (by decide) (by decide) (qB _ _ _)
  ·exact h_ (by decide) (by decide) (aZ.p (k:=BF ut) inferInstance hh)
  ·exact h_ (by decide) (by decide) (aZ.p (k:=BF us) inferInstance hh)
  ·exact h_ (by decide) (by decide) (aZ.p (k:=BF ul) inferInstance hh)),xC _ _⟩) ?_
 generalize hA:lS ((c0+1:Nat):Int) ((r0+1:Nat):Int) X Y DX DY EX EY=A at f1⊢;refine kA [] Tryz.f6 1 209 209 [1,2,3,4,5,6,7,8,18,20,21,22,23] [20,21] (fun q:AtS=>[(1,.val (.int .i64 (IntKind.i64.wrap (1+IntKind.i64.wrap (c0:Int))))),(2,.val (.int .i64 (IntKind.i64.wrap (1+IntKind.i64.wrap (r0:Int))))),(3,.val (.int .i64 X)),(4,.val (.int .i64 Y)),(5,.val (.int .i64 DX)),(6,.val (.int .i64 DY)),(7,.val (.int .i64 EX)),(8,.val (.int .i64 EY)),(18,.val (.bool false)),(20,.ptr 20 0),(21,.ptr 21 0),(22,.val (bz q.v)),(23,.val (.int .i64 q.z))])
  (fun _=>[(20,[bz uc,.slice (some ⟨sS,0,none⟩) 1 1]),(21,[.slice (some ⟨L_,0,none⟩) 4 4,.slice none 0 0])]) (fun q=>q.O) (fun _=>[]) (fun q=>[mr ⟨some ⟨L_,0,none⟩,4,4⟩ ⟨none,0,0⟩ A,xL uc ⟨some ⟨sS,0,none⟩,1,1⟩ (eP mT [cL 3 4 ps]),ru lJ (bz q.v) q.es])
  (fun q=>q.z=(q.k:Int)∧q.k≤r0+1∧cG 2 q.O (bz q.v) q.es.length (q.es.flatMap lJ.cells)∧q.es.map nj.x=jo (c0+1) q.k X Y DX DY EX EY) (fun q=>r0+1-q.k) ⟨0,0,⟨none,0,0⟩,[],[]⟩ ⟨rfl,aM _,cG.nil 2,rfl⟩ (eC eK (eC eK (eC (fun I w hd hh e he=>by simp at he) eE))) ?_
 rintro⟨k,z2,v2,O2,es⟩ K2 ⟨hz2,hk2,hg2,he2⟩ close2;simp only at hz2 hk2 hg2 he2;by_cases hlt2:k<r0+1
 ·refine bD [] 138 (decide (z2<IntKind.i64.wrap (1+IntKind.i64.wrap (r0:Int)))) (aw (by omega)) ?_;refine j0 [138] [22,24] (fun q:AtS=>[(22,bz q.v),(24,.int .i64 q.z)]) (fun _=>[]) (fun q=>q.O) (fun q=>[mr ⟨some ⟨L_,0,none⟩,4,4⟩ ⟨none,0,0⟩ A,xL uc ⟨some ⟨sS,0,none⟩,1,1⟩ (eP mT [cL 3 4 ps]),ru lJ (bz q.v) q.es])
   (fun q=>q.z=(q.k:Int)∧q.k≤c0+1∧cG 2 q.O (bz q.v) q.es.length (q.es.flatMap lJ.cells)∧q.es.map nj.x=jo (c0+1) k X Y DX DY EX EY++(List.range q.k).map fun i:Nat=>k8 mT (X+i*DX+k*EX) (Y+i*DY+k*EY)) (fun q=>c0+1-q.k) ⟨0,0,v2,O2,es⟩ ⟨rfl,aM _,hg2,by simpa using he2⟩ (eC eK (eC eK (eC eK eE))) ?_
  rintro⟨j,z3,v3,O3,jy⟩ K3 ⟨hz3,hj3,x5,YV⟩ close3;simp only at hz3 hj3 x5 YV;have hes:jy.length≤100000:=by
   have:=dz List.length YV;rw[az,BK,bL,bL,dX]at this;have:=aR (show k≤6 by omega) (show c0+1≤6 by omega);omega
  by_cases hlt3:j<c0+1
  ·have p1:=kR (c:=j) (z:=DX) (by omega) Yl;have p2:=kR (c:=j) (z:=DY) (by omega) Ym;have p3:=kR (c:=k) (z:=EX) (by omega) Yn;have p4:=kR (c:=k) (z:=EY) (by omega) Yo;refine bD [] 143 (decide (z3<IntKind.i64.wrap (1+IntKind.i64.wrap (c0:Int)))) (aw (by omega)) ?_;refine aj [143] (R8 mT (IntKind.i64.wrap (IntKind.i64.wrap (X+IntKind.i64.wrap (z3*DX))+IntKind.i64.wrap (z2*EX))) (IntKind.i64.wrap (IntKind.i64.wrap (Y+IntKind.i64.wrap (z3*DY))+IntKind.i64.wrap (z2*EY))) (by decide)) ?_;rintro _ _ ⟨ur,rfl,rfl⟩;refine cI [] 1 [bz ur,.slice none 0 0] aB (fun MJ=>?_);refine W.app [] O3 [] O3 [] 2 48 jy.length 1 (bz v3) (.slice (some ⟨MJ,0,none⟩) 1 1) (jy.flatMap lJ.cells) [bz ur,.slice none 0 0] aB (by simp) x5 (bW MJ _ 1 2 rfl 1) (I2 ur ⟨none,0,0⟩) (by omega) (by decide) (fun v' O' hg'=>?_);obtain⟨v',rfl⟩:=iA hg';refine close3 [] _ _ ⟨j+1,IntKind.i64.wrap (z3+1),v',O',jy++[⟨ur,⟨none,0,0⟩,k8 mT (IntKind.i64.wrap (IntKind.i64.wrap (X+IntKind.i64.wrap (z3*DX))+IntKind.i64.wrap (z2*EX))) (IntKind.i64.wrap (IntKind.i64.wrap (Y+IntKind.i64.wrap (z3*DY))+IntKind.i64.wrap (z2*EY)))⟩]⟩ (by kernel_rfl) (by simp only[aA,af];kernel_rfl)
    ⟨by simp only[ah];omega,by simp only;omega,cG.cast (by simp[lJ]) (by simp) hg',?_⟩ (by simp only;omega) (eC eK (eC eK (eC (fun I w hd hh=>ru.snoc (R:=lJ) (e:=(⟨ur,⟨none,0,0⟩,_⟩:nj)) (eK (k:=ru lJ (bz v3)) I w hd hh) (eK (k:=mr ur ⟨none,0,0⟩) I w hd hh)) eE)))
   rw[aX,YV,G7,aU];simp only[b_,cZ];rw[hz3,hz2,Dz X _ _ p1 p3 bX,Dz Y _ _ p2 p4 bY]
  ·refine aS [] 143 (decide (z3<IntKind.i64.wrap (1+IntKind.i64.wrap (c0:Int)))) (ak (by omega)) ?_;obtain rfl:j=c0+1:=by omega
   refine close2 [143] _ _ ⟨k+1,IntKind.i64.wrap (z2+1),v3,O3,jy⟩ (by kernel_rfl) (by kernel_rfl) ⟨by simp only[ah];omega,by simp only;omega,x5,?_⟩ (by simp only;omega) (eC eK (eC eK (eC eK eE)));simp only;rw[YV];unfold jo;rw[IP]
 refine aS [] 138 (decide (z2<IntKind.i64.wrap (1+IntKind.i64.wrap (r0:Int)))) (ak (by omega)) ?_;obtain rfl:k=r0+1:=by omega
 clear close2;have hes:es.length≤36:=by
  have:=dz List.length he2;rw[bL,BK]at this;have:=aR (show r0+1≤6 by omega) (show c0+1≤6 by omega);omega
 refine W.code 999 ?_;refine lR [] O2 [] (s:=v2) (by simp only[aA,af];kernel_rfl) hg2 (fun g1 g2 g3=>?_);refine W.more (Δ:=[uv v2 (jo (c0+1) (r0+1) X Y DX DY EX EY)]) (by kernel_rfl) (fun I w hd hh=>aV (by
  rw[←he2];exact JJ lJ nj.x g1 g2 g3 (aZ.p (k:=ru lJ (bz v2)) inferInstance hh) (aZ.p (k:=RA v2.ao) inferInstance hh))) ?_
 refine cI [138] 1 [.slice (some ⟨L_,0,none⟩) 4 4,.slice none 0 0] aB (fun Ql=>?_);refine gI [] (Γ':=[uv ⟨some ⟨Ql,0,none⟩,1,1⟩ [A]]) (fun I w _ hh=>aV (pU [⟨⟨some ⟨L_,0,none⟩,4,4⟩,⟨none,0,0⟩,A⟩] (by simp) (aZ.p (k:=dY Ql) inferInstance hh) (fun e he=>by
  simp only[aD,aC,bp]at he;subst he;exact aZ.p (k:=mr ⟨some ⟨L_,0,none⟩,4,4⟩ ⟨none,0,0⟩) inferInstance hh))) (lZ jL ⟨some ⟨Ql,0,none⟩,1,1⟩ (l:=[A]) (by decide)) ?_
 rintro _ _ ⟨u25,rfl,rfl⟩;refine cI [] 2 [bz uc,.slice (some ⟨sS,0,none⟩) 1 1,bz u25,.slice (some ⟨Ql,0,none⟩) 1 1] aB (fun MJ=>?_);refine gI [] (Γ':=[pE ⟨some ⟨MJ,0,none⟩,2,2⟩ [eP mT [cL 3 4 ps],eP jL [A]]]) (fun I w _ hh=>aV (wG [⟨uc,⟨some ⟨sS,0,none⟩,1,1⟩,eP mT [cL 3 4 ps]⟩,⟨u25,⟨some ⟨Ql,0,none⟩,1,1⟩,eP jL [A]⟩] (by simp) (aZ.p (k:=dY MJ) inferInstance hh) (fun e he=>by
  simp only[aD,aC,bp]at he;rcases he with rfl|rfl
  ·exact aZ.p (k:=xL uc ⟨some ⟨sS,0,none⟩,1,1⟩) inferInstance hh
  ·exact aZ.p (k:=xL u25 ⟨some ⟨Ql,0,none⟩,1,1⟩) inferInstance hh))) (xe ⟨some ⟨MJ,0,none⟩,2,2⟩ (cs:=[eP mT [cL 3 4 ps],eP jL [A]])) ?_
 rintro _ _ ⟨u27,rfl,rfl⟩;have hBl:(eQ (cL 3 4 ps)).length≤8:=eV rfl;have hBw:wI (cL 3 4 ps)≤8:=eV rfl;refine aj [] (nG u27 ⟨some ⟨MJ,0,none⟩,2,2⟩ 36 (t:=gn (cL 3 4 ps) [A]) (Ku hBl (fun x hx=>by
  simp only[aD,aC,bp]at hx;subst hx;subst hA;exact eV rfl) (by simp)) (fun _=>aP (Hk (a:=0) hBw (fun x hx=>by
  simp only[aD,aC,bp]at hx;subst hx;subst hA;exact ai _)) (by decide))) ?_
 rintro _ _ hp;rw[f1]at hp;rcases hp with⟨e,he,_⟩|⟨l1,s1,he,rfl,rfl⟩
 ·simp at he
 injection he with he;subst he;refine aj [] (lZ jL v2 (l:=jo (c0+1) (r0+1) X Y DX DY EX EY) (by decide)) ?_;rintro _ _ ⟨I6,rfl,rfl⟩;refine cI [] 2 [bz uc,.slice (some ⟨sS,0,none⟩) 1 1,bz I6,bz v2] aB (fun Tg=>?_);refine gI [] (Γ':=[pE ⟨some ⟨Tg,0,none⟩,2,2⟩ [eP mT [cL 3 4 ps],eP jL (jo (c0+1) (r0+1) X Y DX DY EX EY)]]) (fun I w _ hh=>aV (wG [⟨uc,⟨some ⟨sS,0,none⟩,1,1⟩,eP mT [cL 3 4 ps]⟩,⟨I6,v2,eP jL (jo (c0+1) (r0+1) X Y DX DY EX EY)⟩] (by simp) (aZ.p (k:=dY Tg) inferInstance hh) (fun e he=>by
  simp only[aD,aC,bp]at he;rcases he with rfl|rfl
  ·exact aZ.p (k:=xL uc ⟨some ⟨sS,0,none⟩,1,1⟩) inferInstance hh
  ·exact aZ.p (k:=xL I6 v2) inferInstance hh))) (xe ⟨some ⟨Tg,0,none⟩,2,2⟩ (cs:=[eP mT [cL 3 4 ps],eP jL (jo (c0+1) (r0+1) X Y DX DY EX EY)])) ?_
 rintro _ _ ⟨u31,rfl,rfl⟩;refine aj [] (nG u31 ⟨some ⟨Tg,0,none⟩,2,2⟩ 36 (t:=gn (cL 3 4 ps) (jo (c0+1) (r0+1) X Y DX DY EX EY)) (Ku hBl (fun x hx=>by
  obtain⟨i,k,_,_,rfl⟩:=zW bc br bX bY Yl Ym Yn Yo hx;exact eV rfl) (by rw[BK];have:=aR (show r0+1≤6 by omega) (show c0+1≤6 by omega);omega)) (fun _=>aP (Hk (a:=0) hBw (fun x hx=>by
  obtain⟨i,k,_,_,rfl⟩:=zW bc br bX bY Yl Ym Yn Yo hx;exact eV rfl)) (by decide))) ?_
 rintro _ _ hp;rw[f2]at hp;rcases hp with⟨e,he,_⟩|⟨l2,s2,he,rfl,rfl⟩
 ·simp at he
 injection he with he;subst he;obtain⟨a1,n1,c1⟩:=s1;obtain⟨a2,n2,c2⟩:=s2;refine W.code 999 ?_;refine W.len oR qK.x ⟨a1,n1,c1⟩ (by kernel_rfl) (fun hs _ _=>?_);simp only at hs;refine aj [] mV ?_;rintro _ _ ⟨rfl,rfl⟩;refine bD [188] 192 ((0:Int)==0) rfl ?_;refine bD [192] 196 ((0:Int)==0) rfl ?_;refine bD [196] 204 ((n1:Int)==IntKind.i64.wrap (IntKind.i64.wrap (1+IntKind.i64.wrap (c0:Int))*IntKind.i64.wrap (1+IntKind.i64.wrap (r0:Int)))) (by
  rw[hC,hR,hs,fs,←dp,lx,ah];have:=aR (show r0+1≤6 by omega) (show c0+1≤6 by omega);have:=eA (r0+1) (c0+1);omega) ?_
 refine aj [204] (xj a1 n1 c1 a2 n2 c2 (l:=s)) ?_;rintro _ _ ⟨rfl,rfl⟩;exact W.r [204] (.bool true) ⟨rfl,rfl⟩ bU
end
theorem N6:Tryz.prog.mayEnter=true:=by kernel_rfl
theorem Rz:(false==Tryz.prog.liftsFinal)=true:=by kernel_rfl
theorem RB:(Tryz.prog.make==some Rows.flatCountsRow.make)=true:=by kernel_rfl
theorem JI:laidOutB Tryz.prog=true:=by kernel_rfl
theorem RC:mapsRowed Tryz.prog=true:=by kernel_rfl
theorem VT:ownKnob Tryz.prog.godebug=none:=by kernel_rfl
end Go.Proofs.YtgaaopjagcaojaaGreat
namespace Go.Proofs.YtgaaopjagcaojaaGreat.flatArrays
open Go.ChangeShapes Go.WideShapes Go.ChangeAt Go.RowKit
open Go.ChangeMaps (open_string shut_string)
theorem Ve:joinedFacts Tryz.pinned.checked.prog 6 Tryz.f6 Rows.flatArraysSpec Rows.flatArraysRow=true:=by
 unfold joinedFacts;rw[show Tryz.pinned.checked.prog.mayEnter=true from N6,show(Rows.flatArraysRow.lifted==Tryz.pinned.checked.prog.liftsFinal)=true from Rz,show(Tryz.pinned.checked.prog.make==some Rows.flatArraysRow.make)=true from RB,
  show laidOutB Tryz.pinned.checked.prog=true from JI,show mapsRowed Tryz.pinned.checked.prog=true from RC]
 kernel_rfl
set_option maxRecDepth 100000 in
theorem lifted(os:Os)(started:os.Started)(H:Type)(enc:TypeId×Value→H):
  ReturnsInHanded {} Tryz.checked os 6 .any (Rows.flatArraysSpec.pre6 enc Tryz.prog Tryz.f6 Rows.flatArraysRow.domain false) (Rows.flatArraysSpec.post enc Tryz.prog Tryz.f6 false true false false):=by
 refine returnsInHanded_of_change (C:=Tryz.checked) VT started (by kernel_rfl) Tryz.func6
  (ChangeSpec.witness6 (enc:=enc) (C:=Tryz.checked) false ⟨#[],#[.slice none 0 0,.int .i64 0,.int .i64 0,.int .i64 0,.int .i64 0,.int .i64 0,.int .i64 0,.int .i64 0,.int .i64 0],[]⟩ 8 (by kernel_rfl) (by kernel_rfl) (by kernel_rfl) (by kernel_rfl)) ?_
 intro W base args ds gs mJ TM hW afn _;have hval:∀(j:Nat) t v,Tryz.f6.params[j]? =some t→args[j]? =some v→Value.okWide Tryz.prog W .any base t v:=TM;have hW':=hW;obtain⟨p,q,hA0,hV,rfl,hfz,AR⟩:=hW;have hA:DataW.TrodAll enc Tryz.prog W 0 (fun _=>true) true Tryz.f6.params.toList args.toList ds p:=hA0;have hK:=hA;rw[Tryz.params6]at hA hval hK;obtain⟨v0,vs0,d0,ds0,p0,q0,hargs,rfl,rfl,h0,r0⟩:=trodAll_cons hA;obtain⟨v1,vs1,d1,ds1,p1,q1,rfl,rfl,rfl,h1,r1⟩:=trodAll_cons r0;obtain⟨v2,vs2,d2,ds2,p2,q2,rfl,rfl,rfl,h2,r2⟩:=trodAll_cons r1;obtain⟨v3,vs3,d3,ds3,p3,q3,rfl,rfl,rfl,h3,r3⟩:=trodAll_cons r2;obtain⟨v4,vs4,d4,ds4,p4,q4,rfl,rfl,rfl,h4,r4⟩:=trodAll_cons r3;obtain⟨v5,vs5,d5,ds5,p5,q5,rfl,rfl,rfl,h5,r5⟩:=trodAll_cons r4;obtain⟨v6,vs6,d6,ds6,p6,q6,rfl,rfl,rfl,h6,r6⟩:=trodAll_cons r5;obtain⟨v7,vs7,d7,ds7,p7,q7,rfl,rfl,rfl,h7,r7⟩:=trodAll_cons r6;obtain⟨v8,vs8,d8,ds8,p8,q8,rfl,rfl,rfl,h8,r8⟩:=trodAll_cons r7;obtain⟨rfl,rfl,rfl⟩:=trodAll_nil r8;obtain rfl:args= #[v0,v1,v2,v3,v4,v5,v6,v7,v8]:=by cases args;simp_all
 obtain⟨rfl,rfl⟩:=trodVars_none hV;obtain⟨ao0,n0,c0,hv0⟩:=okWide_slice Tryz.underlying54 (hval 0 54 v0 rfl rfl);obtain⟨a0,e0,w0,q0,g0⟩:=Sg Tryz.underlying54 Tryz.underlying58 ⟨rfl,rfl⟩ ⟨rfl,rfl⟩ Tryz.underlying3 hv0 h0;subst hv0;obtain⟨a1,rfl,rfl,rfl,w1⟩:=open_int Tryz.underlying3 (hval 1 3 v1 rfl rfl) h1;obtain⟨a2,rfl,rfl,rfl,w2⟩:=open_int Tryz.underlying3 (hval 2 3 v2 rfl rfl) h2;obtain⟨a3,rfl,rfl,rfl,w3⟩:=open_int Tryz.underlying3 (hval 3 3 v3 rfl rfl) h3;obtain⟨a4,rfl,rfl,rfl,w4⟩:=open_int Tryz.underlying3 (hval 4 3 v4 rfl rfl) h4;obtain⟨a5,rfl,rfl,rfl,w5⟩:=open_int Tryz.underlying3 (hval 5 3 v5 rfl rfl) h5;obtain⟨a6,rfl,rfl,rfl,w6⟩:=open_int Tryz.underlying3 (hval 6 3 v6 rfl rfl) h6;obtain⟨a7,rfl,rfl,rfl,w7⟩:=open_int Tryz.underlying3 (hval 7 3 v7 rfl rfl) h7;obtain⟨a8,rfl,rfl,rfl,w8⟩:=open_int Tryz.underlying3 (hval 8 3 v8 rfl rfl) h8;clear hA0 TM;simp only[af]at hW' hK;refine(Is (Ep ao0 n0 c0 a0 e0 q0 w0 a1 w1 a2 w2 a3 w3 a4 w4 a5 w5 a6 w6 a7 w7 a8 w8) W (aG.cons g0 (aG.nil _ _))).mono fun e W' ⟨he,hg⟩=>?_;subst he;exact⟨_,rfl,N9 hW' rfl (fun _ _ _=>(trodAll_cons_mk (shut_bool Tryz.underlying4 _) trodAll_mk0)) (fun sp hsp=>vq JI hg (by kernel_rfl) hK (fun x hx=>hW'.lt x (by first|exact hx|simpa using hx)) (fun x hx=>hsp x (by first|exact hx|simpa using hx))) rfl hg⟩
theorem over:Rows.flatArraysRow.holds Tryz.pinned (OpenSpec.ofChange Rows.flatArraysSpec):=
 OpenClaim.holds_of_wide 6 Tryz.f6 rfl rfl rfl rfl rfl rfl rfl ⟨rfl,rfl,rfl,rfl,rfl⟩ rfl rfl rfl rfl rfl (by kernel_rfl) Tryz.func6 Ve
  (kr (by kernel_rfl)) (by unfold Func.isWrapper;first|(rw[if_pos (by decide+kernel)];kernel_rfl)|(rw[if_neg (by decide+kernel)];exact⟨rfl,rfl⟩))
  (fun os started H enc _=>lifted os started H enc)
end Go.Proofs.YtgaaopjagcaojaaGreat.flatArrays
namespace Go.Proofs.YtgaaopjagcaojaaGreat
theorem flatArrays_holds:Rows.FlatArraysSaid:=flatArrays.over
end Go.Proofs.YtgaaopjagcaojaaGreat
