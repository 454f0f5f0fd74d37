import Derived.Test.YtgaaopjagcaojaaGreatRo
set_option linter.unusedSimpArgs false
set_option linter.unusedVariables false
set_option maxHeartbeats 4000000
namespace Go.Proofs.YtgaaopjagcaojaaGreat
open Go.RowKit Go.IntWalk
theorem cO.ap{N K M J:Nat}{V:On}(h:cO N K V)(hK:N≤K){x y z w:Rat}(hx:cq M J x)(hy:cq M J y)(hz:cq M J z)(hw:cq M J w):
  cq (2*(M*N)) (8*(J*K)+2*(M*K)) (V.u0 x y z w)∧cq (2*(M*N)) (8*(J*K)+2*(M*K)) (V.u1 x y z w)∧cq (2*(M*N)) (8*(J*K)+2*(M*K)) (V.v0 x y z w)∧cq (2*(M*N)) (8*(J*K)+2*(M*K)) (V.v1 x y z w):=by
 have hm:=h.mag hK;obtain⟨_,h2,h3,h4,h5⟩:=h;have c1:=WN V.o;have c2:=WO V.o;have c3:=Ph V.o;have c4:=Pm V.o;have x:=hx.mul hm;have y:=hy.mul hm;have z:=(hz.sg (V:=V)).mul hm;have w:=(hw.sg (V:=V)).mul hm;have l2:=(h2.scale M).scale 2;have l3:=(h3.scale M).scale 2;have l4:=(h4.scale M).scale 2;have l5:=(h5.scale M).scale 2;generalize J*K=P at*;generalize M*K=Q at*;refine⟨?_,?_,?_,?_⟩
 ·exact(((tq x y c1 c3).add (tq z w c2 c4).neg).add l2).mono (by omega)
 ·exact(((tr x y c1 c3).add (tr z w c2 c4).neg).add l3).mono (by omega)
 ·exact(((tq x y c2 c4).add (tq z w c1 c3)).add l4).mono (by omega)
 ·exact(((tr x y c2 c4).add (tr z w c1 c3)).add l5).mono (by omega)
theorem zy{M A E k e:Nat}(hM:M≤A)(hE:E≤2^e)(hA:A≤2^k):M*E≤2^(e+k):=by
 rw[cR,eA (2^e)];exact aR (aP hM hA) hE
theorem Jg{e M J:Nat}{V:On}(h:sw e V)(h0:0<M)(hM:M≤2^136)(hJ:J≤2^174){x y z w:Rat}(hx:cq M J x)(hy:cq M J y)(hz:cq M J z)(hw:cq M J w):
  bq (e+179) (V.u0 x y z w)∧bq (e+179) (V.u1 x y z w)∧bq (e+179) (V.v0 x y z w)∧bq (e+179) (V.v1 x y z w):=by
 obtain⟨N,K,n0,nK,hK,hc⟩:=h;obtain⟨g1,g2,g3,g4⟩:=hc.ap nK hx hy hz hw;have a1:0<2*(M*N):=iz (by decide) (iz h0 n0);have a2:2*(M*N)≤2^(e+178):=by
  rw[←lM];exact zy (aR (ai 2) hM) (aP nK hK) (by decide)
 have a3:8*(J*K)+2*(M*K)≤2^(e+178):=by
  rw[←lM,←lM,←ed];exact zy (Nat.add_le_add (aR (ai 8) hJ) (aR (ai 2) hM)) hK (by decide)
 exact⟨g1.bq a1 a2 a3,g2.bq a1 a2 a3,g3.bq a1 a2 a3,g4.bq a1 a2 a3⟩
theorem QZ{e:Nat}{V:On}(h:sw e V){x y:Int}(hx:x.natAbs≤2^31)(hy:y.natAbs≤2^31):bS (e+190) (V.X x y)∧bS (e+190) (V.Y x y):=by
 obtain⟨g1,g2,g3,g4⟩:=Jg h (M:=1) (J:=2^31) (by decide) (by decide) (by decide) (cq.int hx) (cq.zero 1 (2^31)) (cq.int hy) (cq.zero 1 (2^31));exact⟨bS.r2 (g1.mono (by omega)) (g2.mono (by omega)) (by omega),bS.r2 (g3.mono (by omega)) (g4.mono (by omega)) (by omega)⟩
theorem PJ{n:Int}(h:0≤n∧n≤2):∃a b:Int,E0 n=(a:Rat)∧E3 n=(b:Rat)∧(0≤a∧a≤1)∧0≤b∧b≤1:=by
 by_cases h2:n=2
 ·exact⟨0,1,by unfold E0;rw[if_pos h2];rfl,by unfold E3;rw[if_pos h2];rfl,by decide,by decide⟩
 ·exact⟨n,0,by unfold E0;rw[if_neg h2],by unfold E3;rw[if_neg h2];rfl,by omega,by decide⟩
theorem n_C{M:Nat}{S:Sn}(h:cS M (2^170) S)(hm:0≤S.m∧S.m≤2)(hn:0≤S.n∧S.n≤2):cq M (2^174) S.n0∧cq M (2^174) S.n1:=by
 obtain⟨a,b,ha,hb,a1,b1⟩:=PJ hm;obtain⟨c,d,hc,hd,c1,d1⟩:=PJ hn;have e1:Qz (a:Rat) b c d=((a*c+2*(b*d):Int):Rat):=by
  unfold Qz;rw[fV,dH,dH,dH];grind
 have e2:QA (a:Rat) b c d=((a*d+b*c:Int):Rat):=by
  unfold QA;rw[fV,dH,dH]
 have p1:0≤a*c∧a*c≤1:=⟨eZ a1.1 c1.1,uX (qj a1.2 c1.2 c1.1 (by decide)) (by decide)⟩;have p2:0≤b*d∧b*d≤1:=⟨eZ b1.1 d1.1,uX (qj b1.2 d1.2 d1.1 (by decide)) (by decide)⟩;have p3:0≤a*d∧a*d≤1:=⟨eZ a1.1 d1.1,uX (qj a1.2 d1.2 d1.1 (by decide)) (by decide)⟩;have p4:0≤b*c∧b*c≤1:=⟨eZ b1.1 c1.1,uX (qj b1.2 c1.2 c1.1 (by decide)) (by decide)⟩;obtain⟨h1,h2,h3,h4⟩:=h;have n0:S.n0=S.p*((1:Int):Rat)+S.q*(a:Rat)+S.r*(c:Rat)+S.s*((a*c+2*(b*d):Int):Rat):=by
  unfold Sn.n0;rw[ha,hb,hc,hd,e1,e2];generalize((a*c+2*(b*d):Int):Rat)=u;generalize((a*d+b*c:Int):Rat)=v;unfold Qz;grind
 have n1:S.n1=S.p*((0:Int):Rat)+S.q*(b:Rat)+S.r*(d:Rat)+S.s*((a*d+b*c:Int):Rat):=by
  unfold Sn.n1;rw[ha,hb,hc,hd,e1,e2];generalize((a*c+2*(b*d):Int):Rat)=u;generalize((a*d+b*c:Int):Rat)=v;unfold QA;have z:((0:Int):Rat)=0:=rfl;rw[z];grind
 have one:∀{q:Rat} {z:Int},cq M (2^170) q→z.natAbs≤3→cq M (2^170*3) (q*(z:Rat)):=fun hq hz=>hq.mulI hz;rw[n0,n1];exact⟨((((one h1 (by decide)).add (one h2 (by omega))).add (one h3 (by omega))).add (one h4 (by omega))).mono (by decide),((((one h1 (by decide)).add (one h2 (by omega))).add (one h3 (by omega))).add (one h4 (by omega))).mono (by decide)⟩
theorem V6(S:Sn)(m n:Int)(g:Rat):S.mul ⟨m,n,g,0,0,0⟩=⟨S.m,S.n,S.p*g,S.q*g,S.r*g,S.s*g⟩:=Sn.ext' rfl rfl (by simp only[Sn.mul];grind) (by simp only[Sn.mul];grind) (by simp only[Sn.mul];grind) (by simp only[Sn.mul];grind)
theorem Ue{N K:Nat}{m n:Int}:∀(k:Nat) {X Y:Sn},cS N K X∧X.m=m∧X.n=n→cS N K Y∧Y.m=m∧Y.n=n→(cS N K (Dk k X Y).1∧(Dk k X Y).1.m=m∧(Dk k X Y).1.n=n)∧cS N K (Dk k X Y).2∧(Dk k X Y).2.m=m∧(Dk k X Y).2.n=n
 |0,_,_,h,g=>⟨h,g⟩
 |k+1,_,_,h,g=>Ue k ⟨g.1.neg,g.2.1,g.2.2⟩ h
structure Cq(e:Nat)(q:Sn×Sn):Prop where
 b1:bS (e+190) q.1
 b2:bS (e+190) q.2
 f:(0≤q.1.m∧0≤q.1.n)∧0≤q.2.m∧0≤q.2.n
theorem MI{e:Nat}{V:On}(h:sw e V){d:Dp}(hx:d.x.natAbs≤2^31)(hy:d.y.natAbs≤2^31):Cq e (s_ V d):=by
 obtain⟨g1,g2⟩:=QZ h hx hy;exact⟨g1,g2,⟨show(0:Int)≤2 by decide,show(0:Int)≤0 by decide⟩,show(0:Int)≤2 by decide,show(0:Int)≤0 by decide⟩
theorem Nq{e:Nat}{V:On}{P q:Sn×Sn}(h:sw e V)(hP:Ml P)(hq:farP V P=some q):Cq e q:=by
 obtain⟨em,en,m0,n0,mb,nb,M,hM0,hM,h1,h2⟩:=hP;unfold farP at hq;split at hq
 ·rename_i hs;injection hq with hq;subst hq;obtain⟨x0,x1⟩:=n_C h1 ⟨m0,hs.1⟩ ⟨n0,hs.2⟩;obtain⟨y0,y1⟩:=n_C h2 (by omega) (by omega);obtain⟨g1,g2,g3,g4⟩:=Jg h hM0 hM (ai _) x0 x1 y0 y1;exact⟨bS.r2 (g1.mono (by omega)) (g2.mono (by omega)) (by omega),bS.r2 (g3.mono (by omega)) (g4.mono (by omega)) (by omega),⟨show(0:Int)≤2 by decide,show(0:Int)≤0 by decide⟩,show(0:Int)≤2 by decide,show(0:Int)≤0 by decide⟩
 ·split at hq
  ·simp at hq
  ·injection hq with hq;subst hq;obtain⟨N,K,k0,nK,hK,hc⟩:=h;have hm:=hc.mag nK;obtain⟨_,c2,c3,c4,c5⟩:=hc;have sc:∀{S:Sn},cS M (2^170) S→cS (M*N) (2^170*K) (S.mul ⟨P.1.m,P.1.n,V.mag,0,0,0⟩):=fun{S} hS=>by
    rw[V6];exact⟨hS.1.mul hm,hS.2.1.mul hm,hS.2.2.1.mul hm,hS.2.2.2.mul hm⟩
   have s1:=sc h1;have s2:cS (M*N) (2^170*K) (if V.f then(P.2.mul ⟨P.1.m,P.1.n,V.mag,0,0,0⟩).neg else P.2.mul ⟨P.1.m,P.1.n,V.mag,0,0,0⟩)∧(if V.f then(P.2.mul ⟨P.1.m,P.1.n,V.mag,0,0,0⟩).neg else P.2.mul ⟨P.1.m,P.1.n,V.mag,0,0,0⟩).m=P.1.m∧(if V.f then(P.2.mul ⟨P.1.m,P.1.n,V.mag,0,0,0⟩).neg else P.2.mul ⟨P.1.m,P.1.n,V.mag,0,0,0⟩).n=P.1.n:=by
    split
    ·exact⟨(sc h2).neg,em,en⟩
    ·exact⟨sc h2,em,en⟩
   obtain⟨⟨r1,r2',r3⟩,r4,r5,r6⟩:=Ue (V.o/2).toNat ⟨s1,rfl,rfl⟩ s2;have a1:0<M*N:=iz hM0 k0;have a2:M*N≤2^(e+189):=zy hM (aP nK hK) (by decide);have a3:2^170*K+M*K≤2^(e+189):=by
    rw[←ed];exact zy (Nat.add_le_add (ai _) hM) hK (by decide)
   have fin:∀{p c:Rat},cq (M*N) (2^170*K) p→cq N K c→bq (e+190) (p+c):=fun hp hcc=>(hp.add (hcc.scale M)).bq a1 a2 a3;have z:=cq.zero N K;have mm:∀{z:Int},z.natAbs<2^67→z.natAbs<2^(e+190):=fun hz=>cQ hz (fx (by omega));refine⟨⟨?_,?_,fin r1.1 c2,fin r1.2.1 c3,fin r1.2.2.1 z,fin r1.2.2.2 z⟩,⟨?_,?_,fin r4.1 c4,fin r4.2.1 c5,fin r4.2.2.1 z,fin r4.2.2.2 z⟩,⟨?_,?_⟩,?_,?_⟩
   ·show(Dk _ _ _).1.m.natAbs<_;rw[r2'];exact mm mb
   ·show(Dk _ _ _).1.n.natAbs<_;rw[r3];exact mm nb
   ·show(Dk _ _ _).2.m.natAbs<_;rw[r5];exact mm mb
   ·show(Dk _ _ _).2.n.natAbs<_;rw[r6];exact mm nb
   ·show 0≤(Dk _ _ _).1.m;rw[r2'];exact m0
   ·show 0≤(Dk _ _ _).1.n;rw[r3];exact n0
   ·show 0≤(Dk _ _ _).2.m;rw[r5];exact m0
   ·show 0≤(Dk _ _ _).2.n;rw[r6];exact n0
theorem WR{zs:List Int}(hb:ke zs){e:Nat}(he:e=312):∃N,0<N∧N≤2^e∧cq N (2^e) (nV zs):=by
 by_cases hl:zs.length=8
 ·obtain⟨b0,b1⟩:=ML hl hb;obtain⟨k,hk⟩:∃k,zs.getD 0 0 % 128-78=k:=⟨_,rfl⟩;have hkb: -78≤k∧k≤49:=by omega
  obtain⟨z,hz,hzb⟩:∃z:Int,(if 127<zs.getD 0 0 then-1 else 1)*(be (zs.drop 1):Rat)=(z:Rat)∧z.natAbs≤2^56:=by
   split
   ·exact⟨-be (zs.drop 1),by rw[sZ];grind,by show(-be (zs.drop 1)).natAbs≤72057594037927936;omega⟩
   ·exact⟨be (zs.drop 1),by rw[Rat.one_mul],by show(be (zs.drop 1)).natAbs≤72057594037927936;omega⟩
  have hv:nV zs=(z:Rat)*QC (4*k):=by unfold nV;rw[if_pos hl,hz,hk]
  rw[hv];by_cases h0:0≤k
  ·obtain⟨j,rfl⟩:∃j:Nat,k=j:=⟨k.toNat,by omega⟩;refine⟨1,by decide,vD,?_⟩;rw[show 4*(j:Int)=((4*j:Nat):Int)by omega,Pn];refine((cq.int hzb).mulI (J:=2^196) ?_).mono (by rw[←cR];exact fx (by omega));rw[Int.natAbs_natCast];exact fx (by omega)
  ·obtain⟨j,hj⟩:∃j:Nat,k= -(j:Int):=⟨(-k).toNat,by omega⟩;have hp:=P8 (4*j);refine⟨2^(4*j),ki _,fx (by omega),?_⟩;rw[hj,show 4*(-(j:Int))= -((4*j:Nat):Int)by omega,Po];have:=(cq.int hzb).mul (xW hp);rw[gB,la,fO]at this;exact this.mono (fx (by omega))
 ·exact⟨1,by decide,vD,by unfold nV;rw[if_neg hl];exact cq.zero _ _⟩
theorem ZB{x:Im}(h:∀r∈x.f,Mm r){e:Nat}(he:e=312):∃N,0<N∧N≤2^e∧cq N (2^e) (jK x):=by
 unfold jK;cases hf:dK x 27 with
 |none=>exact⟨1,by decide,vD,cq.int (show(1:Int).natAbs≤2^e from vD)⟩
 |some r=>exact WR (h r (kK hf).1) he
theorem Jy{a b:Int}(hb:0<b){A:Nat}(ha:a.natAbs≤A):cq b.toNat A (CQ a b):=by
 have:=(xW hb).mulI ha;have e:Rat.divInt 1 b*(a:Rat)=CQ a b:=by
  unfold CQ;rw[iu,iu,lg,lg,show((1:Int):Rat)=1 from rfl,Rat.one_mul,Rat.mul_comm]
 rwa [e,la]at this
theorem Eo{of:Dp→Int}{p:List Dp}(hp:∀k,(of (p.getD k ⟨0,0⟩)).natAbs≤2^31){eH rows i k:Int}(hc:0<eH∧eH≤32767)(hr:0<rows∧rows≤32767)(hi:0≤i∧i<eH)(hk:0≤k∧k<rows):cq (eH.toNat*rows.toNat) (2^64) (oC of p eH rows i k):=by
 have p0:=hp 0;have p1:=hp 1;have p2:=hp 2;have hcn:eH.toNat≤2^15:=by show eH.toNat≤32768;omega
 have hrn:rows.toNat≤2^15:=by show rows.toNat≤32768;omega
 have Tq:∀{a b c:Int},a.natAbs≤2^31→b.natAbs≤2^31→0≤c∧c<32767→((a-b)*c).natAbs≤2^47:=fun{a b c} h1 h2 h3=>by
  have e1:(2:Nat)^31=2147483648:=by decide
  rw[e1]at h1 h2;rw[cK];refine aP (aR (show(a-b).natAbs≤2^32 from ?_) (show c.natAbs≤2^15 from ?_)) (by decide)
  ·show(a-b).natAbs≤4294967296;omega
  ·show c.natAbs≤32768;omega
 have g0:cq (eH.toNat*rows.toNat) (2^61) ((of (p.getD 0 ⟨0,0⟩):Int):Rat):=(zD _ p0).mono (aP (aR (aR hcn hrn) (ai _)) (by decide));unfold oC;split
 ·have g1:=(Jy hc.1 (Tq p1 p0 (c:=i) (by omega))).scale rows.toNat;have g2:=(Jy hr.1 (Tq p2 p0 (c:=k) (by omega))).scale eH.toNat;rw[eA]at g1;have g1':=g1.mono (J:=2^62) (aP (aR hrn (ai _)) (by decide));have g2':=g2.mono (J:=2^62) (aP (aR hcn (ai _)) (by decide));exact((g0.add g1').add g2').mono (by decide)
 ·exact g0.mono (by decide)
theorem ED{x:Im}(h:∀r∈x.f,Mm r)(k:Nat):(((a_ x).getD k ⟨0,0⟩).x).natAbs≤2^31∧(((a_ x).getD k ⟨0,0⟩).y).natAbs≤2^31:=by
 have e1:(2:Nat)^31=2147483648:=by decide
 rw[e1,dZ];cases hk:(a_ x)[k]? with
 |none=>exact⟨by decide,by decide⟩
 |some d=>
  have:=uM h d (aO hk);simp only[jI];omega
theorem OG{E:Nat}(hE:E=376){x:Im}(h:∀r∈x.f,Mm r)(hc:0<(aT x).1)(hr:0<(aT x).2){i k:Int}(hi:0≤i∧i<(aT x).1)(hk:0≤k∧k<(aT x).2):sw E (lz x i k):=by
 obtain⟨g1,g2⟩:=wM h;obtain⟨e,he⟩:∃e:Nat,e=312:=⟨_,rfl⟩;obtain⟨N,n0,nb,hm⟩:=ZB h he;have cx:=Eo (of:=Dp.x) (fun k=>(ED h k).1) ⟨hc,g1⟩ ⟨hr,g2⟩ hi hk;have cy:=Eo (of:=Dp.y) (fun k=>(ED h k).2) ⟨hc,g1⟩ ⟨hr,g2⟩ hi hk;obtain⟨D,hD⟩:∃D,(aT x).1.toNat*(aT x).2.toNat=D:=⟨_,rfl⟩;rw[hD]at cx cy;have hD0:0<D:=by rw[←hD];exact iz (by omega) (by omega)
 have YM:D≤2^30:=by
  rw[←hD];exact aP (aR (show(aT x).1.toNat≤2^15 from by show _≤32768;omega) (show(aT x).2.toNat≤2^15 from by show _≤32768;omega)) (by decide)
 have hm':=(hm.scale D).mono (J:=2^E) (aP (aR YM (ai _)) (by rw[←cR];exact fx (by omega)));have cx':=(cx.scale N).mono (J:=2^E) (aP (aR nb (ai _)) (by rw[←cR];exact fx (by omega)));have cy':=(cy.scale N).mono (J:=2^E) (aP (aR nb (ai _)) (by rw[←cR];exact fx (by omega)));rw[eA]at cx' cy';exact⟨D*N,2^E,iz hD0 n0,aP (aR YM nb) (by rw[←cR];exact fx (by omega)),ai _,hm',cx',cq.zero _ _,cy',cq.zero _ _⟩
theorem LA{x:Im}(h:∀r∈x.f,Mm r)(XA:dK x 27=none)(hc:0<(aT x).1)(hr:0<(aT x).2){i k:Int}(hi:0≤i∧i<(aT x).1)(hk:0≤k∧k<(aT x).2):sw 64 (lz x i k):=by
 obtain⟨g1,g2⟩:=wM h;have cx:=Eo (of:=Dp.x) (fun k=>(ED h k).1) ⟨hc,g1⟩ ⟨hr,g2⟩ hi hk;have cy:=Eo (of:=Dp.y) (fun k=>(ED h k).2) ⟨hc,g1⟩ ⟨hr,g2⟩ hi hk;obtain⟨D,hD⟩:∃D,(aT x).1.toNat*(aT x).2.toNat=D:=⟨_,rfl⟩;rw[hD]at cx cy;have hD0:0<D:=by rw[←hD];exact iz (by omega) (by omega)
 have YM:D≤2^30:=by
  rw[←hD];exact aP (aR (show(aT x).1.toNat≤2^15 from by show _≤32768;omega) (show(aT x).2.toNat≤2^15 from by show _≤32768;omega)) (by decide)
 have hm:cq D (2^64) (jK x):=by
  unfold jK;rw[XA];exact(zD D (K:=1) (by decide)).mono (aP (aR YM (ai _)) (by decide))
 exact⟨D,2^64,hD0,aP YM (by decide),ai _,hm,cx,cq.zero _ _,cy,cq.zero _ _⟩
structure X_ where
 j:Nat
 z:Int
 x:Sw
 y:Sw
 S:Sn
 T:Sn
theorem Kr{q:Rat}(h:q≠0):(q.num.sign != 0)=true:=by
 have:q.num≠0:=fun e=>h (Rat.num_eq_zero.1 e);have h2:q.num.sign≠0:=fun e=>this (Int.sign_eq_zero_iff_zero.1 e);simp[bne,h2]
section
variable{fin:VS→List aE→Prop}{Γ:List aE}{L M K:Nat}
theorem au.farT{f:FuncId}{args:List Value}{X Y:Sn}{k:Nat}(h:au tb Tryz.prog f args Γ (wg L X Y))(h1:bS k X)(h2:bS k Y):au tb Tryz.prog f args Γ (wg (k/32+1) X Y):=
 h.entH (fun v Δ ⟨x,y,e1,e2⟩=>⟨_,⟨x,y,e1,rfl⟩,fun I w hh=>by
  subst e2;exact aG.cons (SF.tight (hh (SF x (L,X)) (List.Mem.head _)) h1) (aV (SF.tight (hh (SF y (L,Y)) (List.Mem.tail _ (List.Mem.head _))) h2))⟩)
theorem RZ(V:On)(t:Q5)(x y:Sw){X Y:Sn}{L1:Nat} [aZ (OF t) (L1,V) Γ] [aZ (SF x) (L,X) Γ] [aZ (SF y) (M,Y) Γ](ho:0≤V.o∧V.o≤7)(hn:V.o % 2≠0∨V.b≠0∨V.d≠0)(h0:0≤X.m∧0≤X.n)(hmn:2<X.m∨2<X.n)(em:X.m=Y.m)(en:X.n=Y.n)(hL:L≤2000∧M≤2000∧L1≤10000:=by omega):
  au tb Tryz.prog 88 [Hx V t,BB x y] Γ (jv (.tuple #[BB Ci Ci,.int .i64 6])):=by
 refine au.of_W aB Tryz.func88 rfl ?_;refine Cu t rfl ?_;refine s6 x rfl ?_;refine aj [] (Et x y em en) ?_;rintro _ _ ⟨rfl,rfl⟩;refine aj [24] (Bk x h0 hmn) ?_;rintro _ _ ⟨rfl,rfl⟩;refine mH [32] .i64 V.o 2 (V.o % 2) (by decide) (fN ho.1) ?_;by_cases h2:V.o % 2≠0
 ·refine bD [] 63 (V.o % 2 != 0) (by simpa using h2) ?_;exact W.r [76,70,63] (.tuple #[BB Ci Ci,.int .i64 6]) ⟨rfl,rfl⟩ bU
 refine aS [] 63 (V.o % 2 != 0) (by simpa using h2) ?_;refine aj [63] (jg t.b.n t.b.a t.b.m t.b.b) ?_;rintro _ _ ⟨rfl,rfl⟩;by_cases hb:V.b≠0
 ·refine bD [63] 70 (V.b.num.sign != 0) (Kr hb) ?_;exact W.r [76,70] (.tuple #[BB Ci Ci,.int .i64 6]) ⟨rfl,rfl⟩ bU
 refine aS [63] 70 (V.b.num.sign != 0) (by simp only[ne_eq,Decidable.not_not]at hb;rw[hb];decide+kernel) ?_;refine aj [70] (jg t.d.n t.d.a t.d.m t.d.b) ?_;rintro _ _ ⟨rfl,rfl⟩;have hd:V.d≠0:=by
  rcases hn with h|h|h
  ·exact absurd h h2
  ·exact absurd h hb
  ·exact h
 refine bD [70] 76 (V.d.num.sign != 0) (Kr hd) ?_;exact W.r [76] (.tuple #[BB Ci Ci,.int .i64 6]) ⟨rfl,rfl⟩ bU
theorem RY(V:On)(t:Q5)(x y:Sw){X Y:Sn}{L1:Nat} [aZ (OF t) (L1,V) Γ] [aZ (SF x) (L,X) Γ] [aZ (SF y) (M,Y) Γ](ho:0≤V.o∧V.o≤7)(h2:V.o % 2=0)(hb:V.b=0)(hd:V.d=0)(h0:0≤X.m∧0≤X.n)(hmn:2<X.m∨2<X.n)(em:X.m=Y.m)(en:X.n=Y.n)(hL:L≤2000∧M≤2000∧L1≤10000:=by omega):
  au tb Tryz.prog 88 [Hx V t,BB x y] Γ (wg 80000 (V.farX X Y) (V.farY X Y)):=by
 have fin:∀(R:Sn×Sn),R=V.farP X Y→R.1.add ⟨X.m,X.n,V.a,V.b,0,0⟩=V.farX X Y∧R.2.add ⟨X.m,X.n,V.c,V.d,0,0⟩=V.farY X Y:=fun R h=>by rw[h];exact⟨rfl,rfl⟩
 unfold On.farP at fin;obtain⟨k,hk⟩:∃k:Nat,V.o/2=k:=⟨(V.o/2).toNat,by omega⟩;rw[hk,gB]at fin;refine au.of_W aB Tryz.func88 rfl ?_;refine Cu t rfl ?_;refine s6 x rfl ?_;refine aj [] (Et x y em en) ?_;rintro _ _ ⟨rfl,rfl⟩;refine aj [24] (Bk x h0 hmn) ?_;rintro _ _ ⟨rfl,rfl⟩;refine mH [32] .i64 V.o 2 0 (by decide) (by rw[fN ho.1,h2]) ?_;refine aS [] 63 ((0:Int) != 0) (by decide) ?_;refine aj [63] (jg t.b.n t.b.a t.b.m t.b.b) ?_;rintro _ _ ⟨rfl,rfl⟩;refine aS [63] 70 (V.b.num.sign != 0) (by rw[hb];decide+kernel) ?_;refine aj [70] (jg t.d.n t.d.a t.d.m t.d.b) ?_;rintro _ _ ⟨rfl,rfl⟩;refine aS [70] 76 (V.d.num.sign != 0) (by rw[hd];decide+kernel) ?_;refine aj [76] (Bp x) ?_;rintro _ _ ⟨rfl,rfl⟩;refine aj [] (vT V.f V.o t.g t.a t.b t.c t.d (V:=V)) ?_;rintro _ _ ⟨g7,rfl,rfl⟩;obtain⟨qm,hq⟩:∃qm,V.mag=qm:=⟨_,rfl⟩;rw[hq]at fin⊢;refine cI [] 1 ([(⟨g7.n,g7.a,g7.m,g7.b,qm⟩:QE)].flatMap QR.cells) aB (fun b8=>?_);refine aj [] (Bq x.u x.d x.v x.e b8 ⟨g7.n,g7.a,g7.m,g7.b⟩ h0.1 h0.2) ?_;rintro _ _ ⟨X9,rfl,rfl⟩;refine aj [] (Pd (S:=X) (T:=⟨X.m,X.n,qm,0,0,0⟩) x X9 rfl rfl) ?_;rintro _ _ ⟨X10,rfl,rfl⟩;refine aj [] (Pd (S:=Y) (T:=⟨X.m,X.n,qm,0,0,0⟩) y X9 em.symm en.symm) ?_;rintro _ _ ⟨X11,rfl,rfl⟩;cases hf:V.f with
 |true=>
  rw[hf]at fin;refine bD [] 108 V.f hf ?_;refine aj [108] (EA X11) ?_;rintro _ _ ⟨X12,rfl,rfl⟩;refine W.quo [] V.o 2 (k:Int) (by decide) (by rw[Int.tdiv_eq_ediv_of_nonneg ho.1,hk,ah];omega) ?_;refine xT [] [114] (fun a:X_=>[(114,.int .i64 a.z)]) (fun a=>[(18,jk a.x),(20,jk a.y)]) (fun a=>[SF a.x (65000,a.S),SF a.y (65000,a.T),OF t (L1,V),SF x (L,X)]) (fun a=>a.z=a.j∧a.j≤k∧(a.S.m=X.m∧a.S.n=X.n∧a.T.m=X.m∧a.T.n=X.n)∧Dk (k-a.j) a.S a.T=Dk k (X.mul ⟨X.m,X.n,qm,0,0,0⟩) (Y.mul ⟨X.m,X.n,qm,0,0,0⟩).neg) (fun a=>k-a.j) ⟨0,0,X10,X12,X.mul ⟨X.m,X.n,qm,0,0,0⟩,(Y.mul ⟨X.m,X.n,qm,0,0,0⟩).neg⟩ ⟨rfl,aM _,⟨rfl,rfl,em.symm,en.symm⟩,rfl⟩ (lV (pR (x:=X10) (by omega) rfl) (lV (pR (x:=X12) (by omega) rfl) (eC eK (eC eK eE)))) ?_;rintro⟨j,z,A,B,S,T⟩ R ⟨hz,hj,⟨m1,m2,m3,m4⟩,hr⟩ close;simp only at hz hj hr m1 m2 m3 m4;by_cases hlt:j<k
  ·refine bD [] 115 (decide (z<(k:Int))) (aw (by omega)) ?_;refine aj [115] (EA B) ?_;rintro _ _ ⟨C,rfl,rfl⟩;refine close [] _ _ ⟨j+1,IntKind.i64.wrap (z+1),C,A,T.neg,S⟩ (by kernel_rfl) (by kernel_rfl) ⟨by simp only[ah];omega,hlt,⟨m3,m4,m1,m2⟩,?_⟩ (by simp only;omega) (eC eK (eC eK (eC eK (eC eK eE))));rw[←hr,show k-j=(k-(j+1))+1 by omega];rfl
  ·obtain rfl:j=k:=by omega
   rw[qu]at hr;obtain⟨f1,f2⟩:=fin (S,T) hr;refine Cu t rfl ?_;refine s6 x rfl ?_;refine aS [] 115 (decide (z<(j:Int))) (ak (by omega)) ?_;refine aj [115] (lF x.u x.d x.v x.e t.a t.b h0.1 h0.2) ?_;rintro _ _ ⟨X20,rfl,rfl⟩;refine aj [] (pj (S:=S) (T:=⟨X.m,X.n,V.a,V.b,0,0⟩) A X20 m1 m2) ?_;rintro _ _ ⟨X21,rfl,rfl⟩;refine aj [] (lF x.u x.d x.v x.e t.c t.d h0.1 h0.2) ?_;rintro _ _ ⟨X22,rfl,rfl⟩;refine aj [] (pj (S:=T) (T:=⟨X.m,X.n,V.c,V.d,0,0⟩) B X22 m3 m4) ?_;rintro _ _ ⟨X23,rfl,rfl⟩;exact W.r [] (.tuple #[BB X21 X23,.int .i64 0]) ⟨_,_,rfl,rfl⟩ (Js (by omega) f1 f2)
 |false=>
  rw[hf]at fin;refine aS [] 108 V.f hf ?_;refine W.quo [108] V.o 2 (k:Int) (by decide) (by rw[Int.tdiv_eq_ediv_of_nonneg ho.1,hk,ah];omega) ?_;refine xT [] [114] (fun a:X_=>[(114,.int .i64 a.z)]) (fun a=>[(18,jk a.x),(20,jk a.y)]) (fun a=>[SF a.x (65000,a.S),SF a.y (65000,a.T),OF t (L1,V),SF x (L,X)]) (fun a=>a.z=a.j∧a.j≤k∧(a.S.m=X.m∧a.S.n=X.n∧a.T.m=X.m∧a.T.n=X.n)∧Dk (k-a.j) a.S a.T=Dk k (X.mul ⟨X.m,X.n,qm,0,0,0⟩) (Y.mul ⟨X.m,X.n,qm,0,0,0⟩)) (fun a=>k-a.j) ⟨0,0,X10,X11,X.mul ⟨X.m,X.n,qm,0,0,0⟩,(Y.mul ⟨X.m,X.n,qm,0,0,0⟩)⟩ ⟨rfl,aM _,⟨rfl,rfl,em.symm,en.symm⟩,rfl⟩ (lV (pR (x:=X10) (by omega) rfl) (lV (pR (x:=X11) (by omega) rfl) (eC eK (eC eK eE)))) ?_;rintro⟨j,z,A,B,S,T⟩ R ⟨hz,hj,⟨m1,m2,m3,m4⟩,hr⟩ close;simp only at hz hj hr m1 m2 m3 m4;by_cases hlt:j<k
  ·refine bD [] 115 (decide (z<(k:Int))) (aw (by omega)) ?_;refine aj [115] (EA B) ?_;rintro _ _ ⟨C,rfl,rfl⟩;refine close [] _ _ ⟨j+1,IntKind.i64.wrap (z+1),C,A,T.neg,S⟩ (by kernel_rfl) (by kernel_rfl) ⟨by simp only[ah];omega,hlt,⟨m3,m4,m1,m2⟩,?_⟩ (by simp only;omega) (eC eK (eC eK (eC eK (eC eK eE))));rw[←hr,show k-j=(k-(j+1))+1 by omega];rfl
  ·obtain rfl:j=k:=by omega
   rw[qu]at hr;obtain⟨f1,f2⟩:=fin (S,T) hr;refine Cu t rfl ?_;refine s6 x rfl ?_;refine aS [] 115 (decide (z<(j:Int))) (ak (by omega)) ?_;refine aj [115] (lF x.u x.d x.v x.e t.a t.b h0.1 h0.2) ?_;rintro _ _ ⟨X20,rfl,rfl⟩;refine aj [] (pj (S:=S) (T:=⟨X.m,X.n,V.a,V.b,0,0⟩) A X20 m1 m2) ?_;rintro _ _ ⟨X21,rfl,rfl⟩;refine aj [] (lF x.u x.d x.v x.e t.c t.d h0.1 h0.2) ?_;rintro _ _ ⟨X22,rfl,rfl⟩;refine aj [] (pj (S:=T) (T:=⟨X.m,X.n,V.c,V.d,0,0⟩) B X22 m3 m4) ?_;rintro _ _ ⟨X23,rfl,rfl⟩;exact W.r [] (.tuple #[BB X21 X23,.int .i64 0]) ⟨_,_,rfl,rfl⟩ (Js (by omega) f1 f2)
theorem R3(V:On)(t:Q5)(x y:Sw){P q:Sn×Sn}{L1 e:Nat} [aZ (OF t) (L1,V) Γ] [aZ (SF x) (L,P.1) Γ] [aZ (SF y) (M,P.2) Γ](ho:0≤V.o∧V.o≤7)(hP:Ml P)(hw:sw e V)(hq:farP V P=some q)(hL:L≤2000∧M≤2000∧L1≤10000:=by omega):
  au tb Tryz.prog 88 [Hx V t,BB x y] Γ (wg ((e+190)/32+1) q.1 q.2):=by
 have hok:=Nq hw hP hq;unfold farP at hq;split at hq
 ·rename_i hs;injection hq with hq;subst hq;exact(R0 V t x y ho hP.em.symm hP.en.symm ⟨hP.m0,hs.1⟩ ⟨hP.n0,hs.2⟩ hL).farT hok.b1 hok.b2
 ·rename_i hs;split at hq
  ·simp at hq
  ·rename_i hn;injection hq with hq;subst hq;have hb:V.b=0:=Decidable.byContradiction fun h=>hn (.inr (.inl h));have hd:V.d=0:=Decidable.byContradiction fun h=>hn (.inr (.inr h));exact(RY V t x y ho (Decidable.byContradiction fun h=>hn (.inl h)) hb hd ⟨hP.m0,hP.n0⟩ (by omega) hP.em.symm hP.en.symm hL).farT hok.b1 hok.b2
theorem R1(V:On)(t:Q5)(x y:Sw){P:Sn×Sn}{L1:Nat} [aZ (OF t) (L1,V) Γ] [aZ (SF x) (L,P.1) Γ] [aZ (SF y) (M,P.2) Γ](ho:0≤V.o∧V.o≤7)(hP:Ml P)(hq:farP V P=none)(hL:L≤2000∧M≤2000∧L1≤10000:=by omega):
  au tb Tryz.prog 88 [Hx V t,BB x y] Γ (jv (.tuple #[BB Ci Ci,.int .i64 6])):=by
 unfold farP at hq;split at hq
 ·simp at hq
 ·rename_i hs;split at hq
  ·rename_i hn;exact RZ V t x y ho hn ⟨hP.m0,hP.n0⟩ (by omega) hP.em.symm hP.en.symm hL
  ·simp at hq
end
def QH(t:List Ce)(dm:List (Int×Int)):Prop:=∀k v,gJ k dm=some v→∃j:Nat,k=j∧(v=0∨∃d:Nat,v=(d:Int)∧sR t j d)
def vk(t:List Ce)(dm:List (Int×Int)):Nat:=(List.range t.length).countP fun j:Nat=>(gJ (j:Int) dm).isNone
theorem CI{α:Type}{p q:α→Bool}:∀{l:List α},(∀x∈l,p x=true→q x=true)→(∃x∈l,q x=true∧p x=false)→l.countP p<l.countP q
 | [],_,h=>by obtain⟨x,hx,_⟩:=h;simp at hx
 |a::l,h1,⟨x,hx,hq,hp⟩=>by
  have hle:l.countP p≤l.countP q:=List.countP_mono_left fun y hy=>h1 y (by simp[hy]);simp only[List.countP_cons];simp only[aD]at hx;rcases hx with rfl|hx
  ·rw[hq,hp];simp;omega
  ·have ih:=CI (fun y hy=>h1 y (by simp[hy])) ⟨x,hx,hq,hp⟩;have ha:=h1 a (by simp);cases Zn:p a<;>cases Qr:q a<;>simp<;>first|omega|(rw[Zn,Qr]at ha;simp at ha)
theorem Nt{t:List Ce}{dm:List (Int×Int)}(k v:Int):vk t (kU k v dm)≤vk t dm:=List.countP_mono_left fun j _=>by
 rw[iG];by_cases h:(j:Int)=k<;>simp[h]
theorem Nu{t:List Ce}{dm:List (Int×Int)}{i:Nat}(hi:i<t.length)(h:gJ (i:Int) dm=none)(v:Int):vk t (kU (i:Int) v dm)<vk t dm:=
 CI (fun j _=>by
  rw[iG];by_cases h:(j:Int)=i<;>simp[h]) ⟨i,by simpa using hi,by rw[h];rfl,by rw[iG];simp⟩
theorem qR{α:Type} [DecidableEq α](k:α)(v:Int):∀l:List (α×Int),kU k (Value.int .i64 v) (cf l)=cf (kU k v l)
 | []=>rfl
 |(j,u)::l=>by
  show kU k (Value.int .i64 v) ((j,Value.int .i64 u)::cf l)=_;unfold kU;by_cases h:k=j
  ·rw[if_pos h,if_pos h];rfl
  ·rw[if_neg h,if_neg h,qR k v l];rfl
def Xr(t:List Ce)(l:List Nat)(m:Nat):Prop:=∃n,js (dep t n) l 0=some m
theorem CJ{g:Nat→Option Nat}{k:Nat}:∀{l:List Nat} {m:Nat},js g (l++[k]) m=match js g l m with
  |some r=>(g k).map (max r)
  |none=>none
 | [],m=>by
  simp only[aA,js];cases g k<;>rfl
 |j::l,m=>by
  simp only[dO,js];cases g j with
  |none=>rfl
  |some d=>exact CJ
theorem Xr.snoc{t:List Ce}{l:List Nat}{m k d:Nat}(h:Xr t l m)(hd:sR t k d):Xr t (l++[k]) (max m d):=by
 obtain⟨n1,h⟩:=h;obtain⟨n2,hd⟩:=hd;refine⟨max n1 n2,?_⟩;rw[CJ,nw hd (by omega)];have:js (dep t (max n1 n2)) l 0=some m:=by
  rw[←h];refine oV fun j hj=>?_;obtain⟨e,h3,_⟩:=(lU h).2 j hj;rw[h3];exact nw h3 (by omega)
 rw[this];rfl
theorem Xr.dep{t:List Ce}{c m:Nat}(h:Xr t (fB t c) m):sR t c (m+1):=by
 obtain⟨n,h⟩:=h;exact sR.of h (fun k d hk=>⟨n,hk⟩)
theorem Ee{t:List Ce}(h:lost t=false){i:Nat}{x:Ce}(hx:t[i]? =some x):i_ (cw t) x=(fB t i).map fun k:Nat=>(k:Int):=by
 have:qZ t x=false:=by
  unfold lost at h;rw[gC]at h;simpa using h x (aO hx)
 rw[Ip this];unfold fB ll;rw[dZ,hx];rfl
def SR(t:List Ce)(dm:List (Int×Int))(i:Nat):Prop:=∀j:Nat,gJ (j:Int) dm=some 0→MB t j i
def XP(t:List Ce)(i:Nat)(dm:List (Int×Int))(d:Int)(b:Bool)(dm':List (Int×Int)):Prop:=
 (b=true→∃e:Nat,d=e∧sR t i e∧QH t dm'∧(∀j:Nat,gJ (j:Int) dm'=some 0→gJ (j:Int) dm=some 0)∧vk t dm'≤vk t dm)∧(b=false→cyc t)
def Us(t:List Ce)(i:Nat)(dm:List (Int×Int))(FO':List (Nat×List Value))(bm:Nat×List (Value×Value))(dn:Nat)(v:Value)(O:List (Nat×List Value))(M:List (Nat×List (Value×Value)))(Δ:List aE):Prop:=
 ∃(d:Int) (b:Bool) (dm':List (Int×Int)),XP t i dm d b dm'∧v=.tuple #[.int .i64 d,.bool b]∧O=FO'∧M=[bm,(dn,bM dA (cf dm'))]∧Δ=[]
structure aaL where
 j:Nat
 z:Int
 m:Nat
 dm:List (Int×Int)
def dpU(fb:Nat)(c:Int)(u:Sl):aaL→List (Nat×SV):=fun a=>[(0,.val (fp fb)),(1,.val (.int .i64 c)),(33,.val (bz u)),(34,.val (.int .i64 u.n)),(4,.val (.int .i64 0)),(5,.val (.bool false)),(8,.val (.int .i64 a.m)),(35,.val (.int .i64 a.z))]
section
theorem RS(fb bn cn dn:Nat)(cs:Sl)(most:Int)(sh:Value){t:List Ce}(hok:∀c∈t,Uq c)(hlen:∀c∈t,c.i.length≤100000)(hlost:lost t=false)(htl:t.length≤100000):
  ∀(n:Nat) (Γ:List aE) [aZ (pE cs) t Γ] (c:Int) (i:Nat),c=i→i<t.length→∀dm:List (Int×Int),QH t dm→SR t dm i→vk t dm≤n→
  dC Kt Tryz.prog 45 [fp fb,.int .i64 c] (FO fb cs bn cn dn most sh) [(bn,bM dT (cf (cw t))),(dn,bM dA (cf dm))] Γ (Us t i dm (FO fb cs bn cn dn most sh) (bn,bM dT (cf (cw t))) dn):=by
 intro n
 induction n using Nat.strongRecOn with
 |ind n ih=>
 intro Γ hcs c i hc hi dm hdm how adB;obtain⟨x,hx⟩:∃x,t[i]? =some x:=⟨_,ar hi⟩;refine dC.of_W bK Tryz.func45 rfl ?_;refine cr [] 3 fb 0 bK ?_;refine dQ [] (FO fb cs bn cn dn most sh) fb (0+3) 1 [bz cs,.map (some bn),.map (some cn),.map (some dn),.int .i64 most,sh] (.map (some dn)) bK (.head _) rfl ?_;refine ve [] dA 70 3 3 true (FO fb cs bn cn dn most sh) [(bn,bM dT (cf (cw t))),(dn,bM dA (cf dm))] dn c (cf dm) (.int .i64 0) bK (.tail _ (.head _)) ?_;rw[mI];cases hg:gJ c dm with
 |some d=>
  refine bD [] 22 true rfl ?_;refine j1 [22] (.tuple #[.int .i64 d,.bool (decide (d>0))]) (FO fb cs bn cn dn most sh) [(bn,bM dT (cf (cw t))),(dn,bM dA (cf dm))] ⟨d,decide (d>0),dm,⟨fun hb=>?_,fun hb=>?_⟩,rfl,rfl,rfl,rfl⟩ bU
  ·have hd0:d>0:=by simpa using hb
   obtain⟨j,hj,hv⟩:=hdm c d hg;obtain rfl:j=i:=by omega
   rcases hv with h0|⟨e,he,hde⟩
   ·omega
   ·exact⟨e,he,hde,hdm,fun _ h=>h,ai _⟩
  ·have hd0:¬d>0:=by simpa using hb
   obtain⟨j,hj,hv⟩:=hdm c d hg;obtain rfl:j=i:=by omega
   rcases hv with h0|⟨e,he,hde⟩
   ·rw[h0,hc]at hg;exact⟨j,hi,fun e he=>RM (how j hg) he⟩
   ·obtain⟨m,hm⟩:=hde;have:=D3 hm;omega
 |none=>
  rw[hc]at hg;have hlt:=Nu hi hg 0;refine aS [] 22 false rfl ?_;refine cr [22] 3 fb 0 bK ?_;refine dQ [] (FO fb cs bn cn dn most sh) fb (0+3) 1 [bz cs,.map (some bn),.map (some cn),.map (some dn),.int .i64 most,sh] (.map (some dn)) bK (.head _) rfl ?_;refine Ct [] dA 70 3 3 (FO fb cs bn cn dn most sh) [(bn,bM dT (cf (cw t)))] [] dn c (.int .i64 0) (cf dm) ?_;rw[qR];refine c_ [] [] (FO fb cs bn cn dn most sh) [] [] [(bn,bM dT (cf (cw t)))] [(dn,bM dA (cf (kU c 0 dm)))] ⟨rfl,by rfl,trivial⟩ (IE fb bn cn dn cs most sh c (i:=i) hc (t:=t) hx (hok x (aO hx)) (hlen x (aO hx)) (cw t)) ?_;rintro _ _ _ _ ⟨u,hu,rfl,rfl,rfl,rfl⟩;have XC:=Ee hlost hx;have hul:u.n=(fB t i).length:=by rw[hu,XC,bL]
  rw[XC];obtain⟨ua,un,uc⟩:=u;simp only at hul;refine kA [] Tryz.f45 0 60 60 [0,1,33,34,4,5,8,35] [] (dpU fb c ⟨ua,un,uc⟩) (fun _=>[]) (fun _=>FO fb cs bn cn dn most sh) (fun a=>[(bn,bM dT (cf (cw t))),(dn,bM dA (cf a.dm))]) (fun a=>[NL ⟨ua,un,uc⟩ ((fB t i).map fun k:Nat=>(k:Int)),pE cs t]) (fun a=>a.z=a.j∧a.j≤un∧Xr t ((fB t i).take a.j) a.m∧QH t a.dm∧(∀j:Nat,gJ (j:Int) a.dm=some 0→gJ (j:Int) (kU c 0 dm)=some 0)∧vk t a.dm<vk t dm) (fun a=>un-a.j) ⟨0,0,0,kU c 0 dm⟩ ⟨rfl,aM _,⟨0,rfl⟩,?_,fun _ h=>h,by rw[hc];exact hlt⟩ (eC eK (eC eK eE)) ?_
  ·intro k v hk;rw[iG]at hk;split at hk
   ·injection hk with hk;exact⟨i,by omega,.inl hk.symm⟩
   ·exact hdm k v hk
  rintro⟨j,z,m,em⟩ K ⟨hz,hj,VI,JC,hze,hfe⟩ close;simp only at hz hj VI JC hze hfe;refine Mx ⟨ua,un,uc⟩ (l:=(fB t i).map fun k:Nat=>(k:Int)) rfl (fun _ hu2 hu3=>?_);simp only at hu2 hu3;by_cases hlt2:j<un
  ·obtain⟨k,hk⟩:∃k,(fB t i)[j]? =some k:=⟨_,ar (by omega)⟩;have hkm:=aO hk;obtain⟨bb,off,hao⟩:=hu3 (by intro e;rw[List.map_eq_nil_iff]at e;rw[e]at hkm;simp at hkm);subst hao;refine bD [] 36 (decide (z<(un:Int))) (aw (by omega)) ?_;refine cA [36] 1 bb off un uc .i64 j z hz bK hlt2 ?_;refine eg [] 1 bb (off+j*1) (.int .i64 (k:Int)) bK (sG bb off un uc (by rw[bN,hk];rfl)) ?_;have nA:SR t em k:=fun q hq=>by
    have h1:=hze q hq;rw[hc,iG]at h1;split at h1
    ·rename_i hqi;obtain rfl:q=i:=by omega
     exact .one hkm
    ·exact(how q h1).trans (.one hkm)
   refine c_ [] [] (FO fb cs bn cn dn most sh) [] [] [(bn,bM dT (cf (cw t))),(dn,bM dA (cf em))] [] ⟨rfl,by rfl,trivial⟩ (ih (n-1) (by omega) _ (k:Int) k rfl (wX hkm) em JC nA (by omega)) ?_;rintro _ _ _ _ ⟨d,b,dm',⟨ht,hf⟩,rfl,rfl,rfl,rfl⟩;cases b with
   |false=>
    refine bD [] 46 (!false) rfl ?_;exact j1 [46] (.tuple #[.int .i64 0,.bool false]) (FO fb cs bn cn dn most sh) [(bn,bM dT (cf (cw t))),(dn,bM dA (cf dm'))] ⟨0,false,dm',⟨fun h=>by simp at h,fun _=>hf rfl⟩,rfl,rfl,rfl,rfl⟩ bU
   |true=>
    obtain⟨e,rfl,hde,hd1,hd2,hd3⟩:=ht rfl;refine aS [] 46 (!true) rfl ?_;refine Mv [46] .i64 (m:Int) (e:Int) ((max m e:Nat):Int) (by omega) ?_;refine close [] _ _ ⟨j+1,IntKind.i64.wrap (z+1),max m e,dm'⟩ (by kernel_rfl) (by kernel_rfl) ⟨by simp only[ah];omega,hlt2,?_,hd1,fun q hq=>hze q (hd2 q hq),by simp only;omega⟩ (by simp only;omega) (eC eK (eC eK eE));rw[List.take_add_one,hk];exact VI.snoc hde
  ·have htk:(fB t i).take j=fB t i:=aW (by omega);rw[htk]at VI;have sM:=VI.dep;have afC:=KW hi sM;have hw:IntKind.i64.wrap ((m:Int)+1)=((m+1:Nat):Int):=by rw[ah];omega
   refine aS [] 36 (decide (z<(un:Int))) (ak (by omega)) ?_;refine cr [36] 3 fb 0 bK ?_;refine dQ [] (FO fb cs bn cn dn most sh) fb (0+3) 1 [bz cs,.map (some bn),.map (some cn),.map (some dn),.int .i64 most,sh] (.map (some dn)) bK (.head _) rfl ?_;refine Ct [] dA 70 3 3 (FO fb cs bn cn dn most sh) [(bn,bM dT (cf (cw t)))] [] dn c (.int .i64 (IntKind.i64.wrap ((m:Int)+1))) (cf em) ?_;rw[qR,hw];refine j1 [] (.tuple #[.int .i64 ((m+1:Nat):Int),.bool true]) (FO fb cs bn cn dn most sh) [(bn,bM dT (cf (cw t))),(dn,bM dA (cf (kU c ((m+1:Nat):Int) em)))] (h:=(by rw[←hw];kernel_rfl)) ⟨((m+1:Nat):Int),true,kU c ((m+1:Nat):Int) em,⟨fun _=>⟨m+1,rfl,sM,?_,?_,?_⟩,fun h=>by simp at h⟩,rfl,rfl,rfl,rfl⟩ bU
   ·intro k v hk;rw[iG]at hk;split at hk
    ·injection hk with hk;exact⟨i,by omega,.inr ⟨m+1,hk.symm,sM⟩⟩
    ·exact JC k v hk
   ·intro q hq;rw[iG]at hq;split at hq
    ·injection hq with hq;omega
    ·rename_i hne;have h1:=hze q hq;rw[iG,if_neg hne]at h1;exact h1
   ·have:=Nt (t:=t) (dm:=em) c ((m+1:Nat):Int);omega
end
end Go.Proofs.YtgaaopjagcaojaaGreat
