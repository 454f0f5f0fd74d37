import Derived.Test.YtgaaopjagcaojaaGreatRo
set_option linter.unusedSimpArgs false
set_option linter.unusedVariables false
set_option maxHeartbeats 4000000
namespace Go.Proofs.YtgaaopjagcaojaaGreat
open Go.RowKit Go.IntWalk
theorem cO.ap{N K M J:Nat}{V:On}(h:cO N K V)(hK:N≤K){x y z w:Rat}(hx:cq M J x)(hy:cq M J y)(hz:cq M J z)(hw:cq M J w):
  cq (2*(M*N)) (8*(J*K)+2*(M*K)) (V.u0 x y z w)∧cq (2*(M*N)) (8*(J*K)+2*(M*K)) (V.u1 x y z w)∧cq (2*(M*N)) (8*(J*K)+2*(M*K)) (V.v0 x y z w)∧cq (2*(M*N)) (8*(J*K)+2*(M*K)) (V.v1 x y z w):=by
 have hm:=h.mag hK;obtain⟨_,h2,h3,h4,h5⟩:=h;have c1:=XK V.o;have c2:=XL V.o;have c3:=Ql V.o;have c4:=Qp V.o;have x:=hx.mul hm;have y:=hy.mul hm;have z:=(hz.sg (V:=V)).mul hm;have w:=(hw.sg (V:=V)).mul hm;have l2:=(h2.scale M).scale 2;have l3:=(h3.scale M).scale 2;have l4:=(h4.scale M).scale 2;have l5:=(h5.scale M).scale 2;generalize J*K=P at*;generalize M*K=Q at*;refine⟨?_,?_,?_,?_⟩
 ·exact(((tx x y c1 c3).add (tx z w c2 c4).neg).add l2).mono (by omega)
 ·exact(((tz x y c1 c3).add (tz z w c2 c4).neg).add l3).mono (by omega)
 ·exact(((tx x y c2 c4).add (tx z w c1 c3)).add l4).mono (by omega)
 ·exact(((tz x y c2 c4).add (tz z w c1 c3)).add l5).mono (by omega)
theorem zK{M A E k e:Nat}(hM:M≤A)(hE:E≤2^e)(hA:A≤2^k:=by decide):M*E≤2^(e+k):=by
 rw[cR,fp (2^e)];exact aX (aP hM hA) hE
theorem J6{e M J:Nat}{V:On}(h:sH e V)(h0:0<M)(hM:M≤2^136)(hJ:J≤2^174){x y z w:Rat}(hx:cq M J x)(hy:cq M J y)(hz:cq M J z)(hw:cq M J w):
  bq (e+179) (V.u0 x y z w)∧bq (e+179) (V.u1 x y z w)∧bq (e+179) (V.v0 x y z w)∧bq (e+179) (V.v1 x y z w):=by
 obtain⟨N,K,n0,nK,hK,hc⟩:=h;obtain⟨g1,g2,g3,g4⟩:=hc.ap nK hx hy hz hw;have a1:0<2*(M*N):=iw (by decide) (iw h0 n0);have a2:2*(M*N)≤2^(e+178):=by
  rw[←lW];exact zK (aX (aj 2) hM) (aP nK hK)
 have a3:8*(J*K)+2*(M*K)≤2^(e+178):=by
  rw[←lW,←lW,←eD];exact zK (Nat.add_le_add (aX (aj 8) hJ) (aX (aj 2) hM)) hK
 exact⟨g1.bq a1 a2 a3,g2.bq a1 a2 a3,g3.bq a1 a2 a3,g4.bq a1 a2 a3⟩
theorem Sb{e:Nat}{V:On}(h:sH e V){x y:Int}(hx:x.natAbs≤2^31)(hy:y.natAbs≤2^31):bS (e+190) (V.X x y)∧bS (e+190) (V.Y x y):=by
 obtain⟨g1,g2,g3,g4⟩:=J6 h (M:=1) (J:=2^31) (by decide) (by decide) (by decide) (cq.int hx) (cq.zero 1 (2^31)) (cq.int hy) (cq.zero 1 (2^31));exact⟨bS.r2 (g1.mono (by omega)) (g2.mono (by omega)),bS.r2 (g3.mono (by omega)) (g4.mono (by omega))⟩
theorem QP{n:Int}(h:0≤n∧n≤2):∃a b:Int,Fo n=(a:Rat)∧Fp n=(b:Rat)∧(0≤a∧a≤1)∧0≤b∧b≤1:=by
 by_cases h2:n=2
 ·exact⟨0,1,by unfold Fo;rw[if_pos h2];rfl,by unfold Fp;rw[if_pos h2];rfl,by decide,by decide⟩
 ·exact⟨n,0,by unfold Fo;rw[if_neg h2],by unfold Fp;rw[if_neg h2];rfl,by omega,by decide⟩
theorem n_C{M:Nat}{S:Sn}(h:cS M (2^170) S)(hm:0≤S.m∧S.m≤2)(hn:0≤S.n∧S.n≤2):cq M (2^174) S.n0∧cq M (2^174) S.n1:=by
 obtain⟨a,b,ha,hb,a1,b1⟩:=QP hm;obtain⟨c,d,hc,hd,c1,d1⟩:=QP hn;have e1:RN (a:Rat) b c d=((a*c+2*(b*d):Int):Rat):=by
  unfold RN;rw[jr,dR,dR,dR];grind
 have e2:RO (a:Rat) b c d=((a*d+b*c:Int):Rat):=by
  unfold RO;rw[jr,dR,dR]
 have p1:0≤a*c∧a*c≤1:=⟨eZ a1.1 c1.1,vu (qz a1.2 c1.2 c1.1 (by decide)) (by decide)⟩;have p2:0≤b*d∧b*d≤1:=⟨eZ b1.1 d1.1,vu (qz b1.2 d1.2 d1.1 (by decide)) (by decide)⟩;have p3:0≤a*d∧a*d≤1:=⟨eZ a1.1 d1.1,vu (qz a1.2 d1.2 d1.1 (by decide)) (by decide)⟩;have p4:0≤b*c∧b*c≤1:=⟨eZ b1.1 c1.1,vu (qz b1.2 c1.2 c1.1 (by decide)) (by decide)⟩;obtain⟨h1,h2,h3,h4⟩:=h;have n0:S.n0=S.p*((1:Int):Rat)+S.q*(a:Rat)+S.r*(c:Rat)+S.s*((a*c+2*(b*d):Int):Rat):=by
  unfold Sn.n0;rw[ha,hb,hc,hd,e1,e2];generalize((a*c+2*(b*d):Int):Rat)=u;generalize((a*d+b*c:Int):Rat)=v;unfold RN;grind
 have n1:S.n1=S.p*((0:Int):Rat)+S.q*(b:Rat)+S.r*(d:Rat)+S.s*((a*d+b*c:Int):Rat):=by
  unfold Sn.n1;rw[ha,hb,hc,hd,e1,e2];generalize((a*c+2*(b*d):Int):Rat)=u;generalize((a*d+b*c:Int):Rat)=v;unfold RO;have z:((0:Int):Rat)=0:=rfl;rw[z];grind
 have one:∀{q:Rat} {z:Int},cq M (2^170) q→z.natAbs≤3→cq M (2^170*3) (q*(z:Rat)):=fun hq hz=>hq.mulI hz;rw[n0,n1];exact⟨((((one h1 (by decide)).add (one h2 (by omega))).add (one h3 (by omega))).add (one h4 (by omega))).mono (by decide),((((one h1 (by decide)).add (one h2 (by omega))).add (one h3 (by omega))).add (one h4 (by omega))).mono (by decide)⟩
theorem WZ(S:Sn)(m n:Int)(g:Rat):S.mul ⟨m,n,g,0,0,0⟩=⟨S.m,S.n,S.p*g,S.q*g,S.r*g,S.s*g⟩:=Sn.ext' rfl rfl (by simp only[Sn.mul];grind) (by simp only[Sn.mul];grind) (by simp only[Sn.mul];grind) (by simp only[Sn.mul];grind)
theorem Vh{N K:Nat}{m n:Int}:∀(k:Nat) {X Y:Sn},cS N K X∧X.m=m∧X.n=n→cS N K Y∧Y.m=m∧Y.n=n→(cS N K (Af k X Y).1∧(Af k X Y).1.m=m∧(Af k X Y).1.n=n)∧cS N K (Af k X Y).2∧(Af k X Y).2.m=m∧(Af k X Y).2.n=n
 |0,_,_,h,g=>⟨h,g⟩
 |k+1,_,_,h,g=>Vh k ⟨g.1.neg,g.2.1,g.2.2⟩ h
structure Fq(e:Nat)(q:Sn×Sn):Prop where
 b1:bS (e+190) q.1
 b2:bS (e+190) q.2
 f:(0≤q.1.m∧0≤q.1.n)∧0≤q.2.m∧0≤q.2.n
theorem Uq{e:Nat}{V:On}(h:sH e V){d:Dp}(hx:d.x.natAbs≤2^31)(hy:d.y.natAbs≤2^31):Fq e (Ea V d):=by
 obtain⟨g1,g2⟩:=Sb h hx hy;exact⟨g1,g2,⟨show(0:Int)≤2 by decide,show(0:Int)≤0 by decide⟩,show(0:Int)≤2 by decide,show(0:Int)≤0 by decide⟩
theorem Ob{e:Nat}{V:On}{P q:Sn×Sn}(h:sH e V)(hP:Lu P)(hq:farP V P=some q):Fq e q:=by
 obtain⟨em,en,m0,n0,mb,nb,M,hM0,hM,h1,h2⟩:=hP;unfold farP at hq;split at hq
 ·rename_i hs;injection hq with hq;subst hq;obtain⟨x0,x1⟩:=n_C h1 ⟨m0,hs.1⟩ ⟨n0,hs.2⟩;obtain⟨y0,y1⟩:=n_C h2 (by omega) (by omega);obtain⟨g1,g2,g3,g4⟩:=J6 h hM0 hM (aj _) x0 x1 y0 y1;exact⟨bS.r2 (g1.mono (by omega)) (g2.mono (by omega)),bS.r2 (g3.mono (by omega)) (g4.mono (by omega)),⟨show(0:Int)≤2 by decide,show(0:Int)≤0 by decide⟩,show(0:Int)≤2 by decide,show(0:Int)≤0 by decide⟩
 ·split at hq
  ·simp at hq
  ·injection hq with hq;subst hq;obtain⟨N,K,k0,nK,hK,hc⟩:=h;have hm:=hc.mag nK;obtain⟨_,c2,c3,c4,c5⟩:=hc;have sc:∀{S:Sn},cS M (2^170) S→cS (M*N) (2^170*K) (S.mul ⟨P.1.m,P.1.n,V.mag,0,0,0⟩):=fun{S} hS=>by
    rw[WZ];exact⟨hS.1.mul hm,hS.2.1.mul hm,hS.2.2.1.mul hm,hS.2.2.2.mul hm⟩
   have s1:=sc h1;have s2:cS (M*N) (2^170*K) (if V.f then(P.2.mul ⟨P.1.m,P.1.n,V.mag,0,0,0⟩).neg else P.2.mul ⟨P.1.m,P.1.n,V.mag,0,0,0⟩)∧(if V.f then(P.2.mul ⟨P.1.m,P.1.n,V.mag,0,0,0⟩).neg else P.2.mul ⟨P.1.m,P.1.n,V.mag,0,0,0⟩).m=P.1.m∧(if V.f then(P.2.mul ⟨P.1.m,P.1.n,V.mag,0,0,0⟩).neg else P.2.mul ⟨P.1.m,P.1.n,V.mag,0,0,0⟩).n=P.1.n:=by
    split
    ·exact⟨(sc h2).neg,em,en⟩
    ·exact⟨sc h2,em,en⟩
   obtain⟨⟨r1,r2',r3⟩,r4,r5,r6⟩:=Vh (V.o/2).toNat ⟨s1,rfl,rfl⟩ s2;have a1:0<M*N:=iw hM0 k0;have a2:M*N≤2^(e+189):=zK hM (aP nK hK);have a3:2^170*K+M*K≤2^(e+189):=by
    rw[←eD];exact zK (Nat.add_le_add (aj _) hM) hK
   have fin:∀{p c:Rat},cq (M*N) (2^170*K) p→cq N K c→bq (e+190) (p+c):=fun hp hcc=>(hp.add (hcc.scale M)).bq a1 a2 a3;have z:=cq.zero N K;have mm:∀{z:Int},z.natAbs<2^67→z.natAbs<2^(e+190):=fun hz=>cN hz (fA);refine⟨⟨?_,?_,fin r1.1 c2,fin r1.2.1 c3,fin r1.2.2.1 z,fin r1.2.2.2 z⟩,⟨?_,?_,fin r4.1 c4,fin r4.2.1 c5,fin r4.2.2.1 z,fin r4.2.2.2 z⟩,⟨?_,?_⟩,?_,?_⟩
   ·show(Af _ _ _).1.m.natAbs<_;rw[r2'];exact mm mb
   ·show(Af _ _ _).1.n.natAbs<_;rw[r3];exact mm nb
   ·show(Af _ _ _).2.m.natAbs<_;rw[r5];exact mm mb
   ·show(Af _ _ _).2.n.natAbs<_;rw[r6];exact mm nb
   ·show 0≤(Af _ _ _).1.m;rw[r2'];exact m0
   ·show 0≤(Af _ _ _).1.n;rw[r3];exact n0
   ·show 0≤(Af _ _ _).2.m;rw[r5];exact m0
   ·show 0≤(Af _ _ _).2.n;rw[r6];exact n0
theorem XQ{zs:List Int}(hb:kU zs){e:Nat}(he:e=312):∃N,0<N∧N≤2^e∧cq N (2^e) (xN zs):=by
 by_cases hl:zs.length=8
 ·obtain⟨b0,b1⟩:=NA hl hb;obtain⟨k,hk⟩:∃k,zs.getD 0 0 % 128-78=k:=⟨_,rfl⟩;have hkb: -78≤k∧k≤49:=by omega
  obtain⟨z,hz,hzb⟩:∃z:Int,(if 127<zs.getD 0 0 then-1 else 1)*(be (zs.drop 1):Rat)=(z:Rat)∧z.natAbs≤2^56:=by
   split
   ·exact⟨-be (zs.drop 1),by rw[s_];grind,by show(-be (zs.drop 1)).natAbs≤72057594037927936;omega⟩
   ·exact⟨be (zs.drop 1),by rw[Rat.one_mul],by show(be (zs.drop 1)).natAbs≤72057594037927936;omega⟩
  have hv:xN zs=(z:Rat)*RU (4*k):=by unfold xN;rw[if_pos hl,hz,hk]
  rw[hv];by_cases h0:0≤k
  ·obtain⟨j,rfl⟩:∃j:Nat,k=j:=⟨k.toNat,by omega⟩;refine⟨1,by decide,vS,?_⟩;rw[show 4*(j:Int)=((4*j:Nat):Int)by omega,Qq];refine((cq.int hzb).mulI (J:=2^196) ?_).mono (by rw[←cR];exact fA);rw[Int.natAbs_natCast];exact fA
  ·obtain⟨j,hj⟩:∃j:Nat,k= -(j:Int):=⟨(-k).toNat,by omega⟩;have hp:=Rf (4*j);refine⟨2^(4*j),kn _,fA,?_⟩;rw[hj,show 4*(-(j:Int))= -((4*j:Nat):Int)by omega,Qr];have:=(cq.int hzb).mul (x9 hp);rw[jm,ly,fE]at this;exact this.mono (fA)
 ·exact⟨1,by decide,vS,by unfold xN;rw[if_neg hl];exact cq.zero _ _⟩
theorem aao{x:Im}(h:∀r∈x.f,Nh r){e:Nat}(he:e=312):∃N,0<N∧N≤2^e∧cq N (2^e) (lO x):=by
 unfold lO;cases hf:dJ x 27 with
 |none=>exact⟨1,by decide,vS,cq.int (show(1:Int).natAbs≤2^e from vS)⟩
 |some r=>exact XQ (h r (kO hf).1) he
theorem Km{a b:Int}(hb:0<b){A:Nat}(ha:a.natAbs≤A):cq b.toNat A (Gi a b):=by
 have:=(x9 hb).mulI ha;have e:Rat.divInt 1 b*(a:Rat)=Gi a b:=by
  unfold Gi;rw[jn,jn,lz,lz,show((1:Int):Rat)=1 from rfl,Rat.one_mul,Rat.mul_comm]
 rwa [e,ly]at this
theorem EL{of:Dp→Int}{p:List Dp}(hp:∀k,(of (p.getD k ⟨0,0⟩)).natAbs≤2^31){cols rows i k:Int}(hc:0<cols∧cols≤32767)(hr:0<rows∧rows≤32767)(hi:0≤i∧i<cols)(hk:0≤k∧k<rows):cq (cols.toNat*rows.toNat) (2^64) (pH of p cols rows i k):=by
 have p0:=hp 0;have p1:=hp 1;have p2:=hp 2;have hcn:cols.toNat≤2^15:=by show cols.toNat≤32768;omega
 have hrn:rows.toNat≤2^15:=by show rows.toNat≤32768;omega
 have UA:∀{a b c:Int},a.natAbs≤2^31→b.natAbs≤2^31→0≤c∧c<32767→((a-b)*c).natAbs≤2^47:=fun{a b c} h1 h2 h3=>by
  have e1:(2:Nat)^31=2147483648:=by decide
  rw[e1]at h1 h2;rw[cL];refine aP (aX (show(a-b).natAbs≤2^32 from ?_) (show c.natAbs≤2^15 from ?_)) (by decide)
  ·show(a-b).natAbs≤4294967296;omega
  ·show c.natAbs≤32768;omega
 have g0:cq (cols.toNat*rows.toNat) (2^61) ((of (p.getD 0 ⟨0,0⟩):Int):Rat):=(zM _ p0).mono (aP (aX (aX hcn hrn) (aj _)) (by decide));unfold pH;split
 ·have g1:=(Km hc.1 (UA p1 p0 (c:=i) (by omega))).scale rows.toNat;have g2:=(Km hr.1 (UA p2 p0 (c:=k) (by omega))).scale cols.toNat;rw[fp]at g1;have g1':=g1.mono (J:=2^62) (aP (aX hrn (aj _)) (by decide));have g2':=g2.mono (J:=2^62) (aP (aX hcn (aj _)) (by decide));exact((g0.add g1').add g2').mono (by decide)
 ·exact g0.mono (by decide)
theorem EX{x:Im}(h:∀r∈x.f,Nh r)(k:Nat):(((bT x).getD k ⟨0,0⟩).x).natAbs≤2^31∧(((bT x).getD k ⟨0,0⟩).y).natAbs≤2^31:=by
 have e1:(2:Nat)^31=2147483648:=by decide
 rw[e1,dw];cases hk:(bT x)[k]? with
 |none=>exact⟨by decide,by decide⟩
 |some d=>
  have:=yL h d (aM hk);simp only[jM];omega
theorem PI{E:Nat}(hE:E=376){x:Im}(h:∀r∈x.f,Nh r)(hc:0<(bJ x).1)(hr:0<(bJ x).2){i k:Int}(hi:0≤i∧i<(bJ x).1)(hk:0≤k∧k<(bJ x).2):sH E (tX x i k):=by
 obtain⟨g1,g2⟩:=wZ h;obtain⟨e,he⟩:∃e:Nat,e=312:=⟨_,rfl⟩;obtain⟨N,n0,nb,hm⟩:=aao h he;have cx:=EL (of:=Dp.x) (fun k=>(EX h k).1) ⟨hc,g1⟩ ⟨hr,g2⟩ hi hk;have cy:=EL (of:=Dp.y) (fun k=>(EX h k).2) ⟨hc,g1⟩ ⟨hr,g2⟩ hi hk;obtain⟨D,hD⟩:∃D,(bJ x).1.toNat*(bJ x).2.toNat=D:=⟨_,rfl⟩;rw[hD]at cx cy;have hD0:0<D:=by rw[←hD];exact iw (by omega) (by omega)
 have ZJ:D≤2^30:=by
  rw[←hD];exact aP (aX (show(bJ x).1.toNat≤2^15 from by show _≤32768;omega) (show(bJ x).2.toNat≤2^15 from by show _≤32768;omega)) (by decide)
 have hm':=(hm.scale D).mono (J:=2^E) (aP (aX ZJ (aj _)) (by rw[←cR];exact fA));have cx':=(cx.scale N).mono (J:=2^E) (aP (aX nb (aj _)) (by rw[←cR];exact fA));have cy':=(cy.scale N).mono (J:=2^E) (aP (aX nb (aj _)) (by rw[←cR];exact fA));rw[fp]at cx' cy';exact⟨D*N,2^E,iw hD0 n0,aP (aX ZJ nb) (by rw[←cR];exact fA),aj _,hm',cx',cq.zero _ _,cy',cq.zero _ _⟩
theorem MA{x:Im}(h:∀r∈x.f,Nh r)(YB:dJ x 27=none)(hc:0<(bJ x).1)(hr:0<(bJ x).2){i k:Int}(hi:0≤i∧i<(bJ x).1)(hk:0≤k∧k<(bJ x).2):sH 64 (tX x i k):=by
 obtain⟨g1,g2⟩:=wZ h;have cx:=EL (of:=Dp.x) (fun k=>(EX h k).1) ⟨hc,g1⟩ ⟨hr,g2⟩ hi hk;have cy:=EL (of:=Dp.y) (fun k=>(EX h k).2) ⟨hc,g1⟩ ⟨hr,g2⟩ hi hk;obtain⟨D,hD⟩:∃D,(bJ x).1.toNat*(bJ x).2.toNat=D:=⟨_,rfl⟩;rw[hD]at cx cy;have hD0:0<D:=by rw[←hD];exact iw (by omega) (by omega)
 have ZJ:D≤2^30:=by
  rw[←hD];exact aP (aX (show(bJ x).1.toNat≤2^15 from by show _≤32768;omega) (show(bJ x).2.toNat≤2^15 from by show _≤32768;omega)) (by decide)
 have hm:cq D (2^64) (lO x):=by
  unfold lO;rw[YB];exact(zM D (K:=1) (by decide)).mono (aP (aX ZJ (aj _)) (by decide))
 exact⟨D,2^64,hD0,aP ZJ (by decide),aj _,hm,cx,cq.zero _ _,cy,cq.zero _ _⟩
structure Y8 where
 j:Nat
 z:Int
 x:Sw
 y:Sw
 S:Sn
 T:Sn
theorem Lj{q:Rat}(h:q≠0):(q.num.sign != 0)=true:=by
 have:q.num≠0:=fun e=>h (Rat.num_eq_zero.1 e);have h2:q.num.sign≠0:=fun e=>this (Int.sign_eq_zero_iff_zero.1 e);simp[bne,h2]
section
variable{fin:VS→List aC→Prop}{Γ:List aC}{L M K:Nat}
theorem aw.farT{f:FuncId}{args:List Value}{X Y:Sn}{k:Nat}(h:aw tb Tryz.prog f args Γ (wH L X Y))(h1:bS k X)(h2:bS k Y):aw tb Tryz.prog f args Γ (wH (k/32+1) X Y):=
 h.entH (fun v Δ ⟨x,y,e1,e2⟩=>⟨_,⟨x,y,e1,rfl⟩,fun I w hh=>by
  subst e2;exact aD.cons (SF.tight (hh (SF x (L,X)) (List.Mem.head _)) h1) (aT (SF.tight (hh (SF y (L,Y)) (List.Mem.tail _ (List.Mem.head _))) h2))⟩)
theorem Tj(V:On)(t:Q5)(x y:Sw){X Y:Sn}{L1:Nat} [aZ (OF t) (L1,V) Γ] [aZ (SF x) (L,X) Γ] [aZ (SF y) (M,Y) Γ](ho:0≤V.o∧V.o≤7)(hn:V.o % 2≠0∨V.b≠0∨V.d≠0)(h0:0≤X.m∧0≤X.n)(hmn:2<X.m∨2<X.n)(em:X.m=Y.m)(en:X.n=Y.n)(hL:L≤2000∧M≤2000∧L1≤10000:=by omega):
  aw tb Tryz.prog 88 [Io V t,BS x y] Γ (jy (.tuple #[BS Cy Cy,.int .i64 6])):=by
 refine aw.of_W au Tryz.func88 rfl (CJ t rfl (td x rfl (W.c0 [] (EN x y em en) (W.c0 [24] (BE x h0 hmn) (oA [32] .i64 V.o 2 (V.o % 2) (fT ho.1) ?_)))));by_cases h2:V.o % 2≠0
 ·refine bh [] 63 (V.o % 2 != 0) (by simpa using h2) (W.r [76,70,63] (.tuple #[BS Cy Cy,.int .i64 6]) ⟨rfl,rfl⟩ bX)
 refine aO [] 63 (V.o % 2 != 0) (by simpa using h2) (W.c0 [63] (nH t.b.n t.b.a t.b.m t.b.b) ?_);by_cases hb:V.b≠0
 ·refine bh [63] 70 (V.b.num.sign != 0) (Lj hb) (W.r [76,70] (.tuple #[BS Cy Cy,.int .i64 6]) ⟨rfl,rfl⟩ bX)
 refine aO [63] 70 (V.b.num.sign != 0) (by simp only[ne_eq,Decidable.not_not]at hb;rw[hb];decide+kernel) (W.c0 [70] (nH t.d.n t.d.a t.d.m t.d.b) ?_);have hd:V.d≠0:=by
  rcases hn with h|h|h
  ·exact absurd h h2
  ·exact absurd h hb
  ·exact h
 refine bh [70] 76 (V.d.num.sign != 0) (Lj hd) (W.r [76] (.tuple #[BS Cy Cy,.int .i64 6]) ⟨rfl,rfl⟩ bX)
theorem Ti(V:On)(t:Q5)(x y:Sw){X Y:Sn}{L1:Nat} [aZ (OF t) (L1,V) Γ] [aZ (SF x) (L,X) Γ] [aZ (SF y) (M,Y) Γ](ho:0≤V.o∧V.o≤7)(h2:V.o % 2=0)(hb:V.b=0)(hd:V.d=0)(h0:0≤X.m∧0≤X.n)(hmn:2<X.m∨2<X.n)(em:X.m=Y.m)(en:X.n=Y.n)(hL:L≤2000∧M≤2000∧L1≤10000:=by omega):
  aw tb Tryz.prog 88 [Io V t,BS x y] Γ (wH 80000 (V.farX X Y) (V.farY X Y)):=by
 have fin:∀(R:Sn×Sn),R=V.farP X Y→R.1.add ⟨X.m,X.n,V.a,V.b,0,0⟩=V.farX X Y∧R.2.add ⟨X.m,X.n,V.c,V.d,0,0⟩=V.farY X Y:=fun R h=>by rw[h];exact⟨rfl,rfl⟩
 unfold On.farP at fin;obtain⟨k,hk⟩:∃k:Nat,V.o/2=k:=⟨(V.o/2).toNat,by omega⟩;rw[hk,jm]at fin;refine aw.of_W au Tryz.func88 rfl (CJ t rfl (td x rfl (W.c0 [] (EN x y em en) (W.c0 [24] (BE x h0 hmn) (oA [32] .i64 V.o 2 0 (by rw[fT ho.1,h2]) (aO [] 63 ((0:Int) != 0) (by decide) (W.c0 [63] (nH t.b.n t.b.a t.b.m t.b.b) (aO [63] 70 (V.b.num.sign != 0) (by rw[hb];decide+kernel) (W.c0 [70] (nH t.d.n t.d.a t.d.m t.d.b) (aO [70] 76 (V.d.num.sign != 0) (by rw[hd];decide+kernel) ?_))))))))));refine W.c0 [76] (BK x) (W.c1 [] (wm V.f V.o t.g t.a t.b t.c t.d (V:=V)) (fun g7=>?_));obtain⟨qm,hq⟩:∃qm,V.mag=qm:=⟨_,rfl⟩;rw[hq]at fin⊢;refine cW [] 1 ([(⟨g7.n,g7.a,g7.m,g7.b,qm⟩:QE)].flatMap QR.cells) au (fun b8=>W.c1 [] (BL x.u x.d x.v x.e b8 ⟨g7.n,g7.a,g7.m,g7.b⟩ h0.1 h0.2) (fun X9=>?_));refine W.c1 [] (Qg (S:=X) (T:=⟨X.m,X.n,qm,0,0,0⟩) x X9 rfl rfl) (fun X10=>?_);refine W.c1 [] (Qg (S:=Y) (T:=⟨X.m,X.n,qm,0,0,0⟩) y X9 em.symm en.symm) (fun X11=>?_);cases hf:V.f with
 |true=>
  rw[hf]at fin;refine bh [] 108 V.f hf (W.c1 [108] (ET X11) (fun X12=>W.quo [] V.o 2 (k:Int) (by decide) (by rw[Int.tdiv_eq_ediv_of_nonneg ho.1,hk,af];omega) ?_));refine x7 [] [114] (fun a:Y8=>[(114,.int .i64 a.z)]) (fun a=>[(18,jq a.x),(20,jq a.y)]) (fun a=>[SF a.x (65000,a.S),SF a.y (65000,a.T),OF t (L1,V),SF x (L,X)]) (fun a=>a.z=a.j∧a.j≤k∧(a.S.m=X.m∧a.S.n=X.n∧a.T.m=X.m∧a.T.n=X.n)∧Af (k-a.j) a.S a.T=Af k (X.mul ⟨X.m,X.n,qm,0,0,0⟩) (Y.mul ⟨X.m,X.n,qm,0,0,0⟩).neg) (fun a=>k-a.j) ⟨0,0,X10,X12,X.mul ⟨X.m,X.n,qm,0,0,0⟩,(Y.mul ⟨X.m,X.n,qm,0,0,0⟩).neg⟩ ⟨rfl,aH _,⟨rfl,rfl,em.symm,en.symm⟩,rfl⟩ (mh (p8 (x:=X10) (by omega) rfl) (mh (p8 (x:=X12) (by omega) rfl) (eC eK (eC eK eE)))) ?_;rintro⟨j,z,A,B,S,T⟩ R ⟨hz,hj,⟨m1,m2,m3,m4⟩,hr⟩ close;simp only at hz hj hr m1 m2 m3 m4;by_cases hlt:j<k
  ·refine bh [] 115 (decide (z<(k:Int))) (ar (by omega)) (W.c1 [115] (ET B) (fun C=>close [] _ _ ⟨j+1,IntKind.i64.wrap (z+1),C,A,T.neg,S⟩ (by kernel_rfl) (by kernel_rfl) ⟨by simp only[af];omega,hlt,⟨m3,m4,m1,m2⟩,?_⟩ (by simp only;omega) (eC eK (eC eK (eC eK (eC eK eE))))));rw[←hr,show k-j=(k-(j+1))+1 by omega];rfl
  ·obtain rfl:j=k:=by omega
   rw[nT]at hr;obtain⟨f1,f2⟩:=fin (S,T) hr;refine CJ t rfl (td x rfl (aO [] 115 (decide (z<(j:Int))) (ak (by omega)) (W.c1 [115] (lP x.u x.d x.v x.e t.a t.b h0.1 h0.2) (fun X20=>?_))));refine W.c1 [] (pL (S:=S) (T:=⟨X.m,X.n,V.a,V.b,0,0⟩) A X20 m1 m2) (fun X21=>W.c1 [] (lP x.u x.d x.v x.e t.c t.d h0.1 h0.2) (fun X22=>?_));refine W.c1 [] (pL (S:=T) (T:=⟨X.m,X.n,V.c,V.d,0,0⟩) B X22 m3 m4) (fun X23=>W.r [] (.tuple #[BS X21 X23,.int .i64 0]) ⟨_,_,rfl,rfl⟩ (Ki f1 f2))
 |false=>
  rw[hf]at fin;refine aO [] 108 V.f hf (W.quo [108] V.o 2 (k:Int) (by decide) (by rw[Int.tdiv_eq_ediv_of_nonneg ho.1,hk,af];omega) ?_);refine x7 [] [114] (fun a:Y8=>[(114,.int .i64 a.z)]) (fun a=>[(18,jq a.x),(20,jq a.y)]) (fun a=>[SF a.x (65000,a.S),SF a.y (65000,a.T),OF t (L1,V),SF x (L,X)]) (fun a=>a.z=a.j∧a.j≤k∧(a.S.m=X.m∧a.S.n=X.n∧a.T.m=X.m∧a.T.n=X.n)∧Af (k-a.j) a.S a.T=Af k (X.mul ⟨X.m,X.n,qm,0,0,0⟩) (Y.mul ⟨X.m,X.n,qm,0,0,0⟩)) (fun a=>k-a.j) ⟨0,0,X10,X11,X.mul ⟨X.m,X.n,qm,0,0,0⟩,(Y.mul ⟨X.m,X.n,qm,0,0,0⟩)⟩ ⟨rfl,aH _,⟨rfl,rfl,em.symm,en.symm⟩,rfl⟩ (mh (p8 (x:=X10) (by omega) rfl) (mh (p8 (x:=X11) (by omega) rfl) (eC eK (eC eK eE)))) ?_;rintro⟨j,z,A,B,S,T⟩ R ⟨hz,hj,⟨m1,m2,m3,m4⟩,hr⟩ close;simp only at hz hj hr m1 m2 m3 m4;by_cases hlt:j<k
  ·refine bh [] 115 (decide (z<(k:Int))) (ar (by omega)) (W.c1 [115] (ET B) (fun C=>close [] _ _ ⟨j+1,IntKind.i64.wrap (z+1),C,A,T.neg,S⟩ (by kernel_rfl) (by kernel_rfl) ⟨by simp only[af];omega,hlt,⟨m3,m4,m1,m2⟩,?_⟩ (by simp only;omega) (eC eK (eC eK (eC eK (eC eK eE))))));rw[←hr,show k-j=(k-(j+1))+1 by omega];rfl
  ·obtain rfl:j=k:=by omega
   rw[nT]at hr;obtain⟨f1,f2⟩:=fin (S,T) hr;refine CJ t rfl (td x rfl (aO [] 115 (decide (z<(j:Int))) (ak (by omega)) (W.c1 [115] (lP x.u x.d x.v x.e t.a t.b h0.1 h0.2) (fun X20=>?_))));refine W.c1 [] (pL (S:=S) (T:=⟨X.m,X.n,V.a,V.b,0,0⟩) A X20 m1 m2) (fun X21=>W.c1 [] (lP x.u x.d x.v x.e t.c t.d h0.1 h0.2) (fun X22=>?_));refine W.c1 [] (pL (S:=T) (T:=⟨X.m,X.n,V.c,V.d,0,0⟩) B X22 m3 m4) (fun X23=>W.r [] (.tuple #[BS X21 X23,.int .i64 0]) ⟨_,_,rfl,rfl⟩ (Ki f1 f2))
theorem Tm(V:On)(t:Q5)(x y:Sw){P q:Sn×Sn}{L1 e:Nat} [aZ (OF t) (L1,V) Γ] [aZ (SF x) (L,P.1) Γ] [aZ (SF y) (M,P.2) Γ](ho:0≤V.o∧V.o≤7)(hP:Lu P)(hw:sH e V)(hq:farP V P=some q)(hL:L≤2000∧M≤2000∧L1≤10000:=by omega):
  aw tb Tryz.prog 88 [Io V t,BS x y] Γ (wH ((e+190)/32+1) q.1 q.2):=by
 have hok:=Ob hw hP hq;unfold farP at hq;split at hq
 ·rename_i hs;injection hq with hq;subst hq;exact(Tk V t x y ho hP.em.symm hP.en.symm ⟨hP.m0,hs.1⟩ ⟨hP.n0,hs.2⟩ hL).farT hok.b1 hok.b2
 ·rename_i hs;split at hq
  ·simp at hq
  ·rename_i hn;injection hq with hq;subst hq;have hb:V.b=0:=Decidable.byContradiction fun h=>hn (.inr (.inl h));have hd:V.d=0:=Decidable.byContradiction fun h=>hn (.inr (.inr h));exact(Ti V t x y ho (Decidable.byContradiction fun h=>hn (.inl h)) hb hd ⟨hP.m0,hP.n0⟩ (by omega) hP.em.symm hP.en.symm hL).farT hok.b1 hok.b2
theorem Tl(V:On)(t:Q5)(x y:Sw){P:Sn×Sn}{L1:Nat} [aZ (OF t) (L1,V) Γ] [aZ (SF x) (L,P.1) Γ] [aZ (SF y) (M,P.2) Γ](ho:0≤V.o∧V.o≤7)(hP:Lu P)(hq:farP V P=none)(hL:L≤2000∧M≤2000∧L1≤10000:=by omega):
  aw tb Tryz.prog 88 [Io V t,BS x y] Γ (jy (.tuple #[BS Cy Cy,.int .i64 6])):=by
 unfold farP at hq;split at hq
 ·simp at hq
 ·rename_i hs;split at hq
  ·rename_i hn;exact Tj V t x y ho hn ⟨hP.m0,hP.n0⟩ (by omega) hP.em.symm hP.en.symm hL
  ·simp at hq
end
def RW(t:List Ce)(dm:List (Int×Int)):Prop:=∀k v,gC k dm=some v→∃j:Nat,k=j∧(v=0∨∃d:Nat,v=(d:Int)∧sY t j d)
def vH(t:List Ce)(dm:List (Int×Int)):Nat:=(List.range t.length).countP fun j:Nat=>(gC (j:Int) dm).isNone
theorem CW{α:Type}{p q:α→Bool}:∀{l:List α},(∀x∈l,p x=true→q x=true)→(∃x∈l,q x=true∧p x=false)→l.countP p<l.countP q
 | [],_,h=>by obtain⟨x,hx,_⟩:=h;simp at hx
 |a::l,h1,⟨x,hx,hq,hp⟩=>by
  have hle:l.countP p≤l.countP q:=List.countP_mono_left fun y hy=>h1 y (by simp[hy]);simp only[List.countP_cons];simp only[aF]at hx;rcases hx with rfl|hx
  ·rw[hq,hp];simp;omega
  ·have ih:=CW (fun y hy=>h1 y (by simp[hy])) ⟨x,hx,hq,hp⟩;have ha:=h1 a (by simp);cases L8:p a<;>cases hqa:q a<;>simp<;>first|omega|(rw[L8,hqa]at ha;simp at ha)
theorem Of{t:List Ce}{dm:List (Int×Int)}(k v:Int):vH t (la k v dm)≤vH t dm:=List.countP_mono_left fun j _=>by
 rw[iI];by_cases h:(j:Int)=k<;>simp[h]
theorem Og{t:List Ce}{dm:List (Int×Int)}{i:Nat}(hi:i<t.length)(h:gC (i:Int) dm=none)(v:Int):vH t (la (i:Int) v dm)<vH t dm:=
 CW (fun j _=>by
  rw[iI];by_cases h:(j:Int)=i<;>simp[h]) ⟨i,by simpa using hi,by rw[h];rfl,by rw[iI];simp⟩
theorem qT{α:Type} [DecidableEq α](k:α)(v:Int):∀l:List (α×Int),la k (Value.int .i64 v) (cu l)=cu (la k v l)
 | []=>rfl
 |(j,u)::l=>by
  show la k (Value.int .i64 v) ((j,Value.int .i64 u)::cu l)=_;unfold la;by_cases h:k=j
  ·rw[if_pos h,if_pos h];rfl
  ·rw[if_neg h,if_neg h,qT k v l];rfl
def Yu(t:List Ce)(l:List Nat)(m:Nat):Prop:=∃n,js (dep t n) l 0=some m
theorem CX{g:Nat→Option Nat}{k:Nat}:∀{l:List Nat} {m:Nat},js g (l++[k]) m=match js g l m with
  |some r=>(g k).map (max r)
  |none=>none
 | [],m=>by
  simp only[az,js];cases g k<;>rfl
 |j::l,m=>by
  simp only[dA,js];cases g j with
  |none=>rfl
  |some d=>exact CX
theorem Yu.snoc{t:List Ce}{l:List Nat}{m k d:Nat}(h:Yu t l m)(hd:sY t k d):Yu t (l++[k]) (max m d):=by
 obtain⟨n1,h⟩:=h;obtain⟨n2,hd⟩:=hd;refine⟨max n1 n2,?_⟩;rw[CX,nX hd (by omega)];have:js (dep t (max n1 n2)) l 0=some m:=by
  rw[←h];refine m_ fun j hj=>?_;obtain⟨e,h3,_⟩:=(lC h).2 j hj;rw[h3];exact nX h3 (by omega)
 rw[this];rfl
theorem Yu.dep{t:List Ce}{c m:Nat}(h:Yu t (eS t c) m):sY t c (m+1):=by
 obtain⟨n,h⟩:=h;exact sY.of h (fun k d hk=>⟨n,hk⟩)
theorem EB{t:List Ce}(h:lost t=false){i:Nat}{x:Ce}(hx:t[i]? =some x):i_ (cA t) x=(eS t i).map fun k:Nat=>(k:Int):=by
 have:pD t x=false:=by
  unfold lost at h;rw[dO]at h;simpa using h x (aM hx)
 rw[Ja this];unfold eS iA;rw[dw,hx];rfl
def Ub(t:List Ce)(dm:List (Int×Int))(i:Nat):Prop:=∀j:Nat,gC (j:Int) dm=some 0→Nu t j i
def YM(t:List Ce)(i:Nat)(dm:List (Int×Int))(d:Int)(b:Bool)(dm':List (Int×Int)):Prop:=
 (b=true→∃e:Nat,d=e∧sY t i e∧RW t dm'∧(∀j:Nat,gC (j:Int) dm'=some 0→gC (j:Int) dm=some 0)∧vH t dm'≤vH t dm)∧(b=false→Zw t)
def Vv(t:List Ce)(i:Nat)(dm:List (Int×Int))(FO':List (Nat×List Value))(bm:Nat×List (Value×Value))(dn:Nat)(v:Value)(O:List (Nat×List Value))(M:List (Nat×List (Value×Value)))(Δ:List aC):Prop:=
 ∃(d:Int) (b:Bool) (dm':List (Int×Int)),YM t i dm d b dm'∧v=.tuple #[.int .i64 d,.bool b]∧O=FO'∧M=[bm,(dn,bV dH (cu dm'))]∧Δ=[]
structure abz where
 j:Nat
 z:Int
 m:Nat
 dm:List (Int×Int)
def dpU(fb:Nat)(c:Int)(u:Sl):abz→List (Nat×SV):=fun a=>[(0,.val (fu fb)),(1,.val (.int .i64 c)),(33,.val (aY u)),(34,.val (.int .i64 u.n)),(4,.val (.int .i64 0)),(5,.val (.bool false)),(8,.val (.int .i64 a.m)),(35,.val (.int .i64 a.z))]
section
theorem Ta(fb bn cn dn:Nat)(cs:Sl)(most:Int)(sh:Value){t:List Ce}(hok:∀c∈t,Vs c)(hlen:∀c∈t,c.i.length≤100000)(hlost:lost t=false)(htl:t.length≤100000):
  ∀(n:Nat) (Γ:List aC) [aZ (lL cs) t Γ] (c:Int) (i:Nat),c=i→i<t.length→∀dm:List (Int×Int),RW t dm→Ub t dm i→vH t dm≤n→
  dD Lk Tryz.prog 45 [fu fb,.int .i64 c] (FO fb cs bn cn dn most sh) [(bn,bV ea (cu (cA t))),(dn,bV dH (cu dm))] Γ (Vv t i dm (FO fb cs bn cn dn most sh) (bn,bV ea (cu (cA t))) dn):=by
 intro n
 induction n using Nat.strongRecOn with
 |ind n ih=>
 intro Γ hcs c i hc hi dm hdm how aea;obtain⟨x,hx⟩:∃x,t[i]? =some x:=⟨_,ah hi⟩;refine dD.of_W bK Tryz.func45 rfl (bN [] 3 fb 0 bK (dS [] (FO fb cs bn cn dn most sh) fb (0+3) 1 [aY cs,.map (some bn),.map (some cn),.map (some dn),.int .i64 most,sh] (.map (some dn)) bK (.head _) rfl (vC [] dH 70 3 3 true (FO fb cs bn cn dn most sh) [(bn,bV ea (cu (cA t))),(dn,bV dH (cu dm))] dn c (cu dm) (.int .i64 0) bK (.tail _ (.head _)) ?_)));rw[mV];cases hg:gC c dm with
 |some d=>
  refine bh [] 22 true rfl (ku [22] (.tuple #[.int .i64 d,.bool (decide (d>0))]) (FO fb cs bn cn dn most sh) [(bn,bV ea (cu (cA t))),(dn,bV dH (cu dm))] ⟨d,decide (d>0),dm,⟨fun hb=>?_,fun hb=>?_⟩,rfl,rfl,rfl,rfl⟩ bX)
  ·have hd0:d>0:=by simpa using hb
   obtain⟨j,hj,hv⟩:=hdm c d hg;obtain rfl:j=i:=by omega
   rcases hv with h0|⟨e,he,hde⟩
   ·omega
   ·exact⟨e,he,hde,hdm,fun _ h=>h,aj _⟩
  ·have hd0:¬d>0:=by simpa using hb
   obtain⟨j,hj,hv⟩:=hdm c d hg;obtain rfl:j=i:=by omega
   rcases hv with h0|⟨e,he,hde⟩
   ·rw[h0,hc]at hg;exact⟨j,hi,fun e he=>S4 (how j hg) he⟩
   ·obtain⟨m,hm⟩:=hde;have:=Ei hm;omega
 |none=>
  rw[hc]at hg;have hlt:=Og hi hg 0;refine aO [] 22 false rfl (bN [22] 3 fb 0 bK (dS [] (FO fb cs bn cn dn most sh) fb (0+3) 1 [aY cs,.map (some bn),.map (some cn),.map (some dn),.int .i64 most,sh] (.map (some dn)) bK (.head _) rfl (CI [] dH 70 3 3 (FO fb cs bn cn dn most sh) [(bn,bV ea (cu (cA t)))] [] dn c (.int .i64 0) (cu dm) ?_)));rw[qT];refine dp [] [] (FO fb cs bn cn dn most sh) [] [] [(bn,bV ea (cu (cA t)))] [(dn,bV dH (cu (la c 0 dm)))] ⟨rfl,by rfl,trivial⟩ (Jt fb bn cn dn cs most sh c (i:=i) hc (t:=t) hx (hok x (aM hx)) (hlen x (aM hx)) (cA t)) ?_;rintro _ _ _ _ ⟨u,hu,rfl,rfl,rfl,rfl⟩;have hkl:=EB hlost hx;have hul:u.n=(eS t i).length:=by rw[hu,hkl,bM]
  rw[hkl];obtain⟨ua,un,uc⟩:=u;simp only at hul;refine jO [] Tryz.f45 0 60 60 [0,1,33,34,4,5,8,35] [] (dpU fb c ⟨ua,un,uc⟩) (fun _=>[]) (fun _=>FO fb cs bn cn dn most sh) (fun a=>[(bn,bV ea (cu (cA t))),(dn,bV dH (cu a.dm))]) (fun a=>[NL ⟨ua,un,uc⟩ ((eS t i).map fun k:Nat=>(k:Int)),lL cs t]) (fun a=>a.z=a.j∧a.j≤un∧Yu t ((eS t i).take a.j) a.m∧RW t a.dm∧(∀j:Nat,gC (j:Int) a.dm=some 0→gC (j:Int) (la c 0 dm)=some 0)∧vH t a.dm<vH t dm) (fun a=>un-a.j) ⟨0,0,0,la c 0 dm⟩ ⟨rfl,aH _,⟨0,rfl⟩,?_,fun _ h=>h,by rw[hc];exact hlt⟩ (eC eK (eC eK eE)) ?_
  ·intro k v hk;rw[iI]at hk;split at hk
   ·injection hk with hk;exact⟨i,by omega,.inl hk.symm⟩
   ·exact hdm k v hk
  rintro⟨j,z,m,em⟩ K ⟨hz,hj,hmx,Kq,hze,hfe⟩ close;simp only at hz hj hmx Kq hze hfe;refine Nr ⟨ua,un,uc⟩ (l:=(eS t i).map fun k:Nat=>(k:Int)) rfl (fun _ hu2 hu3=>?_);simp only at hu2 hu3;by_cases hlt2:j<un
  ·obtain⟨k,hk⟩:∃k,(eS t i)[j]? =some k:=⟨_,ah (by omega)⟩;have hkm:=aM hk;obtain⟨bb,off,hao⟩:=hu3 (by intro e;rw[List.map_eq_nil_iff]at e;rw[e]at hkm;simp at hkm);subst hao;refine bh [] 36 (decide (z<(un:Int))) (ar (by omega)) (bI [36] 1 bb off un uc .i64 j z hz bK hlt2 (cX [] 1 bb (off+j*1) (.int .i64 (k:Int)) bK (sM bb off un uc (by rw[bL,hk];rfl)) ?_));have nZ:Ub t em k:=fun q hq=>by
    have h1:=hze q hq;rw[hc,iI]at h1;split at h1
    ·rename_i hqi;obtain rfl:q=i:=by omega
     exact .one hkm
    ·exact(how q h1).trans (.one hkm)
   refine dp [] [] (FO fb cs bn cn dn most sh) [] [] [(bn,bV ea (cu (cA t))),(dn,bV dH (cu em))] [] ⟨rfl,by rfl,trivial⟩ (ih (n-1) (by omega) _ (k:Int) k rfl (nG hkm) em Kq nZ (by omega)) ?_;rintro _ _ _ _ ⟨d,b,dm',⟨ht,hf⟩,rfl,rfl,rfl,rfl⟩;cases b with
   |false=>
    refine bh [] 46 (!false) rfl (ku [46] (.tuple #[.int .i64 0,.bool false]) (FO fb cs bn cn dn most sh) [(bn,bV ea (cu (cA t))),(dn,bV dH (cu dm'))] ⟨0,false,dm',⟨fun h=>by simp at h,fun _=>hf rfl⟩,rfl,rfl,rfl,rfl⟩ bX)
   |true=>
    obtain⟨e,rfl,hde,hd1,hd2,hd3⟩:=ht rfl;refine aO [] 46 (!true) rfl (Np [46] .i64 (m:Int) (e:Int) ((max m e:Nat):Int) (by omega) (close [] _ _ ⟨j+1,IntKind.i64.wrap (z+1),max m e,dm'⟩ (by kernel_rfl) (by kernel_rfl) ⟨by simp only[af];omega,hlt2,?_,hd1,fun q hq=>hze q (hd2 q hq),by simp only;omega⟩ (by simp only;omega) (eC eK (eC eK eE))));rw[List.take_add_one,hk];exact hmx.snoc hde
  ·have htk:(eS t i).take j=eS t i:=aR (by omega);rw[htk]at hmx;have hdep:=hmx.dep;have afG:=LL hi hdep;have hw:IntKind.i64.wrap ((m:Int)+1)=((m+1:Nat):Int):=by rw[af];omega
   refine aO [] 36 (decide (z<(un:Int))) (ak (by omega)) (bN [36] 3 fb 0 bK (dS [] (FO fb cs bn cn dn most sh) fb (0+3) 1 [aY cs,.map (some bn),.map (some cn),.map (some dn),.int .i64 most,sh] (.map (some dn)) bK (.head _) rfl (CI [] dH 70 3 3 (FO fb cs bn cn dn most sh) [(bn,bV ea (cu (cA t)))] [] dn c (.int .i64 (IntKind.i64.wrap ((m:Int)+1))) (cu em) ?_)));rw[qT,hw];refine ku [] (.tuple #[.int .i64 ((m+1:Nat):Int),.bool true]) (FO fb cs bn cn dn most sh) [(bn,bV ea (cu (cA t))),(dn,bV dH (cu (la c ((m+1:Nat):Int) em)))] (h:=(by rw[←hw];kernel_rfl)) ⟨((m+1:Nat):Int),true,la c ((m+1:Nat):Int) em,⟨fun _=>⟨m+1,rfl,hdep,?_,?_,?_⟩,fun h=>by simp at h⟩,rfl,rfl,rfl,rfl⟩ bX
   ·intro k v hk;rw[iI]at hk;split at hk
    ·injection hk with hk;exact⟨i,by omega,.inr ⟨m+1,hk.symm,hdep⟩⟩
    ·exact Kq k v hk
   ·intro q hq;rw[iI]at hq;split at hq
    ·injection hq with hq;omega
    ·rename_i hne;have h1:=hze q hq;rw[iI,if_neg hne]at h1;exact h1
   ·have:=Of (t:=t) (dm:=em) c ((m+1:Nat):Int);omega
end
structure T8(t:List Ce):Prop where
 ok:∀c∈t,∀x∈c.i,ju x
 len:∀c∈t,c.i.length≤100000
 tl:t.length≤100000
 by':∀c∈t,Ys c
structure An(t:List Ce):Prop where
 lost:lost t=false
 right:∀c∈t,∀x∈c.i,iB x=true
 deep:∀i,i<t.length→∃d,dep t 64 i=some d
theorem T8.ce{t:List Ce}(h:T8 t):∀c∈t,Vs c:=fun c hc x hx=>(h.ok c hc x hx).im
theorem mj{t:List Ce}{i:Nat}{x:Ce}(hx:t[i]? =some x):iA t i=x.i:=by
 unfold iA;rw[dw,hx];rfl
theorem j9{t:List Ce}{i:Nat}{x:Im}(h:x∈iA t i):∃c∈t,x∈c.i:=by
 unfold iA at h;rw[dw]at h;cases hg:t[i]? with
 |none=>rw[hg]at h;simp at h
 |some c=>
  rw[hg]at h;exact⟨c,aM hg,h⟩
theorem uR{t:List Ce}{g:Nat→Int}(hg:∀k,0≤g k){x:Im}(hr:iB x=true):0≤jg t g x:=by
 unfold jg;split
 ·omega
 ·split
  ·split<;>omega
  ·split
   ·rename_i hk;obtain⟨_,h1,h2,_⟩:=nw hr hk;split
    ·exact eZ (eZ (hg _) (by omega)) (by omega)
    ·omega
   ·omega
theorem wE:∀{l:List Int},(∀z∈l,0≤z)→0≤l.sum
 | [],_=>by simp
 |z::l,h=>by
  have:=h z (by simp);have:=wE (l:=l) fun y hy=>h y (by simp[hy]);simp only[dC];omega
theorem An.cnt_nn{t:List Ce}(h:An t):∀n c,0≤jc t n c
 |0,c=>by simp[jc]
 |n+1,c=>by
  unfold jc;refine wE fun z hz=>?_;obtain⟨x,hx,rfl⟩:=List.mem_map.1 hz;obtain⟨c',hc',hx'⟩:=j9 hx;exact uR (h.cnt_nn n) (h.right c' hc' x hx')
theorem An.cnt64{t:List Ce}(h:An t){i:Nat}(hi:i<t.length):jc t 64 i=((iA t i).map (jg t (jc t 64))).sum:=by
 obtain⟨d,hd⟩:=h.deep i hi;rw[←wU hd];rfl
theorem An.kid{t:List Ce}(h:An t){i:Nat}{x:Ce}(hx:t[i]? =some x){y:Im}(hy:y∈x.i){s:List Int}(hs:ig y=some s):∃k,j6 t y=some k∧kr t (strOfNums s)=some k∧k∈eS t i:=by
 have h1:=h.lost;unfold YtgaaopjagcaojaaGreat.lost at h1;rw[dO]at h1;have h2:=h1 x (aM hx);unfold pD at h2;simp only[nQ]at h2;rw[dO]at h2;have h3:=h2 y hy;have e:j6 t y=kr t (strOfNums s):=by unfold j6;rw[hs];rfl
 cases hk:j6 t y with
 |none=>rw[hs,hk]at h3;simp at h3
 |some k=>exact⟨k,rfl,by rw[←e,hk],List.mem_filterMap.2 ⟨y,by rw[mj hx];exact hy,hk⟩⟩
theorem Bu{t:List Ce}{s:List Int}{k:Nat}(h:kr t (strOfNums s)=some k):gC (strOfNums s) (cu (cA t))=some (.int .i64 (k:Int)):=by
 rw[mV,vW,h];rfl
theorem Si{S a a' m:Int}(h0:0≤S)(hm:0≤m)(ha:0≤a')(h:a'=a∨(m≤a'∧m≤a)):min (min S m+a') m=min (S+a) m:=by omega
theorem ED{k c:Int}(h:0≤k)(hc:1≤c):k≤k*c:=by
 have:=lx hc h;omega
theorem Kc{k c r m:Int}(hk:0≤k)(hm:0≤m:=by omega)(hc:1≤c:=by omega)(hr:1≤r:=by omega):0≤min k m*c*r∧(min k m*c*r=k*c*r∨(m≤min k m*c*r∧m≤k*c*r)):=by
 have h1:0≤min k m:=by omega
 refine⟨eZ (eZ h1 (by omega)) (by omega),?_⟩;by_cases h:k≤m
 ·exact .inl (by rw[Int.min_eq_left h])
 ·rw[Int.min_eq_right (by omega)];have a1:=ED hm hc;have a2:=ED (k:=m*c) (by omega) hr;have b1:=ED hk hc;have b2:=ED (k:=k*c) (by omega) hr;exact .inr ⟨by omega,by omega⟩
theorem Ig{k c r z:Int}(hz:0≤z∧z≤100001)(hk:0≤k∧k≤100001:=by omega)(hc:1≤c∧c≤32767:=by omega)(hr:1≤r∧r≤32767:=by omega):IntKind.i64.wrap (z+IntKind.i64.wrap (IntKind.i64.wrap (k*c)*r))=z+k*c*r:=by
 have a0:0≤k*c:=eZ hk.1 (by omega);have a1:k*c≤100001*32767:=qz hk.2 hc.2 (by omega) (by omega);have b0:0≤k*c*r:=eZ a0 (by omega);have b1:k*c*r≤(100001*32767)*32767:=qz a1 hr.2 (by omega) (by omega);rw[i64_in (k*c) (by omega),i64_in (k*c*r) (by omega),i64_in (z+k*c*r) (by omega)]
def wG(t:List Ce)(most:Int)(cm:List (Int×Int)):Prop:=∀k v,gC k cm=some v→∃j:Nat,k=j∧v=min (jc t 64 j) (most+1)
theorem wG.set{t:List Ce}{most:Int}{cm:List (Int×Int)}(h:wG t most cm){c:Int}{i:Nat}(hc:c=i){v:Int}(hv:v=min (jc t 64 i) (most+1)):wG t most (la c v cm):=fun k u hk=>by
 rw[iI]at hk;split at hk
 ·injection hk with hk;exact⟨i,by omega,by omega⟩
 ·exact h k u hk
def Vt(t:List Ce)(most:Int)(i:Nat)(FO':List (Nat×List Value))(b1 b2:Nat×List (Value×Value))(cn:Nat)(v:Value)(O:List (Nat×List Value))(M:List (Nat×List (Value×Value)))(Δ:List aC):Prop:=
 ∃pd:List (Int×Int),wG t most pd∧v=.int .i64 (min (jc t 64 i) (most+1))∧O=FO'∧M=[b1,b2,(cn,bV dH (cu pd))]∧Δ=[]
structure aby where
 j:Nat
 z:Int
 n:Int
 cm:List (Int×Int)
def ctU(fb:Nat)(c:Int)(u:Sl):aby→List (Nat×SV):=fun a=>[(0,.val (fu fb)),(1,.val (.int .i64 c)),(4,.val (.int .i64 0)),(34,.val (aY u)),(35,.val (.int .i64 u.n)),(7,.val (.int .i64 a.n)),(36,.val (.int .i64 a.z))]
section
theorem KN(fb bn cn dn:Nat)(ca:Option Addr)(pd cc:Nat)(most:Int)(sh:Value)(dm:List (Value×Value)){t:List Ce}(hF:T8 t)(hD:An t)(hmost:0≤most∧most≤100000):
  ∀(n:Nat) (Γ:List aC) [aZ (lL ⟨ca,pd,cc⟩) t Γ] (c:Int) (i:Nat),c=i→i<t.length→(∃d,dep t n i=some d)→∀cm:List (Int×Int),wG t most cm→
  dD Lk Tryz.prog 47 [fu fb,.int .i64 c] (FO fb ⟨ca,pd,cc⟩ bn cn dn most sh) [(bn,bV ea (cu (cA t))),(dn,dm),(cn,bV dH (cu cm))] Γ (Vt t most i (FO fb ⟨ca,pd,cc⟩ bn cn dn most sh) (bn,bV ea (cu (cA t))) (dn,dm) cn):=by
 intro n
 induction n with
 |zero=>
  intro Γ hcs c i hc hi ⟨d,hd⟩;simp[dep]at hd
 |succ n ih=>
 intro Γ hcs c i hc hi hdep cm hcm;obtain⟨x,hx⟩:∃x,t[i]? =some x:=⟨_,ah hi⟩;have hxm:=aM hx;have hitems:=mj hx;have hc64:=hD.cnt64 hi;rw[hitems]at hc64;refine dD.of_W bK Tryz.func47 rfl (W.len gT lT.x ⟨ca,pd,cc⟩ rfl (fun h1 h2 h3=>?_));simp only at h1 h2 h3;have hil:i<pd:=by rw[h1];exact hi
 refine sJ ⟨ca,pd,cc⟩ hx (fun b off fh fi ha=>?_);simp only at ha;subst ha;refine W.more (Δ:=[qA fi x.i]) rfl (fun I w _ hh=>aT (aZ.p (k:=zJ fh fi) (a:=x) inferInstance hh).2) ?_;obtain⟨ia,im,ic⟩:=fi;refine W.len kM mR.x ⟨ia,im,ic⟩ rfl (fun i1 i2 i3=>?_);simp only at i1 i2 i3;refine bN [] 2 fb 0 bK (dS [] (FO fb ⟨some ⟨b,off,none⟩,pd,cc⟩ bn cn dn most sh) fb (0+2) 1 [.slice (some ⟨b,off,none⟩) pd cc,.map (some bn),.map (some cn),.map (some dn),.int .i64 most,sh] (.map (some cn)) bK (.head _) rfl (vC [] dH 70 3 3 true (FO fb ⟨some ⟨b,off,none⟩,pd,cc⟩ bn cn dn most sh) [(bn,bV ea (cu (cA t))),(dn,dm),(cn,bV dH (cu cm))] cn c (cu cm) (.int .i64 0) bK (.tail _ (.tail _ (.head _))) ?_));rw[mV];cases hg:gC c cm with
 |some d=>
  refine bh [] 25 true rfl ?_;obtain⟨j,hj,hv⟩:=hcm c d hg;obtain rfl:j=i:=by omega
  exact ku [25] (.int .i64 d) (FO fb ⟨some ⟨b,off,none⟩,pd,cc⟩ bn cn dn most sh) [(bn,bV ea (cu (cA t))),(dn,dm),(cn,bV dH (cu cm))] ⟨cm,hcm,by rw[hv],rfl,rfl,rfl⟩ bX
 |none=>
  refine aO [] 25 false rfl (bN [25] 0 fb 0 bK (dS [] (FO fb ⟨some ⟨b,off,none⟩,pd,cc⟩ bn cn dn most sh) fb (0+0) 1 [.slice (some ⟨b,off,none⟩) pd cc,.map (some bn),.map (some cn),.map (some dn),.int .i64 most,sh] (.slice (some ⟨b,off,none⟩) pd cc) bK (.head _) rfl (bI [] 2 b off pd cc .i64 i c hc bK hil (bN [] 1 b (off+i*2) bK (cX [] 1 b (off+i*2+1) (.slice ia im ic) bK (fun I w hd hh=>bH (T:=Lk) b (off+i*2) I w hd hh 1 _ rfl) (jO [] Tryz.f47 0 101 101 [0,1,4,34,35,7,36] [] (ctU fb c ⟨ia,im,ic⟩) (fun _=>[]) (fun _=>FO fb ⟨some ⟨b,off,none⟩,pd,cc⟩ bn cn dn most sh) (fun a=>[(bn,bV ea (cu (cA t))),(dn,dm),(cn,bV dH (cu a.cm))]) (fun a=>[qA ⟨ia,im,ic⟩ x.i,lL ⟨some ⟨b,off,none⟩,pd,cc⟩ t]) (fun a=>a.z=a.j∧a.j≤im∧a.n=min (((x.i.take a.j).map (jg t (jc t 64))).sum) (most+1)∧wG t most a.cm) (fun a=>im-a.j) ⟨0,0,0,cm⟩ ⟨rfl,aH _,by simp only[mT,dd,qC];omega,hcm⟩ (eC eK (eC eK eE)) ?_))))));rintro⟨j,z,N,em⟩ K ⟨hz,hj,hN,Kq⟩ close;simp only at hz hj hN Kq;obtain⟨S,hS⟩:∃S,((x.i.take j).map (jg t (jc t 64))).sum=S:=⟨_,rfl⟩;have hS0:0≤S:=by
   rw[←hS];refine wE fun q hq=>?_;obtain⟨y,hy,rfl⟩:=List.mem_map.1 hq;exact uR (hD.cnt_nn 64) (hD.right x hxm y (fm hy))
  rw[hS]at hN;have hN0:0≤N∧N≤100001:=by omega
  have hm1:IntKind.i64.wrap (most+1)=most+1:=by rw[af];omega
  by_cases hlt:j<im
  ·obtain⟨y,hy⟩:∃y,x.i[j]? =some y:=⟨_,ah (by omega)⟩;have hym:=aM hy;have hyo:=hF.ok x hxm y hym;have hyok:=hyo.im;have hyr:=hD.right x hxm y hym;have next:∀a':Int,0≤a'→(a'=jg t (jc t 64) y∨(most+1≤a'∧most+1≤jg t (jc t 64) y))→min (N+a') (most+1)=min (((x.i.take (j+1)).map (jg t (jc t 64))).sum) (most+1):=fun a' h0 h=>by
    rw[fM hy,aS,iv,hS];simp only[bQ,dd,dC,qC,qx];rw[hN];exact Si hS0 (by omega) h0 h
   refine vB ⟨ia,im,ic⟩ hy (fun b2 off2 yf yp ha=>?_);simp only at ha;subst ha;refine bh [] 37 (decide (z<(im:Int))) (ar (by omega)) (bI [37] 2 b2 off2 im ic .i64 j z hz bK hlt (cJ [] b2 (off2+j*2) [aY yf,aY yp] bK (bH b2 (off2+j*2)) ?_));rcases hyo.kind with hk|hk|hk|hk|hk|hk|hk
   ·have pk:∀(Γ':List aC) [aZ (oE yf yp) y Γ'],aw tb Tryz.prog 81 [nd yf yp] Γ' (jy (.int .u8 8)):=fun Γ' _=>by rw[←hk];exact j7 yf yp hyok
    refine W.c0 [] (pk _).mF (bN [42] 4 fb 0 bK (dS [] (FO fb ⟨some ⟨b,off,none⟩,pd,cc⟩ bn cn dn most sh) fb (0+4) 1 [.slice (some ⟨b,off,none⟩) pd cc,.map (some bn),.map (some cn),.map (some dn),.int .i64 most,sh] (.int .i64 most) bK (.head _) rfl (pV [] .i64 (IntKind.i64.wrap (N+1)) (IntKind.i64.wrap (most+1)) (min (N+1) (most+1)) (by rw[hm1,show IntKind.i64.wrap (N+1)=N+1 by rw[af];omega]) (close [] _ _ ⟨j+1,IntKind.i64.wrap (z+1),min (N+1) (most+1),em⟩ (by kernel_rfl) (by kernel_rfl) ⟨by simp only[af];omega,hlt,next 1 (by decide) (.inl (by unfold jg;rw[if_pos (.inl hk)])),Kq⟩ (by simp only;omega) (eC eK (eC eK eE))))))
   ·have pk:∀(Γ':List aC) [aZ (oE yf yp) y Γ'],aw tb Tryz.prog 81 [nd yf yp] Γ' (jy (.int .u8 9)):=fun Γ' _=>by rw[←hk];exact j7 yf yp hyok
    refine W.c0 [] (pk _).mF (jD [47,42] (Ju yf yp (x:=y) hyok).mF ?_);rintro _ _ ⟨ao,pc,l,rfl,hpc,hl,rfl⟩;by_cases hl0:0<l.length
    ·have hne:jk y≠ []:=by rw[←hl];intro e;rw[List.map_eq_nil_iff]at e;rw[e]at hl0;simp at hl0
     refine bh [] 56 (decide ((l.length:Int)>0)) (ar (by omega)) (bN [56] 4 fb 0 bK (dS [] (FO fb ⟨some ⟨b,off,none⟩,pd,cc⟩ bn cn dn most sh) fb (0+4) 1 [.slice (some ⟨b,off,none⟩) pd cc,.map (some bn),.map (some cn),.map (some dn),.int .i64 most,sh] (.int .i64 most) bK (.head _) rfl (pV [] .i64 (IntKind.i64.wrap (N+1)) (IntKind.i64.wrap (most+1)) (min (N+1) (most+1)) (by rw[hm1,show IntKind.i64.wrap (N+1)=N+1 by rw[af];omega]) (close [] _ _ ⟨j+1,IntKind.i64.wrap (z+1),min (N+1) (most+1),em⟩ (by kernel_rfl) (by kernel_rfl) ⟨by simp only[af];omega,hlt,next 1 (by decide) (.inl (by unfold jg;simp[hk,hne])),Kq⟩ (by simp only;omega) (eC eK (eC eK eE))))))
    ·have hne:jk y=[]:=by rw[←hl,aL (by omega:l.length=0)];rfl
     refine aO [] 56 (decide ((l.length:Int)>0)) (ak (by omega)) (bN [56] 4 fb 0 bK (dS [] (FO fb ⟨some ⟨b,off,none⟩,pd,cc⟩ bn cn dn most sh) fb (0+4) 1 [.slice (some ⟨b,off,none⟩) pd cc,.map (some bn),.map (some cn),.map (some dn),.int .i64 most,sh] (.int .i64 most) bK (.head _) rfl (pV [] .i64 (N) (IntKind.i64.wrap (most+1)) (min (N+0) (most+1)) (by rw[hm1,qx]) (close [] _ _ ⟨j+1,IntKind.i64.wrap (z+1),min (N+0) (most+1),em⟩ (by kernel_rfl) (by kernel_rfl) ⟨by simp only[af];omega,hlt,next 0 (Int.le_refl _) (.inl (by unfold jg;simp[hk,hne])),Kq⟩ (by simp only;omega) (eC eK (eC eK eE))))))
   ·have pk:∀(Γ':List aC) [aZ (oE yf yp) y Γ'],aw tb Tryz.prog 81 [nd yf yp] Γ' (jy (.int .u8 10)):=fun Γ' _=>by rw[←hk];exact j7 yf yp hyok
    refine W.c0 [] (pk _).mF ?_;obtain⟨s,hs⟩:=hyo.ref (.inl hk);obtain⟨k,hkn,hki,hkm⟩:=hD.kid hx hym hs;obtain⟨_,hg1,hg2,_⟩:=nw hyr (.inl hk);have Z0:=wZ (hF.by' x hxm y hym);have pn:∀(Γ':List aC) [aZ (oE yf yp) y Γ'],aw tb Tryz.prog 79 [nd yf yp] Γ' (jy (.tuple #[.string (strOfNums s),.bool true])):=fun Γ' _=>by
     have:=xA (Γ:=Γ') yf yp hyok;rw[hs]at this;exact this
    refine W.c0 [59,47,42] (pn _).mF (W.c0 [] (tY yf yp (x:=y) hyok).mF (bN [] 1 fb 0 bK (dS [] (FO fb ⟨some ⟨b,off,none⟩,pd,cc⟩ bn cn dn most sh) fb (0+1) 1 [.slice (some ⟨b,off,none⟩) pd cc,.map (some bn),.map (some cn),.map (some dn),.int .i64 most,sh] (.map (some bn)) bK (.head _) rfl (vC [] ea 69 9 3 false (FO fb ⟨some ⟨b,off,none⟩,pd,cc⟩ bn cn dn most sh) [(bn,bV ea (cu (cA t))),(dn,dm),(cn,bV dH (cu em))] bn (strOfNums s) (cu (cA t)) (.int .i64 0) bK (.head _) ?_))));rw[Bu hki];have hkd:∃d,dep t n k=some d:=by
     obtain⟨d,hd⟩:=hdep;unfold dep at hd;cases hq:js (dep t n) (eS t i) 0 with
     |none=>rw[hq]at hd;simp at hd
     |some r=>
      obtain⟨e,he,_⟩:=(lC hq).2 k hkm;exact⟨e,he⟩
    refine dp [] [] (FO fb ⟨some ⟨b,off,none⟩,pd,cc⟩ bn cn dn most sh) [] [] [(bn,bV ea (cu (cA t))),(dn,dm),(cn,bV dH (cu em))] [] ⟨rfl,by rfl,trivial⟩ (ih _ (k:Int) k rfl (nG hkm) hkd em Kq) ?_;rintro _ _ _ _ ⟨em2,Ww,rfl,rfl,rfl,rfl⟩;have hk0:=hD.cnt_nn 64 k;have hcI:jg t (jc t 64) y=jc t 64 k*(bJ y).1*(bJ y).2:=by unfold jg;simp[hk,hkn]
    obtain⟨q,hq⟩:∃q,jc t 64 k=q:=⟨_,rfl⟩;rw[hq]at hk0 hcI⊢;have hcap:=Kc (k:=q) (c:=(bJ y).1) (r:=(bJ y).2) (m:=most+1) hk0;have hwm:=Ig (k:=min q (most+1)) (c:=(bJ y).1) (r:=(bJ y).2) (z:=N) hN0;refine bN [] 4 fb 0 bK (dS [] (FO fb ⟨some ⟨b,off,none⟩,pd,cc⟩ bn cn dn most sh) fb (0+4) 1 [.slice (some ⟨b,off,none⟩) pd cc,.map (some bn),.map (some cn),.map (some dn),.int .i64 most,sh] (.int .i64 most) bK (.head _) rfl (pV [] .i64 (IntKind.i64.wrap (N+IntKind.i64.wrap (IntKind.i64.wrap (min q (most+1)*(bJ y).1)*(bJ y).2))) (IntKind.i64.wrap (most+1)) (min (N+(min q (most+1)*(bJ y).1*(bJ y).2)) (most+1)) (by rw[hm1,hwm]) (close [] _ _ ⟨j+1,IntKind.i64.wrap (z+1),min (N+(min q (most+1)*(bJ y).1*(bJ y).2)) (most+1),em2⟩ (by kernel_rfl) (by kernel_rfl) ⟨by simp only[af];omega,hlt,next (min q (most+1)*(bJ y).1*(bJ y).2) hcap.1 (by rw[hcI];exact hcap.2),Ww⟩ (by simp only;omega) (eC eK (eC eK eE)))))
   ·have pk:∀(Γ':List aC) [aZ (oE yf yp) y Γ'],aw tb Tryz.prog 81 [nd yf yp] Γ' (jy (.int .u8 11)):=fun Γ' _=>by rw[←hk];exact j7 yf yp hyok
    refine W.c0 [] (pk _).mF ?_;obtain⟨s,hs⟩:=hyo.ref (.inr hk);obtain⟨k,hkn,hki,hkm⟩:=hD.kid hx hym hs;obtain⟨_,hg1,hg2,_⟩:=nw hyr (.inr hk);have Z0:=wZ (hF.by' x hxm y hym);have pn:∀(Γ':List aC) [aZ (oE yf yp) y Γ'],aw tb Tryz.prog 79 [nd yf yp] Γ' (jy (.tuple #[.string (strOfNums s),.bool true])):=fun Γ' _=>by
     have:=xA (Γ:=Γ') yf yp hyok;rw[hs]at this;exact this
    refine W.c0 [59,47,42] (pn _).mF (W.c0 [] (tY yf yp (x:=y) hyok).mF (bN [] 1 fb 0 bK (dS [] (FO fb ⟨some ⟨b,off,none⟩,pd,cc⟩ bn cn dn most sh) fb (0+1) 1 [.slice (some ⟨b,off,none⟩) pd cc,.map (some bn),.map (some cn),.map (some dn),.int .i64 most,sh] (.map (some bn)) bK (.head _) rfl (vC [] ea 69 9 3 false (FO fb ⟨some ⟨b,off,none⟩,pd,cc⟩ bn cn dn most sh) [(bn,bV ea (cu (cA t))),(dn,dm),(cn,bV dH (cu em))] bn (strOfNums s) (cu (cA t)) (.int .i64 0) bK (.head _) ?_))));rw[Bu hki];have hkd:∃d,dep t n k=some d:=by
     obtain⟨d,hd⟩:=hdep;unfold dep at hd;cases hq:js (dep t n) (eS t i) 0 with
     |none=>rw[hq]at hd;simp at hd
     |some r=>
      obtain⟨e,he,_⟩:=(lC hq).2 k hkm;exact⟨e,he⟩
    refine dp [] [] (FO fb ⟨some ⟨b,off,none⟩,pd,cc⟩ bn cn dn most sh) [] [] [(bn,bV ea (cu (cA t))),(dn,dm),(cn,bV dH (cu em))] [] ⟨rfl,by rfl,trivial⟩ (ih _ (k:Int) k rfl (nG hkm) hkd em Kq) ?_;rintro _ _ _ _ ⟨em2,Ww,rfl,rfl,rfl,rfl⟩;have hk0:=hD.cnt_nn 64 k;have hcI:jg t (jc t 64) y=jc t 64 k*(bJ y).1*(bJ y).2:=by unfold jg;simp[hk,hkn]
    obtain⟨q,hq⟩:∃q,jc t 64 k=q:=⟨_,rfl⟩;rw[hq]at hk0 hcI⊢;have hcap:=Kc (k:=q) (c:=(bJ y).1) (r:=(bJ y).2) (m:=most+1) hk0;have hwm:=Ig (k:=min q (most+1)) (c:=(bJ y).1) (r:=(bJ y).2) (z:=N) hN0;refine bN [] 4 fb 0 bK (dS [] (FO fb ⟨some ⟨b,off,none⟩,pd,cc⟩ bn cn dn most sh) fb (0+4) 1 [.slice (some ⟨b,off,none⟩) pd cc,.map (some bn),.map (some cn),.map (some dn),.int .i64 most,sh] (.int .i64 most) bK (.head _) rfl (pV [] .i64 (IntKind.i64.wrap (N+IntKind.i64.wrap (IntKind.i64.wrap (min q (most+1)*(bJ y).1)*(bJ y).2))) (IntKind.i64.wrap (most+1)) (min (N+(min q (most+1)*(bJ y).1*(bJ y).2)) (most+1)) (by rw[hm1,hwm]) (close [] _ _ ⟨j+1,IntKind.i64.wrap (z+1),min (N+(min q (most+1)*(bJ y).1*(bJ y).2)) (most+1),em2⟩ (by kernel_rfl) (by kernel_rfl) ⟨by simp only[af];omega,hlt,next (min q (most+1)*(bJ y).1*(bJ y).2) hcap.1 (by rw[hcI];exact hcap.2),Ww⟩ (by simp only;omega) (eC eK (eC eK eE)))))
   ·have pk:∀(Γ':List aC) [aZ (oE yf yp) y Γ'],aw tb Tryz.prog 81 [nd yf yp] Γ' (jy (.int .u8 12)):=fun Γ' _=>by rw[←hk];exact j7 yf yp hyok
    refine W.c0 [] (pk _).mF (bN [59,47,42] 4 fb 0 bK (dS [] (FO fb ⟨some ⟨b,off,none⟩,pd,cc⟩ bn cn dn most sh) fb (0+4) 1 [.slice (some ⟨b,off,none⟩) pd cc,.map (some bn),.map (some cn),.map (some dn),.int .i64 most,sh] (.int .i64 most) bK (.head _) rfl (pV [] .i64 (N) (IntKind.i64.wrap (most+1)) (min (N+0) (most+1)) (by rw[hm1,qx]) (close [] _ _ ⟨j+1,IntKind.i64.wrap (z+1),min (N+0) (most+1),em⟩ (by kernel_rfl) (by kernel_rfl) ⟨by simp only[af];omega,hlt,next 0 (Int.le_refl _) (.inl (by unfold jg;simp[hk])),Kq⟩ (by simp only;omega) (eC eK (eC eK eE))))))
   ·have pk:∀(Γ':List aC) [aZ (oE yf yp) y Γ'],aw tb Tryz.prog 81 [nd yf yp] Γ' (jy (.int .u8 21)):=fun Γ' _=>by rw[←hk];exact j7 yf yp hyok
    refine W.c0 [] (pk _).mF (bN [59,47,42] 4 fb 0 bK (dS [] (FO fb ⟨some ⟨b,off,none⟩,pd,cc⟩ bn cn dn most sh) fb (0+4) 1 [.slice (some ⟨b,off,none⟩) pd cc,.map (some bn),.map (some cn),.map (some dn),.int .i64 most,sh] (.int .i64 most) bK (.head _) rfl (pV [] .i64 (N) (IntKind.i64.wrap (most+1)) (min (N+0) (most+1)) (by rw[hm1,qx]) (close [] _ _ ⟨j+1,IntKind.i64.wrap (z+1),min (N+0) (most+1),em⟩ (by kernel_rfl) (by kernel_rfl) ⟨by simp only[af];omega,hlt,next 0 (Int.le_refl _) (.inl (by unfold jg;simp[hk])),Kq⟩ (by simp only;omega) (eC eK (eC eK eE))))))
   ·have pk:∀(Γ':List aC) [aZ (oE yf yp) y Γ'],aw tb Tryz.prog 81 [nd yf yp] Γ' (jy (.int .u8 45)):=fun Γ' _=>by rw[←hk];exact j7 yf yp hyok
    refine W.c0 [] (pk _).mF (bN [42] 4 fb 0 bK (dS [] (FO fb ⟨some ⟨b,off,none⟩,pd,cc⟩ bn cn dn most sh) fb (0+4) 1 [.slice (some ⟨b,off,none⟩) pd cc,.map (some bn),.map (some cn),.map (some dn),.int .i64 most,sh] (.int .i64 most) bK (.head _) rfl (pV [] .i64 (IntKind.i64.wrap (N+1)) (IntKind.i64.wrap (most+1)) (min (N+1) (most+1)) (by rw[hm1,show IntKind.i64.wrap (N+1)=N+1 by rw[af];omega]) (close [] _ _ ⟨j+1,IntKind.i64.wrap (z+1),min (N+1) (most+1),em⟩ (by kernel_rfl) (by kernel_rfl) ⟨by simp only[af];omega,hlt,next 1 (by decide) (.inl (by unfold jg;rw[if_pos (.inr hk)])),Kq⟩ (by simp only;omega) (eC eK (eC eK eE))))))
  ·have htk:x.i.take j=x.i:=aR (by omega);rw[htk,←hc64]at hS;refine aO [] 37 (decide (z<(im:Int))) (ak (by omega)) (bN [37] 2 fb 0 bK (dS [] (FO fb ⟨some ⟨b,off,none⟩,pd,cc⟩ bn cn dn most sh) fb (0+2) 1 [.slice (some ⟨b,off,none⟩) pd cc,.map (some bn),.map (some cn),.map (some dn),.int .i64 most,sh] (.map (some cn)) bK (.head _) rfl (CI [] dH 70 3 3 (FO fb ⟨some ⟨b,off,none⟩,pd,cc⟩ bn cn dn most sh) [(bn,bV ea (cu (cA t))),(dn,dm)] [] cn c (.int .i64 N) (cu em) ?_)));rw[qT];exact ku [] (.int .i64 N) (FO fb ⟨some ⟨b,off,none⟩,pd,cc⟩ bn cn dn most sh) [(bn,bV ea (cu (cA t))),(dn,dm),(cn,bV dH (cu (la c N em)))] ⟨la c N em,Kq.set hc (by rw[hN,hS]),by rw[hN,hS],rfl,rfl,rfl⟩ bX
end
def Kk{α:Type}:Except Int α→Int
 | .ok _=>0
 | .error e=>e
def VC(l:List (Sn×Sn)):Prop:=∀p∈l,(0≤p.1.m∧0≤p.1.n)∧0≤p.2.m∧0≤p.2.n
theorem wg{l:List (Sn×Sn)}{j:Nat}{p:Sn×Sn}(h:l[j]? =some p):gS (l.drop j)=if tN p.1.nr∧tN p.2.nr then(match gS (l.drop (j+1))with
   | .ok l=>.ok (⟨p.1.nr,p.2.nr⟩::l)
   | .error e=>.error e)else .error 26:=by
 obtain⟨h1,h2⟩:=List.getElem?_eq_some_iff.1 h;rw[bA h1,h2];rfl
theorem EF{l:List j4}{j:Nat}{e:j4}(h:l[j]? =some e):(l.map j4.num)[j]? =some (e.X,e.Y):=by
 rw[bL,h];rfl
structure lH where
 s:Sl
 x:Sh
def k8:kV lH where
 z:=3
 cells e:=[.int .i64 e.x.a,.int .i64 e.x.k,aY e.s]
 len _:=rfl
 fact _ e:=sS e.s e.x.p
def mC(x:Im):Int:=if cz x=45 then cC x 46 0 else cC x 14 0
def DZ(r:LR)(FB:Value→List (Nat×List Value))(es:List lH)(v:Value)(O:List (Nat×List Value))(Δ:List aC):Prop:=
 ∃(v':Sl) (O2:List (Nat×List Value)) (es2:List lH),(∀s,r=.ok s→es2.map lH.x=s)∧v=.int .i64 (Kk r)∧O=FB (aY v')++O2∧cH 3 O2 (aY v') (es++es2).length ((es++es2).flatMap k8.cells)∧Δ=[lU k8 (aY v') (es++es2)]
def VF(r:LR)(FB:Value→List (Nat×List Value))(es:List lH)(v:Value)(O:List (Nat×List Value))(M:List (Nat×List (Value×Value)))(Δ:List aC):Prop:=M=[]∧DZ r FB es v O Δ
structure Y9 where
 j:Nat
 z:Int
 a:List Dp
 s:Sl
 O:List (Nat×List Value)
def shU(fb:Nat)(ao:Option Addr)(n c:Nat):Y9→List (Nat×SV):=fun a=>[(0,.val (fu fb)),(7,.ptr 7 0),(23,.val (.slice ao n c)),(24,.val (.int .i64 n)),(6,.val (.int .i64 0)),(25,.val (.int .i64 a.z))]
def shX(A K:Int):Y9→List (Nat×List Value):=fun a=>[(7,[.int .i64 A,.int .i64 K,aY a.s])]
section
variable{T:Tb}{P:Program}{fin:VS→List aC→Prop}{c:fF}{Γ:List aC}{L:Nat}
theorem R5(ao:Option Addr){l:List j4} [h:aZ (OL gH ao) (L,l) Γ]{j:Nat}{e:j4}(he:l[j]? =some e)(hm:dF c.k=false)
  (hc:∀b off,ao=some ⟨b,off,none⟩→W T P fin c (SF e.x (L,e.X)::SF e.y (L,e.Y)::Γ)):W T P fin c Γ:=by
 obtain⟨h1,h2⟩:=List.getElem?_eq_some_iff.1 he;refine abE gH ao j h1 hm (by decide) (fun b off ha=>W.sub hm (fun I w _ hh=>?_) (hc b off ha));have g:=hh.h0';rw[h2]at g;exact aD.cons g.1 (aD.cons g.2 (fun F hF=>hh F (by simp[hF])))
theorem Ab(b off:Nat){l:List j4} [h:aZ (OL gH (some ⟨b,off,none⟩)) (L,l) Γ]{j:Nat}{e:j4}(he:l[j]? =some e):∀I w,bj T I w→aD Γ I w→∀k v,(gH.cells e)[k]? =some v→w.cell? ⟨b,off+j*40+k,none⟩=some v:=by
 obtain⟨h1,h2⟩:=List.getElem?_eq_some_iff.1 he;subst h2;exact fun I w hd hh k v hv=>JW gH b off j h1 I w hd hh k v hv
end
section
variable{Γ:List aC}{L M:Nat}
theorem PY(x y:Sw){X Y:Sn} [aZ (SF x) (L,X) Γ] [aZ (SF y) (M,Y) Γ](hm:0≤X.m)(hn:0≤X.n)(hm':0≤Y.m)(OH:0≤Y.n)(hL:L≤280:=by omega)(hM:M≤280:=by omega):
  aw tb Tryz.prog 144 [BS x y] Γ (jy (if tN X.nr∧tN Y.nr then .tuple #[.agg #[.int .i64 X.nr,.int .i64 Y.nr],.int .i64 0]else .tuple #[.agg #[.int .i64 0,.int .i64 0],.int .i64 26])):=by
 by_cases h:tN X.nr∧tN Y.nr
 ·rw[if_pos h];exact Xv x y hm hn hm' OH h.1 h.2 hL hM
 ·rw[if_neg h];exact Xu x y hm hn hm' OH h hL hM
theorem Td(fb:Nat)(ao:Option Addr)(c:Nat)(l:List j4) [h:aZ (OL gH ao) (L,l) Γ](hok:VC (l.map j4.num))(hL:L≤280)(hl:l.length≤1000000):aw tb Tryz.prog 89 [fu fb,.slice ao l.length c] Γ (jy (.int .i64 (Kk (gS (l.map j4.num))))):=by
 refine aw.of_W au Tryz.func89 rfl (x7 [] [4,11] (fun a:Nat×Int=>[(4,.int .i64 0),(11,.int .i64 a.2)]) (fun _=>[]) (fun _=>[OL gH ao (L,l)]) (fun a=>a.2=a.1∧a.1≤l.length∧Kk (gS (l.map j4.num))=Kk (gS ((l.map j4.num).drop a.1))) (fun a=>l.length-a.1) (0,0) ⟨rfl,aH _,by rw[h_]⟩ (eC eK eE) ?_);rintro⟨j,z⟩ K ⟨hz,hj,he⟩ close;simp only at hz hj he;by_cases hlt:j<l.length
 ·obtain⟨e,hq⟩:∃e,l[j]? =some e:=⟨_,ah hlt⟩;have Kn:=EF hq;have hp:=hok _ (aM Kn);rw[wg Kn]at he;refine R5 ao hq rfl (fun b off ha=>?_);subst ha;refine bh [] 12 (decide (z<(l.length:Int))) (ar (by omega)) (bI [12] 40 b off l.length c .i64 j z hz au hlt (cJ [] b (off+j*40) (gH.cells e) au (Ab b off hq) (W.c0 [] (PY e.x e.y hp.1.1 hp.1.2 hp.2.1 hp.2.2 hL hL) ?_)));by_cases hin:tN e.X.nr∧tN e.Y.nr
  ·rw[if_pos hin]at he⊢;refine aO [] 21 ((0:Int) != 0) rfl (close [21] _ _ (j+1,IntKind.i64.wrap (z+1)) (by kernel_rfl) (by kernel_rfl) ⟨by simp only[af];omega,hlt,?_⟩ (by simp only;omega) (eC eK eE));rw[he];cases gS ((l.map j4.num).drop (j+1))<;>rfl
  ·rw[if_neg hin]at he⊢;refine bh [] 21 ((26:Int) != 0) rfl (W.r [21] (.int .i64 26) ⟨by rw[he];rfl,rfl⟩ bX)
 ·rw[bp (by rw[bM];omega)]at he;refine aO [] 12 (decide (z<(l.length:Int))) (ak (by omega)) (W.r [12] (.int .i64 0) ⟨by rw[he];rfl,rfl⟩ bX)
theorem KT(fb bn cn dn:Nat)(cs:Sl)(most:Int)(s0 xf xp:Sl)(O:List (Nat×List Value))(es:List lH)(ao:Option Addr)(c:Nat)(l:List j4){x:Im} [hx:aZ (oE xf xp) x Γ] [hs:aZ (lU k8 (aY s0)) es Γ] [h:aZ (OL gH ao) (L,l) Γ]
  (hxo:qu x)(hok:VC (l.map j4.num))(hg:cH 3 O (aY s0) es.length (es.flatMap k8.cells))(hL:L≤280:=by omega)(hl:l.length≤900000:=by omega)(hel:es.length≤900000:=by omega):
  dD Lk Tryz.prog 87 [fu fb,nd xf xp,.slice ao l.length c] (FO fb cs bn cn dn most (aY s0)++O) [] Γ (VF (iU x (l.map j4.num)) (fun v=>FO fb cs bn cn dn most v) es):=by
 refine dD.of_W bK Tryz.func87 rfl (W.c0 [] (iR xf xp (x:=x) 13 0 hxo (.inl rfl)).mF (W.c0 [] (iR xf xp (x:=x) 14 0 hxo (.inl rfl)).mF (W.c0 [] (j7 xf xp (x:=x) hxo).mF ?_)));by_cases h45:cz x=45
 ·have hK:mC x=cC x 46 0:=by unfold mC;rw[if_pos h45]
  refine bh [] 19 (cz x==45) (by rw[h45];rfl) (W.c0 [19] (iR xf xp (x:=x) 46 0 hxo (.inl rfl)).mF ?_);rw[←hK];refine jO [] Tryz.f87 0 54 54 [0,7,23,24,6,25] [7] (shU fb ao l.length c) (shX (cC x 13 0) (mC x)) (fun a=>(FO fb cs bn cn dn most (aY s0)++O)++a.O) (fun _=>[]) (fun a=>[OL gH ao (L,l),lU k8 (aY s0) es]) (fun a=>a.z=a.j∧a.j≤l.length∧a.a.length=a.j∧cH 2 a.O (aY a.s) a.a.length (a.a.flatMap ed)∧gS (l.map j4.num)=(match gS ((l.map j4.num).drop a.j)with
   | .ok r=>.ok (a.a++r)
   | .error e=>.error e)) (fun a=>l.length-a.j) ⟨0,0,[],⟨none,0,0⟩,[]⟩ (h0:=(by simp only[ai];kernel_rfl)) ⟨rfl,aH _,rfl,cH.nil 2,by simp only[h_,az];cases gS (l.map j4.num)<;>rfl⟩ (eC eK (eC eK eE)) ?_
  rintro⟨j,z,acc,s,O2⟩ K ⟨hz,hj,Cv,M5,he⟩ close;simp only at hz hj Cv M5 he;by_cases hlt:j<l.length
  ·obtain⟨e,hq⟩:∃e,l[j]? =some e:=⟨_,ah hlt⟩;have Kn:=EF hq;have hp:=hok _ (aM Kn);rw[wg Kn]at he;refine R5 ao hq rfl (fun b off ha=>?_);subst ha;refine bh [] 26 (decide (z<(l.length:Int))) (ar (by omega)) (bI [26] 40 b off l.length c .i64 j z hz bK hlt (cJ [] b (off+j*40) (gH.cells e) bK (Ab b off hq) (W.c0 [] (PY e.x e.y hp.1.1 hp.1.2 hp.2.1 hp.2.2 hL hL).mF ?_)));by_cases hin:tN e.X.nr∧tN e.Y.nr
   ·rw[if_pos hin]at he⊢;refine aO [] 35 ((0:Int) != 0) rfl (cW [35] 1 [.int .i64 e.X.nr,.int .i64 e.Y.nr] bK (fun b8=>W.app [] ((FO fb cs bn cn dn most (aY s0)++O)++O2) (FO fb cs bn cn dn most (aY s0)++O) O2 [] 2 16 acc.length 1 (aY s) (.slice (some ⟨b8,0,none⟩) 1 1) (acc.flatMap ed) [.int .i64 e.X.nr,.int .i64 e.Y.nr] bK M5 (cg b8 _ 1 2 rfl 1) (by simp[Value.oneCell']) (fun v' O' hg'=>?_)));obtain⟨s',rfl⟩:=iz hg';rw[ai];refine close [] _ _ ⟨j+1,IntKind.i64.wrap (z+1),acc++[⟨e.X.nr,e.Y.nr⟩],s',O'⟩ (by kernel_rfl) (by kernel_rfl) ⟨by simp only[af];omega,hlt,by simp[Cv],?_,?_⟩ (by simp only;omega) (eC eK (eC eK eE))
    ·rw[br,aA];exact hg'
    ·rw[he];cases gS ((l.map j4.num).drop (j+1))<;>simp
   ·rw[if_neg hin]at he⊢;refine bh [] 35 ((26:Int) != 0) rfl (rI (FO fb cs bn cn dn most (aY s0)++O) O2 [] (by rw[ai];kernel_rfl) (rJ (FO fb cs bn cn dn most (aY s0)++O) ?_));have hsp:iU x (l.map j4.num)=.error 26:=by unfold iU;rw[he]
    exact ku [35] (.int .i64 26) (FO fb cs bn cn dn most (aY s0)++O) [] ⟨rfl,s0,O,[],fun s h=>by rw[hsp]at h;simp at h,by rw[hsp];rfl,rfl,by rw[ai];exact hg,rfl⟩ (eC (by rw[ai];exact eK) eE)
  ·rw[bp (by rw[bM];omega)]at he;simp only[gS,ai]at he;refine aO [] 26 (decide (z<(l.length:Int))) (ak (by omega)) (l9 (FO fb cs bn cn dn most (aY s0)++O) O2 [] (by rw[ai];kernel_rfl) M5 (fun g5 g1 g2=>rJ (FO fb cs bn cn dn most (aY s0)++O) (bN [26] 5 fb 0 bK (dS [] (FO fb cs bn cn dn most (aY s0)++O) fb (0+5) 1 [aY cs,.map (some bn),.map (some cn),.map (some dn),.int .i64 most,aY s0] (aY s0) bK (.head _) rfl (cW [] 1 [.int .i64 (cC x 13 0),.int .i64 (mC x),aY s] bK (fun b9=>W.app [] (FO fb cs bn cn dn most (aY s0)++O) (FO fb cs bn cn dn most (aY s0)) O [] 3 40 es.length 1 (aY s0) (.slice (some ⟨b9,0,none⟩) 1 1) (es.flatMap k8.cells) [.int .i64 (cC x 13 0),.int .i64 (mC x),aY s] bK hg (cg b9 _ 1 3 rfl 1) (by simp[Value.oneCell']) (fun v' O' hg'=>?_)))))));obtain⟨s',rfl⟩:=iz hg';rw[ai (FO fb cs bn cn dn most (aY s0)++O')];refine bN [] 5 fb 0 bK (oF [] (FO fb cs bn cn dn most (aY s0)++O') [] O' 1 fb (0+5) [aY cs,.map (some bn),.map (some cn),.map (some dn),.int .i64 most,aY s0] (aY s') [aY cs,.map (some bn),.map (some cn),.map (some dn),.int .i64 most,aY s'] bK rfl rfl (by simp[Value.cells,Value.oneCell']) (aj _) rfl ?_);have hsp:iU x (l.map j4.num)=.ok [⟨cC x 13 0,mC x,acc⟩]:=by unfold iU;rw[he];rfl
   refine ku [] (.int .i64 0) (FO fb cs bn cn dn most (aY s')++O') [] ⟨rfl,s',O',[⟨s,⟨cC x 13 0,mC x,acc⟩⟩],fun q h=>by rw[hsp]at h;injection h,by rw[hsp];rfl,rfl,?_,rfl⟩ (fun I w _ hh=>?_)
   ·rw[br,aA];exact hg'
   ·have g:=aZ.p (k:=lU k8 (aY s0)) (a:=es) inferInstance hh;have ga:=aZ.p (k:=RA s.ao) (a:=acc.flatMap ed) inferInstance hh;exact aT (lU.snoc (v:=aY s0) g ⟨g5,⟨g1,g2⟩,ga⟩)
 ·have hK:mC x=cC x 14 0:=by unfold mC;rw[if_neg h45]
  refine aO [] 19 (cz x==45) (by simpa using h45) ?_;rw[←hK];refine jO [19] Tryz.f87 0 54 54 [0,7,23,24,6,25] [7] (shU fb ao l.length c) (shX (cC x 13 0) (mC x)) (fun a=>(FO fb cs bn cn dn most (aY s0)++O)++a.O) (fun _=>[]) (fun a=>[OL gH ao (L,l),lU k8 (aY s0) es]) (fun a=>a.z=a.j∧a.j≤l.length∧a.a.length=a.j∧cH 2 a.O (aY a.s) a.a.length (a.a.flatMap ed)∧gS (l.map j4.num)=(match gS ((l.map j4.num).drop a.j)with
   | .ok r=>.ok (a.a++r)
   | .error e=>.error e)) (fun a=>l.length-a.j) ⟨0,0,[],⟨none,0,0⟩,[]⟩ (h0:=(by simp only[ai];kernel_rfl)) ⟨rfl,aH _,rfl,cH.nil 2,by simp only[h_,az];cases gS (l.map j4.num)<;>rfl⟩ (eC eK (eC eK eE)) ?_
  rintro⟨j,z,acc,s,O2⟩ K ⟨hz,hj,Cv,M5,he⟩ close;simp only at hz hj Cv M5 he;by_cases hlt:j<l.length
  ·obtain⟨e,hq⟩:∃e,l[j]? =some e:=⟨_,ah hlt⟩;have Kn:=EF hq;have hp:=hok _ (aM Kn);rw[wg Kn]at he;refine R5 ao hq rfl (fun b off ha=>?_);subst ha;refine bh [] 26 (decide (z<(l.length:Int))) (ar (by omega)) (bI [26] 40 b off l.length c .i64 j z hz bK hlt (cJ [] b (off+j*40) (gH.cells e) bK (Ab b off hq) (W.c0 [] (PY e.x e.y hp.1.1 hp.1.2 hp.2.1 hp.2.2 hL hL).mF ?_)));by_cases hin:tN e.X.nr∧tN e.Y.nr
   ·rw[if_pos hin]at he⊢;refine aO [] 35 ((0:Int) != 0) rfl (cW [35] 1 [.int .i64 e.X.nr,.int .i64 e.Y.nr] bK (fun b8=>W.app [] ((FO fb cs bn cn dn most (aY s0)++O)++O2) (FO fb cs bn cn dn most (aY s0)++O) O2 [] 2 16 acc.length 1 (aY s) (.slice (some ⟨b8,0,none⟩) 1 1) (acc.flatMap ed) [.int .i64 e.X.nr,.int .i64 e.Y.nr] bK M5 (cg b8 _ 1 2 rfl 1) (by simp[Value.oneCell']) (fun v' O' hg'=>?_)));obtain⟨s',rfl⟩:=iz hg';rw[ai];refine close [] _ _ ⟨j+1,IntKind.i64.wrap (z+1),acc++[⟨e.X.nr,e.Y.nr⟩],s',O'⟩ (by kernel_rfl) (by kernel_rfl) ⟨by simp only[af];omega,hlt,by simp[Cv],?_,?_⟩ (by simp only;omega) (eC eK (eC eK eE))
    ·rw[br,aA];exact hg'
    ·rw[he];cases gS ((l.map j4.num).drop (j+1))<;>simp
   ·rw[if_neg hin]at he⊢;refine bh [] 35 ((26:Int) != 0) rfl (rI (FO fb cs bn cn dn most (aY s0)++O) O2 [] (by rw[ai];kernel_rfl) (rJ (FO fb cs bn cn dn most (aY s0)++O) ?_));have hsp:iU x (l.map j4.num)=.error 26:=by unfold iU;rw[he]
    exact ku [35] (.int .i64 26) (FO fb cs bn cn dn most (aY s0)++O) [] ⟨rfl,s0,O,[],fun s h=>by rw[hsp]at h;simp at h,by rw[hsp];rfl,rfl,by rw[ai];exact hg,rfl⟩ (eC (by rw[ai];exact eK) eE)
  ·rw[bp (by rw[bM];omega)]at he;simp only[gS,ai]at he;refine aO [] 26 (decide (z<(l.length:Int))) (ak (by omega)) (l9 (FO fb cs bn cn dn most (aY s0)++O) O2 [] (by rw[ai];kernel_rfl) M5 (fun g5 g1 g2=>rJ (FO fb cs bn cn dn most (aY s0)++O) (bN [26] 5 fb 0 bK (dS [] (FO fb cs bn cn dn most (aY s0)++O) fb (0+5) 1 [aY cs,.map (some bn),.map (some cn),.map (some dn),.int .i64 most,aY s0] (aY s0) bK (.head _) rfl (cW [] 1 [.int .i64 (cC x 13 0),.int .i64 (mC x),aY s] bK (fun b9=>W.app [] (FO fb cs bn cn dn most (aY s0)++O) (FO fb cs bn cn dn most (aY s0)) O [] 3 40 es.length 1 (aY s0) (.slice (some ⟨b9,0,none⟩) 1 1) (es.flatMap k8.cells) [.int .i64 (cC x 13 0),.int .i64 (mC x),aY s] bK hg (cg b9 _ 1 3 rfl 1) (by simp[Value.oneCell']) (fun v' O' hg'=>?_)))))));obtain⟨s',rfl⟩:=iz hg';rw[ai (FO fb cs bn cn dn most (aY s0)++O')];refine bN [] 5 fb 0 bK (oF [] (FO fb cs bn cn dn most (aY s0)++O') [] O' 1 fb (0+5) [aY cs,.map (some bn),.map (some cn),.map (some dn),.int .i64 most,aY s0] (aY s') [aY cs,.map (some bn),.map (some cn),.map (some dn),.int .i64 most,aY s'] bK rfl rfl (by simp[Value.cells,Value.oneCell']) (aj _) rfl ?_);have hsp:iU x (l.map j4.num)=.ok [⟨cC x 13 0,mC x,acc⟩]:=by unfold iU;rw[he];rfl
   refine ku [] (.int .i64 0) (FO fb cs bn cn dn most (aY s')++O') [] ⟨rfl,s',O',[⟨s,⟨cC x 13 0,mC x,acc⟩⟩],fun q h=>by rw[hsp]at h;injection h,by rw[hsp];rfl,rfl,?_,rfl⟩ (fun I w _ hh=>?_)
   ·rw[br,aA];exact hg'
   ·have g:=aZ.p (k:=lU k8 (aY s0)) (a:=es) inferInstance hh;have ga:=aZ.p (k:=RA s.ao) (a:=acc.flatMap ed) inferInstance hh;exact aT (lU.snoc (v:=aY s0) g ⟨g5,⟨g1,g2⟩,ga⟩)
end
theorem pO:∀{ks:List Int} {l x m:List Re},dq ks l=some (x,m)→∀r∈x,∃k∈ks,r.k=k % 256
 | [],l,x,m,h,r,hr=>by
  simp only[dq,aq,aG]at h;rw[←h.1]at hr;simp at hr
 |k::ks,l,x,m,h,r,hr=>by
  unfold dq at h;split at h
  ·split at h
   ·rename_i r1 m1 h1;split at h
    ·rename_i rs m2 h2;simp only[aq,aG]at h;obtain⟨rfl,rfl⟩:=h;simp only[aF]at hr;rcases hr with rfl|hr
     ·exact⟨k,by simp,(fO h1).2.1⟩
     ·obtain⟨k',h3,h4⟩:=pO h2 r hr;exact⟨k',by simp[h3],h4⟩
    ·simp at h
   ·simp at h
  ·obtain⟨k',h3,h4⟩:=pO h r hr;exact⟨k',by simp[h3],h4⟩
theorem Pj{x:Im}(h:ju x)(hk:cz x=10∨cz x=11)(YB:dJ x 27≠none):5≤x.f.length:=by
 obtain⟨r,f,m,hf,_,hp⟩:=h.fields;have hr:r.k=cz x:=by unfold cz;rw[hf];rfl
 obtain⟨q,hq⟩:∃q,dJ x 27=some q:=by
  cases hfo:dJ x 27 with
  |none=>exact absurd hfo YB
  |some q=>exact⟨q,rfl⟩
 obtain⟨qm,qk⟩:=kO hq;obtain⟨a,b,m1,h1,h2,hx⟩:=lJ hp;have hrk:0≤r.k∧r.k<256:=by omega
 obtain⟨ra,a',rfl,_,_⟩:=ns (hk:=hrk) h1;have na:q∉ra::a':=fun hm=>by
  obtain⟨k,hk',e⟩:=pO h1 q hm;simp only[aF,aJ,b_]at hk';rcases hk' with rfl|rfl|rfl<;>omega
 have key:∀ks:List Int,(∀k∈ks,k % 256≠27)→(∃k ks',ks=k::ks'∧0≤k∧k<256)→fP (dq [18]) (fP jI (dq ks)) m1=some (b,m)→5≤x.f.length:=by
  intro ks hks ⟨k0,ks',hk0,hk1⟩ hh;obtain⟨b1,c,m2,g1,g2,rfl⟩:=lJ hh;obtain⟨b2,b3,m3,g3,g4,rfl⟩:=lJ g2;obtain⟨r1,b1',rfl,_,_⟩:=ns g1;rw[hk0]at g4 hks;obtain⟨r3,b3',rfl,_,_⟩:=ns (hk:=hk1) g4;have n1:q∉r1::b1':=fun hm=>by
   obtain⟨k,hk',e⟩:=pO g1 q hm;simp only[aF,aJ,b_]at hk';omega
  have n3:q∉r3::b3':=fun hm=>by
   obtain⟨k,hk',e⟩:=pO g4 q hm;exact hks k hk' (by omega)
  rw[hx]at qm;simp only[eA]at qm;have q2:q∈b2:=by
   rcases qm with Ku|Ku|Ku|Ku
   ·exact absurd Ku na
   ·exact absurd Ku n1
   ·exact Ku
   ·exact absurd Ku n3
  unfold jI at g3;split at g3
  ·obtain⟨r2,b2',rfl,hk2,_⟩:=ns g3;simp only[aF]at q2;rcases q2 with rfl|q2
   ·omega
   ·have:0<b2'.length:=List.length_pos_of_mem q2;rw[hx];simp only[aA,aB];omega
  ·simp only[aq,aG]at g3;rw[←g3.1]at q2;simp at q2
 rcases hk with hk|hk<;>rw[hr,hk]at h2
 ·exact key [16] (by decide) ⟨16,[],rfl,by decide⟩ h2
 ·exact key [19,16] (by decide) ⟨19,[16],rfl,by decide⟩ h2
def wI(x:Im):Nat:=4+x.f.length
def wC(t:List Ce)(c:Nat):Nat:=((iA t c).map wI).foldl max 0
theorem LX{l:List Nat}:∀{a:Nat},a≤l.foldl max a∧∀x∈l,x≤l.foldl max a:=by
 induction l with
 |nil=>intro a;exact⟨aj _,fun x hx=>by simp at hx⟩
 |cons y l ih=>
  intro a;simp only[oU];obtain⟨h1,h2⟩:=ih (a:=max a y);refine⟨by omega,fun x hx=>?_⟩;simp only[aF]at hx;rcases hx with rfl|hx
  ·omega
  ·exact h2 x hx
theorem aa4{t:List Ce}{c:Nat}{x:Im}(h:x∈iA t c):wI x≤wC t c:=LX.2 _ (List.mem_map.2 ⟨x,h,rfl⟩)
theorem PH{x:Im}(ho:ju x)(h:∀r∈x.f,Nh r)(hk:cz x=10∨cz x=11)(hc:0<(bJ x).1)(hr:0<(bJ x).2){i k:Int}(hi:0≤i∧i<(bJ x).1)(hk':0≤k∧k<(bJ x).2):∃e,sH e (tX x i k)∧e+4≤45*wI x:=by
 unfold wI;cases YB:dJ x 27 with
 |none=>exact⟨64,MA h YB hc hr hi hk',by omega⟩
 |some r=>
  have:=Pj ho hk (by rw[YB];simp);exact⟨376,PI rfl h hc hr hi hk',by omega⟩
open Classical in
noncomputable def TU (t:List Ce) (d:Nat):Nat:=((List.range t.length).map fun j=>if ∃e,d<e∧sY t j e then wC t j else 0).sum
theorem Rh{t:List Ce}{i d d':Nat}(hi:i<t.length)(h:sY t i d)(hd:d'<d):TU t d+wC t i≤TU t d':=by
 unfold TU;refine su (c:=i) (by simpa using hi) (fun j _=>?_) ?_
 ·by_cases hj:∃e,d<e∧sY t j e
  ·obtain⟨e,h1,h2⟩:=hj;rw[if_pos ⟨e,h1,h2⟩,if_pos ⟨e,by omega,h2⟩];exact aj _
  ·rw[if_neg hj];exact aH _
 ·have hno:¬ ∃e,d<e∧sY t i e:=fun⟨e,h1,h2⟩=>by
   have:=h.uniq h2;omega
  rw[if_neg hno,if_pos ⟨d,hd,h⟩];omega
def uE(t:List Ce):Nat:=((List.range t.length).map (wC t)).sum
theorem Rg{t:List Ce}{d:Nat}:TU t d≤uE t:=by
 unfold TU uE;generalize List.range t.length=l
 induction l with
 |nil=>exact aj _
 |cons a l ih=>
  simp only[bQ,dC];split<;>omega
theorem sq{α:Type}{f g:α→LR}:∀{l:List α},(∀a∈l,f a=g a)→gl f l=gl g l
 | [],_=>rfl
 |a::l,h=>by
  unfold gl;rw[h a (by simp),sq (fun b hb=>h b (by simp[hb]))]
theorem Bf{t:List Ce}:∀{n c d:Nat},dep t n c=some d→∀V,fL t (n+1) c V=fL t n c V
 |0,c,d,h,V=>by simp[dep]at h
 |n+1,c,d,h,V=>by
  have hr:∃r,js (dep t n) (eS t c) 0=some r:=by
   unfold dep at h;cases hq:js (dep t n) (eS t c) 0 with
   |none=>rw[hq]at h;simp at h
   |some r=>exact⟨r,rfl⟩
  obtain⟨r,hr⟩:=hr;unfold fL;refine sq fun x hx=>?_;unfold jN nv;cases hk:j6 t x with
  |none=>rfl
  |some k=>
   have hkm:k∈eS t c:=List.mem_filterMap.2 ⟨x,hx,hk⟩;obtain⟨e,he,_⟩:=(lC hr).2 k hkm;simp only;rw[wU he];have hg:∀V',fL t (n+1) k V'=fL t n k V':=Bf he;split
   ·rfl
   ·split
    ·rfl
    ·split
     ·split
      ·rfl
      ·exact sq fun a _=>sq fun b _=>hg _
     ·rfl
theorem An.lay64{t:List Ce}(h:An t){i:Nat}(hi:i<t.length)(V:On):fL t 64 i V=gl (jN t 64 (fL t 64) V) (iA t i):=by
 obtain⟨d,hd⟩:=h.deep i hi;rw[←Bf hd V];rfl
section
variable{T:Tb}{Γ:List aC}
theorem gL(b:Nat){row:List Value} [h:aZ (eT b) row Γ]{i:Nat}{v:Value}(hv:row[i]? =some v):∀I w,bj T I w→aD Γ I w→w.cell? ⟨b,i,none⟩=some v:=fun I w _ hh=>by
 have:=RA.cell (RA.of_row (h.p hh) (fun _ _ q=>q)) hv
 rwa [bU]at this
end
section
variable{Γ:List aC}
theorem BI(a b:Int):aw tb Tryz.prog 157 [.agg #[.int .i64 a,.int .i64 b]] Γ (jy (.int .i64 a)):=by
 refine aw.of_W au Tryz.func157 rfl (W.r [] (.int .i64 a) ⟨rfl,rfl⟩ bX)
theorem Xx(b1 b2 b3:Nat)(i k cols rows:Int)(u:Sl){p:List Dp} [aZ (eT b1) [aY u] Γ] [aZ (eT b2) [.int .i64 cols] Γ] [aZ (eT b3) [.int .i64 rows] Γ] [aZ (sS u) p Γ](hp:p.length=1∨p.length=3)
  (hin:∀d∈p,(-2147483648≤d.x∧d.x≤2147483647)∧ -2147483648≤d.y∧d.y≤2147483647)(hi:0≤i∧i≤32767)(hk:0≤k∧k≤32767)(hc:1≤cols∧cols≤32767)(hr:1≤rows∧rows≤32767):
  aw tb Tryz.prog 153 [.func (.func 157) #[] #[],.int .i64 i,.int .i64 k,.pointer (some ⟨b1,0,none⟩),.pointer (some ⟨b2,0,none⟩),.pointer (some ⟨b3,0,none⟩)] Γ (s9 30 (pH Dp.x p cols rows i k)):=by
 refine aw.of_W au Tryz.func153 rfl (CK u (l:=p) rfl (fun g1 g2 g3=>?_));have oP:p≠ []:=fun e=>by rw[e]at hp;simp at hp
 obtain⟨pb,off,hao⟩:=g3 oP;obtain⟨ua,un,uc⟩:=u;simp only at g1 g2 hao;subst hao;have at':∀j,j<p.length→p[j]? =some (p.getD j ⟨0,0⟩):=fun j hj=>uV p j ⟨0,0⟩ (h:=hj);have bd:∀j,j<p.length→ -2147483648≤(p.getD j ⟨0,0⟩).x∧(p.getD j ⟨0,0⟩).x≤2147483647:=fun j hj=>(hin _ (aM (at' j hj))).1;have h0:=bd 0 (by omega);refine cX [] 1 b1 0 (.slice (some ⟨pb,off,none⟩) un uc) au (gL b1 rfl) (bI [] 2 pb off un uc .i64 0 0 rfl au (by omega) (cJ [] pb (off+0*2) (ed (p.getD 0 ⟨0,0⟩)) au (fun I w hd hh j v hv=>kH pb off un uc (at' 0 (by omega)) I w hd hh j v hv) (W.c0 [] (BI (p.getD 0 ⟨0,0⟩).x (p.getD 0 ⟨0,0⟩).y) (bR [] (dW (p.getD 0 ⟨0,0⟩).x) (fun u5 d5=>bz [] (cD u5 d5) (fun n6 a6 m6 b6=>cX [] 1 b1 0 (.slice (some ⟨pb,off,none⟩) un uc) au (gL b1 rfl) ?_))))));by_cases h3:p.length=3
 ·have h1:=bd 1 (by omega);have h2:=bd 2 (by omega);have UA:∀{x y c:Int},(-2147483648≤x∧x≤2147483647)→(-2147483648≤y∧y≤2147483647)→(0≤c∧c≤32767)→IntKind.i64.wrap (IntKind.i64.wrap (x-y)*c)=(x-y)*c∧ -9223372036854775808≤(x-y)*c∧(x-y)*c<9223372036854775808:=fun{x y c} e1 e2 e3=>by
   have w1:IntKind.i64.wrap (x-y)=x-y:=i64_in _ (by omega);rw[w1];have a1:(x-y)*c≤4294967295*32767:=vu (kY (show x-y≤4294967295 by omega) e3.1) (lx e3.2 (by decide));have a2: -4294967295*32767≤(x-y)*c:=by
    have b1: -4294967295*c≤(x-y)*c:=kY (by omega) e3.1;omega
   exact⟨i64_in _ (by omega),by omega,by omega⟩
  obtain⟨w1,w2,w3⟩:=UA h1 h0 hi;obtain⟨v1,v2,v3⟩:=UA h2 h0 hk;have hown:pH Dp.x p cols rows i k=(((p.getD 0 ⟨0,0⟩).x:Rat)+Rat.divInt (((p.getD 1 ⟨0,0⟩).x-(p.getD 0 ⟨0,0⟩).x)*i) cols)+Rat.divInt (((p.getD 2 ⟨0,0⟩).x-(p.getD 0 ⟨0,0⟩).x)*k) rows:=by unfold pH;rw[if_pos h3];rfl
  rw[hown];obtain⟨A,hA⟩:∃A,((p.getD 1 ⟨0,0⟩).x-(p.getD 0 ⟨0,0⟩).x)*i=A:=⟨_,rfl⟩;obtain⟨B,hB⟩:∃B,((p.getD 2 ⟨0,0⟩).x-(p.getD 0 ⟨0,0⟩).x)*k=B:=⟨_,rfl⟩;rw[hA]at w1 w2 w3⊢;rw[hB]at v1 v2 v3⊢;have q1:∀Γ':List aC,aw tb Tryz.prog 154 [.int .i64 (IntKind.i64.wrap (IntKind.i64.wrap ((p.getD 1 ⟨0,0⟩).x-(p.getD 0 ⟨0,0⟩).x)*i)),.int .i64 cols] Γ' (Uc 2 (Rat.divInt A cols)):=fun Γ'=>by
   rw[w1];exact BH A cols
  have q2:∀Γ':List aC,aw tb Tryz.prog 154 [.int .i64 (IntKind.i64.wrap (IntKind.i64.wrap ((p.getD 2 ⟨0,0⟩).x-(p.getD 0 ⟨0,0⟩).x)*k)),.int .i64 rows] Γ' (Uc 2 (Rat.divInt B rows)):=fun Γ'=>by
   rw[v1];exact BH B rows
  refine bh [] 24 ((un:Int)==3) (by rw[g1,h3];rfl) (cX [24] 1 b1 0 (.slice (some ⟨pb,off,none⟩) un uc) au (gL b1 rfl) (bI [] 2 pb off un uc .i64 1 1 rfl au (by omega) (cJ [] pb (off+1*2) (ed (p.getD 1 ⟨0,0⟩)) au (fun I w hd hh j v hv=>kH pb off un uc (at' 1 (by omega)) I w hd hh j v hv) (cX [] 1 b1 0 (.slice (some ⟨pb,off,none⟩) un uc) au (gL b1 rfl) (bI [] 2 pb off un uc .i64 0 0 rfl au (by omega) (cJ [] pb (off+0*2) (ed (p.getD 0 ⟨0,0⟩)) au (fun I w hd hh j v hv=>kH pb off un uc (at' 0 (by omega)) I w hd hh j v hv) (cX [] 1 b2 0 (.int .i64 cols) au (gL b2 rfl) (W.c0 [] (BI (p.getD 1 ⟨0,0⟩).x (p.getD 1 ⟨0,0⟩).y) (W.c0 [] (BI (p.getD 0 ⟨0,0⟩).x (p.getD 0 ⟨0,0⟩).y) (bz [] (q1 _) (fun n17 a17 m17 b17=>?_)))))))))));refine cX [] 1 b1 0 (.slice (some ⟨pb,off,none⟩) un uc) au (gL b1 rfl) (bI [] 2 pb off un uc .i64 2 2 rfl au (by omega) (cJ [] pb (off+2*2) (ed (p.getD 2 ⟨0,0⟩)) au (fun I w hd hh j v hv=>kH pb off un uc (at' 2 (by omega)) I w hd hh j v hv) (cX [] 1 b1 0 (.slice (some ⟨pb,off,none⟩) un uc) au (gL b1 rfl) (bI [] 2 pb off un uc .i64 0 0 rfl au (by omega) (cJ [] pb (off+0*2) (ed (p.getD 0 ⟨0,0⟩)) au (fun I w hd hh j v hv=>kH pb off un uc (at' 0 (by omega)) I w hd hh j v hv) ?_)))))
  refine cX [] 1 b3 0 (.int .i64 rows) au (gL b3 rfl) (W.c0 [] (BI (p.getD 2 ⟨0,0⟩).x (p.getD 2 ⟨0,0⟩).y) (W.c0 [] (BI (p.getD 0 ⟨0,0⟩).x (p.getD 0 ⟨0,0⟩).y) (bz [] (q2 _) (fun n27 a27 m27 b27=>bz [] (fz n6 a6 m6 b6 n17 a17 m17 b17) (fun n28 a28 m28 b28=>bz [] (fz n28 a28 m28 b28 n27 a27 m27 b27) (fun n29 a29 m29 b29=>W.r [] (qv n29 a29 m29 b29) ⟨_,_,_,_,rfl,rfl⟩ (pq rfl)))))))
 ·have hown:pH Dp.x p cols rows i k=((p.getD 0 ⟨0,0⟩).x:Rat):=by unfold pH;rw[if_neg h3]
  rw[hown];refine aO [] 24 ((un:Int)==3) (by rw[cP];omega) (W.r [24] (qv n6 a6 m6 b6) ⟨_,_,_,_,rfl,rfl⟩ (pq rfl))
theorem BJ(a b:Int):aw tb Tryz.prog 158 [.agg #[.int .i64 a,.int .i64 b]] Γ (jy (.int .i64 b)):=by
 refine aw.of_W au Tryz.func158 rfl (W.r [] (.int .i64 b) ⟨rfl,rfl⟩ bX)
theorem Xy(b1 b2 b3:Nat)(i k cols rows:Int)(u:Sl){p:List Dp} [aZ (eT b1) [aY u] Γ] [aZ (eT b2) [.int .i64 cols] Γ] [aZ (eT b3) [.int .i64 rows] Γ] [aZ (sS u) p Γ](hp:p.length=1∨p.length=3)
  (hin:∀d∈p,(-2147483648≤d.x∧d.x≤2147483647)∧ -2147483648≤d.y∧d.y≤2147483647)(hi:0≤i∧i≤32767)(hk:0≤k∧k≤32767)(hc:1≤cols∧cols≤32767)(hr:1≤rows∧rows≤32767):
  aw tb Tryz.prog 153 [.func (.func 158) #[] #[],.int .i64 i,.int .i64 k,.pointer (some ⟨b1,0,none⟩),.pointer (some ⟨b2,0,none⟩),.pointer (some ⟨b3,0,none⟩)] Γ (s9 30 (pH Dp.y p cols rows i k)):=by
 refine aw.of_W au Tryz.func153 rfl (CK u (l:=p) rfl (fun g1 g2 g3=>?_));have oP:p≠ []:=fun e=>by rw[e]at hp;simp at hp
 obtain⟨pb,off,hao⟩:=g3 oP;obtain⟨ua,un,uc⟩:=u;simp only at g1 g2 hao;subst hao;have at':∀j,j<p.length→p[j]? =some (p.getD j ⟨0,0⟩):=fun j hj=>uV p j ⟨0,0⟩ (h:=hj);have bd:∀j,j<p.length→ -2147483648≤(p.getD j ⟨0,0⟩).y∧(p.getD j ⟨0,0⟩).y≤2147483647:=fun j hj=>(hin _ (aM (at' j hj))).2;have h0:=bd 0 (by omega);refine cX [] 1 b1 0 (.slice (some ⟨pb,off,none⟩) un uc) au (gL b1 rfl) (bI [] 2 pb off un uc .i64 0 0 rfl au (by omega) (cJ [] pb (off+0*2) (ed (p.getD 0 ⟨0,0⟩)) au (fun I w hd hh j v hv=>kH pb off un uc (at' 0 (by omega)) I w hd hh j v hv) (W.c0 [] (BJ (p.getD 0 ⟨0,0⟩).x (p.getD 0 ⟨0,0⟩).y) (bR [] (dW (p.getD 0 ⟨0,0⟩).y) (fun u5 d5=>bz [] (cD u5 d5) (fun n6 a6 m6 b6=>cX [] 1 b1 0 (.slice (some ⟨pb,off,none⟩) un uc) au (gL b1 rfl) ?_))))));by_cases h3:p.length=3
 ·have h1:=bd 1 (by omega);have h2:=bd 2 (by omega);have UA:∀{x y c:Int},(-2147483648≤x∧x≤2147483647)→(-2147483648≤y∧y≤2147483647)→(0≤c∧c≤32767)→IntKind.i64.wrap (IntKind.i64.wrap (x-y)*c)=(x-y)*c∧ -9223372036854775808≤(x-y)*c∧(x-y)*c<9223372036854775808:=fun{x y c} e1 e2 e3=>by
   have w1:IntKind.i64.wrap (x-y)=x-y:=i64_in _ (by omega);rw[w1];have a1:(x-y)*c≤4294967295*32767:=vu (kY (show x-y≤4294967295 by omega) e3.1) (lx e3.2 (by decide));have a2: -4294967295*32767≤(x-y)*c:=by
    have b1: -4294967295*c≤(x-y)*c:=kY (by omega) e3.1;omega
   exact⟨i64_in _ (by omega),by omega,by omega⟩
  obtain⟨w1,w2,w3⟩:=UA h1 h0 hi;obtain⟨v1,v2,v3⟩:=UA h2 h0 hk;have hown:pH Dp.y p cols rows i k=(((p.getD 0 ⟨0,0⟩).y:Rat)+Rat.divInt (((p.getD 1 ⟨0,0⟩).y-(p.getD 0 ⟨0,0⟩).y)*i) cols)+Rat.divInt (((p.getD 2 ⟨0,0⟩).y-(p.getD 0 ⟨0,0⟩).y)*k) rows:=by unfold pH;rw[if_pos h3];rfl
  rw[hown];obtain⟨A,hA⟩:∃A,((p.getD 1 ⟨0,0⟩).y-(p.getD 0 ⟨0,0⟩).y)*i=A:=⟨_,rfl⟩;obtain⟨B,hB⟩:∃B,((p.getD 2 ⟨0,0⟩).y-(p.getD 0 ⟨0,0⟩).y)*k=B:=⟨_,rfl⟩;rw[hA]at w1 w2 w3⊢;rw[hB]at v1 v2 v3⊢;have q1:∀Γ':List aC,aw tb Tryz.prog 154 [.int .i64 (IntKind.i64.wrap (IntKind.i64.wrap ((p.getD 1 ⟨0,0⟩).y-(p.getD 0 ⟨0,0⟩).y)*i)),.int .i64 cols] Γ' (Uc 2 (Rat.divInt A cols)):=fun Γ'=>by
   rw[w1];exact BH A cols
  have q2:∀Γ':List aC,aw tb Tryz.prog 154 [.int .i64 (IntKind.i64.wrap (IntKind.i64.wrap ((p.getD 2 ⟨0,0⟩).y-(p.getD 0 ⟨0,0⟩).y)*k)),.int .i64 rows] Γ' (Uc 2 (Rat.divInt B rows)):=fun Γ'=>by
   rw[v1];exact BH B rows
  refine bh [] 24 ((un:Int)==3) (by rw[g1,h3];rfl) (cX [24] 1 b1 0 (.slice (some ⟨pb,off,none⟩) un uc) au (gL b1 rfl) (bI [] 2 pb off un uc .i64 1 1 rfl au (by omega) (cJ [] pb (off+1*2) (ed (p.getD 1 ⟨0,0⟩)) au (fun I w hd hh j v hv=>kH pb off un uc (at' 1 (by omega)) I w hd hh j v hv) (cX [] 1 b1 0 (.slice (some ⟨pb,off,none⟩) un uc) au (gL b1 rfl) (bI [] 2 pb off un uc .i64 0 0 rfl au (by omega) (cJ [] pb (off+0*2) (ed (p.getD 0 ⟨0,0⟩)) au (fun I w hd hh j v hv=>kH pb off un uc (at' 0 (by omega)) I w hd hh j v hv) (cX [] 1 b2 0 (.int .i64 cols) au (gL b2 rfl) (W.c0 [] (BJ (p.getD 1 ⟨0,0⟩).x (p.getD 1 ⟨0,0⟩).y) (W.c0 [] (BJ (p.getD 0 ⟨0,0⟩).x (p.getD 0 ⟨0,0⟩).y) (bz [] (q1 _) (fun n17 a17 m17 b17=>?_)))))))))));refine cX [] 1 b1 0 (.slice (some ⟨pb,off,none⟩) un uc) au (gL b1 rfl) (bI [] 2 pb off un uc .i64 2 2 rfl au (by omega) (cJ [] pb (off+2*2) (ed (p.getD 2 ⟨0,0⟩)) au (fun I w hd hh j v hv=>kH pb off un uc (at' 2 (by omega)) I w hd hh j v hv) (cX [] 1 b1 0 (.slice (some ⟨pb,off,none⟩) un uc) au (gL b1 rfl) (bI [] 2 pb off un uc .i64 0 0 rfl au (by omega) (cJ [] pb (off+0*2) (ed (p.getD 0 ⟨0,0⟩)) au (fun I w hd hh j v hv=>kH pb off un uc (at' 0 (by omega)) I w hd hh j v hv) ?_)))))
  refine cX [] 1 b3 0 (.int .i64 rows) au (gL b3 rfl) (W.c0 [] (BJ (p.getD 2 ⟨0,0⟩).x (p.getD 2 ⟨0,0⟩).y) (W.c0 [] (BJ (p.getD 0 ⟨0,0⟩).x (p.getD 0 ⟨0,0⟩).y) (bz [] (q2 _) (fun n27 a27 m27 b27=>bz [] (fz n6 a6 m6 b6 n17 a17 m17 b17) (fun n28 a28 m28 b28=>bz [] (fz n28 a28 m28 b28 n27 a27 m27 b27) (fun n29 a29 m29 b29=>W.r [] (qv n29 a29 m29 b29) ⟨_,_,_,_,rfl,rfl⟩ (pq rfl)))))))
 ·have hown:pH Dp.y p cols rows i k=((p.getD 0 ⟨0,0⟩).y:Rat):=by unfold pH;rw[if_neg h3]
  rw[hown];refine aO [] 24 ((un:Int)==3) (by rw[cP];omega) (W.r [24] (qv n6 a6 m6 b6) ⟨_,_,_,_,rfl,rfl⟩ (pq rfl))
end
end Go.Proofs.YtgaaopjagcaojaaGreat
