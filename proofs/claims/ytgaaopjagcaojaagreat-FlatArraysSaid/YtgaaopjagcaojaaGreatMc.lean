import Derived.Test.YtgaaopjagcaojaaGreatRo
set_option linter.unusedSimpArgs false
set_option linter.unusedVariables false
set_option maxHeartbeats 4000000
namespace Go.Proofs.YtgaaopjagcaojaaGreat
open Go.RowKit Go.IntWalk
theorem cO.ap{N K M J:Nat}{V:On}(h:cO N K V)(hK:N≤K){x y z w:Rat}(hx:cq M J x)(hy:cq M J y)(hz:cq M J z)(hw:cq M J w):
  cq (2*(M*N)) (8*(J*K)+2*(M*K)) (V.u0 x y z w)∧cq (2*(M*N)) (8*(J*K)+2*(M*K)) (V.u1 x y z w)∧cq (2*(M*N)) (8*(J*K)+2*(M*K)) (V.v0 x y z w)∧cq (2*(M*N)) (8*(J*K)+2*(M*K)) (V.v1 x y z w):=by
 have hm:=h.mag hK;obtain⟨_,h2,h3,h4,h5⟩:=h;have c1:=Xv V.o;have c2:=Xw V.o;have c3:=PQ V.o;have c4:=PU V.o;have x:=hx.mul hm;have y:=hy.mul hm;have z:=(hz.sg (V:=V)).mul hm;have w:=(hw.sg (V:=V)).mul hm;have l2:=(h2.scale M).scale 2;have l3:=(h3.scale M).scale 2;have l4:=(h4.scale M).scale 2;have l5:=(h5.scale M).scale 2;generalize J*K=P at*;generalize M*K=Q at*;refine⟨?_,?_,?_,?_⟩
 ·exact(((tz x y c1 c3).add (tz z w c2 c4).neg).add l2).mono (by omega)
 ·exact(((tA x y c1 c3).add (tA z w c2 c4).neg).add l3).mono (by omega)
 ·exact(((tz x y c2 c4).add (tz z w c1 c3)).add l4).mono (by omega)
 ·exact(((tA x y c2 c4).add (tA z w c1 c3)).add l5).mono (by omega)
theorem zC{M A E k e:Nat}(hM:M≤A)(hE:E≤2^e)(hA:A≤2^k):M*E≤2^(e+k):=by
 rw[cR,eA (2^e)];exact aR (aP hM hA) hE
theorem Jq{e M J:Nat}{V:On}(h:sE e V)(h0:0<M)(hM:M≤2^136)(hJ:J≤2^174){x y z w:Rat}(hx:cq M J x)(hy:cq M J y)(hz:cq M J z)(hw:cq M J w):
  bq (e+179) (V.u0 x y z w)∧bq (e+179) (V.u1 x y z w)∧bq (e+179) (V.v0 x y z w)∧bq (e+179) (V.v1 x y z w):=by
 obtain⟨N,K,n0,nK,hK,hc⟩:=h;obtain⟨g1,g2,g3,g4⟩:=hc.ap nK hx hy hz hw;have a1:0<2*(M*N):=iy (by decide) (iy h0 n0);have a2:2*(M*N)≤2^(e+178):=by
  rw[←lL];exact zC (aR (ai 2) hM) (aP nK hK) (by decide)
 have a3:8*(J*K)+2*(M*K)≤2^(e+178):=by
  rw[←lL,←lL,←ed];exact zC (Nat.add_le_add (aR (ai 8) hJ) (aR (ai 2) hM)) hK (by decide)
 exact⟨g1.bq a1 a2 a3,g2.bq a1 a2 a3,g3.bq a1 a2 a3,g4.bq a1 a2 a3⟩
theorem RD{e:Nat}{V:On}(h:sE e V){x y:Int}(hx:x.natAbs≤2^31)(hy:y.natAbs≤2^31):bS (e+190) (V.X x y)∧bS (e+190) (V.Y x y):=by
 obtain⟨g1,g2,g3,g4⟩:=Jq h (M:=1) (J:=2^31) (by decide) (by decide) (by decide) (cq.int hx) (cq.zero 1 (2^31)) (cq.int hy) (cq.zero 1 (2^31));exact⟨bS.r2 (g1.mono (by omega)) (g2.mono (by omega)) (by omega),bS.r2 (g3.mono (by omega)) (g4.mono (by omega)) (by omega)⟩
theorem Qh{n:Int}(h:0≤n∧n≤2):∃a b:Int,E8 n=(a:Rat)∧E9 n=(b:Rat)∧(0≤a∧a≤1)∧0≤b∧b≤1:=by
 by_cases h2:n=2
 ·exact⟨0,1,by unfold E8;rw[if_pos h2];rfl,by unfold E9;rw[if_pos h2];rfl,by decide,by decide⟩
 ·exact⟨n,0,by unfold E8;rw[if_neg h2],by unfold E9;rw[if_neg h2];rfl,by omega,by decide⟩
theorem n_C{M:Nat}{S:Sn}(h:cS M (2^170) S)(hm:0≤S.m∧S.m≤2)(hn:0≤S.n∧S.n≤2):cq M (2^174) S.n0∧cq M (2^174) S.n1:=by
 obtain⟨a,b,ha,hb,a1,b1⟩:=Qh hm;obtain⟨c,d,hc,hd,c1,d1⟩:=Qh hn;have e1:Rd (a:Rat) b c d=((a*c+2*(b*d):Int):Rat):=by
  unfold Rd;rw[fU,dH,dH,dH];grind
 have e2:Rf (a:Rat) b c d=((a*d+b*c:Int):Rat):=by
  unfold Rf;rw[fU,dH,dH]
 have p1:0≤a*c∧a*c≤1:=⟨eY a1.1 c1.1,vd (qt a1.2 c1.2 c1.1 (by decide)) (by decide)⟩;have p2:0≤b*d∧b*d≤1:=⟨eY b1.1 d1.1,vd (qt b1.2 d1.2 d1.1 (by decide)) (by decide)⟩;have p3:0≤a*d∧a*d≤1:=⟨eY a1.1 d1.1,vd (qt a1.2 d1.2 d1.1 (by decide)) (by decide)⟩;have p4:0≤b*c∧b*c≤1:=⟨eY b1.1 c1.1,vd (qt b1.2 c1.2 c1.1 (by decide)) (by decide)⟩;obtain⟨h1,h2,h3,h4⟩:=h;have n0:S.n0=S.p*((1:Int):Rat)+S.q*(a:Rat)+S.r*(c:Rat)+S.s*((a*c+2*(b*d):Int):Rat):=by
  unfold Sn.n0;rw[ha,hb,hc,hd,e1,e2];generalize((a*c+2*(b*d):Int):Rat)=u;generalize((a*d+b*c:Int):Rat)=v;unfold Rd;grind
 have n1:S.n1=S.p*((0:Int):Rat)+S.q*(b:Rat)+S.r*(d:Rat)+S.s*((a*d+b*c:Int):Rat):=by
  unfold Sn.n1;rw[ha,hb,hc,hd,e1,e2];generalize((a*c+2*(b*d):Int):Rat)=u;generalize((a*d+b*c:Int):Rat)=v;unfold Rf;have z:((0:Int):Rat)=0:=rfl;rw[z];grind
 have one:∀{q:Rat} {z:Int},cq M (2^170) q→z.natAbs≤3→cq M (2^170*3) (q*(z:Rat)):=fun hq hz=>hq.mulI hz;rw[n0,n1];exact⟨((((one h1 (by decide)).add (one h2 (by omega))).add (one h3 (by omega))).add (one h4 (by omega))).mono (by decide),((((one h1 (by decide)).add (one h2 (by omega))).add (one h3 (by omega))).add (one h4 (by omega))).mono (by decide)⟩
theorem WK(S:Sn)(m n:Int)(g:Rat):S.mul ⟨m,n,g,0,0,0⟩=⟨S.m,S.n,S.p*g,S.q*g,S.r*g,S.s*g⟩:=Sn.ext' rfl rfl (by simp only[Sn.mul];grind) (by simp only[Sn.mul];grind) (by simp only[Sn.mul];grind) (by simp only[Sn.mul];grind)
theorem UO{N K:Nat}{m n:Int}:∀(k:Nat) {X Y:Sn},cS N K X∧X.m=m∧X.n=n→cS N K Y∧Y.m=m∧Y.n=n→(cS N K (Dn k X Y).1∧(Dn k X Y).1.m=m∧(Dn k X Y).1.n=n)∧cS N K (Dn k X Y).2∧(Dn k X Y).2.m=m∧(Dn k X Y).2.n=n
 |0,_,_,h,g=>⟨h,g⟩
 |k+1,_,_,h,g=>UO k ⟨g.1.neg,g.2.1,g.2.2⟩ h
structure Cq(e:Nat)(q:Sn×Sn):Prop where
 b1:bS (e+190) q.1
 b2:bS (e+190) q.2
 f:(0≤q.1.m∧0≤q.1.n)∧0≤q.2.m∧0≤q.2.n
theorem M8{e:Nat}{V:On}(h:sE e V){d:Dp}(hx:d.x.natAbs≤2^31)(hy:d.y.natAbs≤2^31):Cq e (xW V d):=by
 obtain⟨g1,g2⟩:=RD h hx hy;exact⟨g1,g2,⟨show(0:Int)≤2 by decide,show(0:Int)≤0 by decide⟩,show(0:Int)≤2 by decide,show(0:Int)≤0 by decide⟩
theorem NQ{e:Nat}{V:On}{P q:Sn×Sn}(h:sE e V)(hP:MI P)(hq:farP V P=some q):Cq e q:=by
 obtain⟨em,en,m0,n0,mb,nb,M,hM0,hM,h1,h2⟩:=hP;unfold farP at hq;split at hq
 ·rename_i hs;injection hq with hq;subst hq;obtain⟨x0,x1⟩:=n_C h1 ⟨m0,hs.1⟩ ⟨n0,hs.2⟩;obtain⟨y0,y1⟩:=n_C h2 (by omega) (by omega);obtain⟨g1,g2,g3,g4⟩:=Jq h hM0 hM (ai _) x0 x1 y0 y1;exact⟨bS.r2 (g1.mono (by omega)) (g2.mono (by omega)) (by omega),bS.r2 (g3.mono (by omega)) (g4.mono (by omega)) (by omega),⟨show(0:Int)≤2 by decide,show(0:Int)≤0 by decide⟩,show(0:Int)≤2 by decide,show(0:Int)≤0 by decide⟩
 ·split at hq
  ·simp at hq
  ·injection hq with hq;subst hq;obtain⟨N,K,k0,nK,hK,hc⟩:=h;have hm:=hc.mag nK;obtain⟨_,c2,c3,c4,c5⟩:=hc;have sc:∀{S:Sn},cS M (2^170) S→cS (M*N) (2^170*K) (S.mul ⟨P.1.m,P.1.n,V.mag,0,0,0⟩):=fun{S} hS=>by
    rw[WK];exact⟨hS.1.mul hm,hS.2.1.mul hm,hS.2.2.1.mul hm,hS.2.2.2.mul hm⟩
   have s1:=sc h1;have s2:cS (M*N) (2^170*K) (if V.f then(P.2.mul ⟨P.1.m,P.1.n,V.mag,0,0,0⟩).neg else P.2.mul ⟨P.1.m,P.1.n,V.mag,0,0,0⟩)∧(if V.f then(P.2.mul ⟨P.1.m,P.1.n,V.mag,0,0,0⟩).neg else P.2.mul ⟨P.1.m,P.1.n,V.mag,0,0,0⟩).m=P.1.m∧(if V.f then(P.2.mul ⟨P.1.m,P.1.n,V.mag,0,0,0⟩).neg else P.2.mul ⟨P.1.m,P.1.n,V.mag,0,0,0⟩).n=P.1.n:=by
    split
    ·exact⟨(sc h2).neg,em,en⟩
    ·exact⟨sc h2,em,en⟩
   obtain⟨⟨r1,r2',r3⟩,r4,r5,r6⟩:=UO (V.o/2).toNat ⟨s1,rfl,rfl⟩ s2;have a1:0<M*N:=iy hM0 k0;have a2:M*N≤2^(e+189):=zC hM (aP nK hK) (by decide);have a3:2^170*K+M*K≤2^(e+189):=by
    rw[←ed];exact zC (Nat.add_le_add (ai _) hM) hK (by decide)
   have fin:∀{p c:Rat},cq (M*N) (2^170*K) p→cq N K c→bq (e+190) (p+c):=fun hp hcc=>(hp.add (hcc.scale M)).bq a1 a2 a3;have z:=cq.zero N K;have mm:∀{z:Int},z.natAbs<2^67→z.natAbs<2^(e+190):=fun hz=>cQ hz (fx (by omega));refine⟨⟨?_,?_,fin r1.1 c2,fin r1.2.1 c3,fin r1.2.2.1 z,fin r1.2.2.2 z⟩,⟨?_,?_,fin r4.1 c4,fin r4.2.1 c5,fin r4.2.2.1 z,fin r4.2.2.2 z⟩,⟨?_,?_⟩,?_,?_⟩
   ·show(Dn _ _ _).1.m.natAbs<_;rw[r2'];exact mm mb
   ·show(Dn _ _ _).1.n.natAbs<_;rw[r3];exact mm nb
   ·show(Dn _ _ _).2.m.natAbs<_;rw[r5];exact mm mb
   ·show(Dn _ _ _).2.n.natAbs<_;rw[r6];exact mm nb
   ·show 0≤(Dn _ _ _).1.m;rw[r2'];exact m0
   ·show 0≤(Dn _ _ _).1.n;rw[r3];exact n0
   ·show 0≤(Dn _ _ _).2.m;rw[r5];exact m0
   ·show 0≤(Dn _ _ _).2.n;rw[r6];exact n0
theorem Xy{zs:List Int}(hb:ke zs){e:Nat}(he:e=312):∃N,0<N∧N≤2^e∧cq N (2^e) (nS zs):=by
 by_cases hl:zs.length=8
 ·obtain⟨b0,b1⟩:=Na hl hb;obtain⟨k,hk⟩:∃k,zs.getD 0 0 % 128-78=k:=⟨_,rfl⟩;have hkb: -78≤k∧k≤49:=by omega
  obtain⟨z,hz,hzb⟩:∃z:Int,(if 127<zs.getD 0 0 then-1 else 1)*(be (zs.drop 1):Rat)=(z:Rat)∧z.natAbs≤2^56:=by
   split
   ·exact⟨-be (zs.drop 1),by rw[s_];grind,by show(-be (zs.drop 1)).natAbs≤72057594037927936;omega⟩
   ·exact⟨be (zs.drop 1),by rw[Rat.one_mul],by show(be (zs.drop 1)).natAbs≤72057594037927936;omega⟩
  have hv:nS zs=(z:Rat)*Ri (4*k):=by unfold nS;rw[if_pos hl,hz,hk]
  rw[hv];by_cases h0:0≤k
  ·obtain⟨j,rfl⟩:∃j:Nat,k=j:=⟨k.toNat,by omega⟩;refine⟨1,by decide,vG,?_⟩;rw[show 4*(j:Int)=((4*j:Nat):Int)by omega,PV];refine((cq.int hzb).mulI (J:=2^196) ?_).mono (by rw[←cR];exact fx (by omega));rw[Int.natAbs_natCast];exact fx (by omega)
  ·obtain⟨j,hj⟩:∃j:Nat,k= -(j:Int):=⟨(-k).toNat,by omega⟩;have hp:=QA (4*j);refine⟨2^(4*j),ki _,fx (by omega),?_⟩;rw[hj,show 4*(-(j:Int))= -((4*j:Nat):Int)by omega,PW];have:=(cq.int hzb).mul (xY hp);rw[gx,lg,fL]at this;exact this.mono (fx (by omega))
 ·exact⟨1,by decide,vG,by unfold nS;rw[if_neg hl];exact cq.zero _ _⟩
theorem aal{x:Im}(h:∀r∈x.f,MJ r){e:Nat}(he:e=312):∃N,0<N∧N≤2^e∧cq N (2^e) (jJ x):=by
 unfold jJ;cases hf:dK x 27 with
 |none=>exact⟨1,by decide,vG,cq.int (show(1:Int).natAbs≤2^e from vG)⟩
 |some r=>exact Xy (h r (kL hf).1) he
theorem JI{a b:Int}(hb:0<b){A:Nat}(ha:a.natAbs≤A):cq b.toNat A (CR a b):=by
 have:=(xY hb).mulI ha;have e:Rat.divInt 1 b*(a:Rat)=CR a b:=by
  unfold CR;rw[ir,ir,lh,lh,show((1:Int):Rat)=1 from rfl,Rat.one_mul,Rat.mul_comm]
 rwa [e,lg]at this
theorem Eu{of:Dp→Int}{p:List Dp}(hp:∀k,(of (p.getD k ⟨0,0⟩)).natAbs≤2^31){eH rows i k:Int}(hc:0<eH∧eH≤32767)(hr:0<rows∧rows≤32767)(hi:0≤i∧i<eH)(hk:0≤k∧k<rows):cq (eH.toNat*rows.toNat) (2^64) (oA of p eH rows i k):=by
 have p0:=hp 0;have p1:=hp 1;have p2:=hp 2;have Yn:eH.toNat≤2^15:=by show eH.toNat≤32768;omega
 have hrn:rows.toNat≤2^15:=by show rows.toNat≤32768;omega
 have T4:∀{a b c:Int},a.natAbs≤2^31→b.natAbs≤2^31→0≤c∧c<32767→((a-b)*c).natAbs≤2^47:=fun{a b c} h1 h2 h3=>by
  have e1:(2:Nat)^31=2147483648:=by decide
  rw[e1]at h1 h2;rw[cK];refine aP (aR (show(a-b).natAbs≤2^32 from ?_) (show c.natAbs≤2^15 from ?_)) (by decide)
  ·show(a-b).natAbs≤4294967296;omega
  ·show c.natAbs≤32768;omega
 have g0:cq (eH.toNat*rows.toNat) (2^61) ((of (p.getD 0 ⟨0,0⟩):Int):Rat):=(zG _ p0).mono (aP (aR (aR Yn hrn) (ai _)) (by decide));unfold oA;split
 ·have g1:=(JI hc.1 (T4 p1 p0 (c:=i) (by omega))).scale rows.toNat;have g2:=(JI hr.1 (T4 p2 p0 (c:=k) (by omega))).scale eH.toNat;rw[eA]at g1;have g1':=g1.mono (J:=2^62) (aP (aR hrn (ai _)) (by decide));have g2':=g2.mono (J:=2^62) (aP (aR Yn (ai _)) (by decide));exact((g0.add g1').add g2').mono (by decide)
 ·exact g0.mono (by decide)
theorem EI{x:Im}(h:∀r∈x.f,MJ r)(k:Nat):(((bu x).getD k ⟨0,0⟩).x).natAbs≤2^31∧(((bu x).getD k ⟨0,0⟩).y).natAbs≤2^31:=by
 have e1:(2:Nat)^31=2147483648:=by decide
 rw[e1,dZ];cases hk:(bu x)[k]? with
 |none=>exact⟨by decide,by decide⟩
 |some d=>
  have:=uR h d (aO hk);simp only[jE];omega
theorem Pg{E:Nat}(hE:E=376){x:Im}(h:∀r∈x.f,MJ r)(hc:0<(aZ x).1)(hr:0<(aZ x).2){i k:Int}(hi:0≤i∧i<(aZ x).1)(hk:0≤k∧k<(aZ x).2):sE E (oB x i k):=by
 obtain⟨g1,g2⟩:=wP h;obtain⟨e,he⟩:∃e:Nat,e=312:=⟨_,rfl⟩;obtain⟨N,n0,nb,hm⟩:=aal h he;have cx:=Eu (of:=Dp.x) (fun k=>(EI h k).1) ⟨hc,g1⟩ ⟨hr,g2⟩ hi hk;have cy:=Eu (of:=Dp.y) (fun k=>(EI h k).2) ⟨hc,g1⟩ ⟨hr,g2⟩ hi hk;obtain⟨D,hD⟩:∃D,(aZ x).1.toNat*(aZ x).2.toNat=D:=⟨_,rfl⟩;rw[hD]at cx cy;have hD0:0<D:=by rw[←hD];exact iy (by omega) (by omega)
 have Zy:D≤2^30:=by
  rw[←hD];exact aP (aR (show(aZ x).1.toNat≤2^15 from by show _≤32768;omega) (show(aZ x).2.toNat≤2^15 from by show _≤32768;omega)) (by decide)
 have hm':=(hm.scale D).mono (J:=2^E) (aP (aR Zy (ai _)) (by rw[←cR];exact fx (by omega)));have cx':=(cx.scale N).mono (J:=2^E) (aP (aR nb (ai _)) (by rw[←cR];exact fx (by omega)));have cy':=(cy.scale N).mono (J:=2^E) (aP (aR nb (ai _)) (by rw[←cR];exact fx (by omega)));rw[eA]at cx' cy';exact⟨D*N,2^E,iy hD0 n0,aP (aR Zy nb) (by rw[←cR];exact fx (by omega)),ai _,hm',cx',cq.zero _ _,cy',cq.zero _ _⟩
theorem LX{x:Im}(h:∀r∈x.f,MJ r)(Ym:dK x 27=none)(hc:0<(aZ x).1)(hr:0<(aZ x).2){i k:Int}(hi:0≤i∧i<(aZ x).1)(hk:0≤k∧k<(aZ x).2):sE 64 (oB x i k):=by
 obtain⟨g1,g2⟩:=wP h;have cx:=Eu (of:=Dp.x) (fun k=>(EI h k).1) ⟨hc,g1⟩ ⟨hr,g2⟩ hi hk;have cy:=Eu (of:=Dp.y) (fun k=>(EI h k).2) ⟨hc,g1⟩ ⟨hr,g2⟩ hi hk;obtain⟨D,hD⟩:∃D,(aZ x).1.toNat*(aZ x).2.toNat=D:=⟨_,rfl⟩;rw[hD]at cx cy;have hD0:0<D:=by rw[←hD];exact iy (by omega) (by omega)
 have Zy:D≤2^30:=by
  rw[←hD];exact aP (aR (show(aZ x).1.toNat≤2^15 from by show _≤32768;omega) (show(aZ x).2.toNat≤2^15 from by show _≤32768;omega)) (by decide)
 have hm:cq D (2^64) (jJ x):=by
  unfold jJ;rw[Ym];exact(zG D (K:=1) (by decide)).mono (aP (aR Zy (ai _)) (by decide))
 exact⟨D,2^64,hD0,aP Zy (by decide),ai _,hm,cx,cq.zero _ _,cy,cq.zero _ _⟩
structure YR where
 j:Nat
 z:Int
 x:Sw
 y:Sw
 S:Sn
 T:Sn
theorem KG{q:Rat}(h:q≠0):(q.num.sign != 0)=true:=by
 have:q.num≠0:=fun e=>h (Rat.num_eq_zero.1 e);have h2:q.num.sign≠0:=fun e=>this (Int.sign_eq_zero_iff_zero.1 e);simp[bne,h2]
section
variable{fin:VS→List aE→Prop}{Γ:List aE}{L M K:Nat}
theorem au.farT{f:FuncId}{args:List Value}{X Y:Sn}{k:Nat}(h:au tb Tryz.prog f args Γ (wk L X Y))(h1:bS k X)(h2:bS k Y):au tb Tryz.prog f args Γ (wk (k/32+1) X Y):=
 h.entH (fun v Δ ⟨x,y,e1,e2⟩=>⟨_,⟨x,y,e1,rfl⟩,fun I w hh=>by
  subst e2;exact aG.cons (SF.tight (hh (SF x (L,X)) (List.Mem.head _)) h1) (aU (SF.tight (hh (SF y (L,Y)) (List.Mem.tail _ (List.Mem.head _))) h2))⟩)
theorem SB(V:On)(t:Q5)(x y:Sw){X Y:Sn}{L1:Nat} [aY (OF t) (L1,V) Γ] [aY (SF x) (L,X) Γ] [aY (SF y) (M,Y) Γ](ho:0≤V.o∧V.o≤7)(hn:V.o % 2≠0∨V.b≠0∨V.d≠0)(h0:0≤X.m∧0≤X.n)(hmn:2<X.m∨2<X.n)(em:X.m=Y.m)(en:X.n=Y.n)(hL:L≤2000∧M≤2000∧L1≤10000:=by omega):
  au tb Tryz.prog 88 [HJ V t,BD x y] Γ (js (.tuple #[BD Ci Ci,.int .i64 6])):=by
 refine au.of_W aB Tryz.func88 rfl ?_;refine Cu t rfl ?_;refine ta x rfl ?_;refine aj [] (Ez x y em en) ?_;rintro _ _ ⟨rfl,rfl⟩;refine aj [24] (Bm x h0 hmn) ?_;rintro _ _ ⟨rfl,rfl⟩;refine mD [32] .i64 V.o 2 (V.o % 2) (by decide) (fK ho.1) ?_;by_cases h2:V.o % 2≠0
 ·refine bD [] 63 (V.o % 2 != 0) (by simpa using h2) ?_;exact W.r [76,70,63] (.tuple #[BD Ci Ci,.int .i64 6]) ⟨rfl,rfl⟩ bU
 refine aS [] 63 (V.o % 2 != 0) (by simpa using h2) ?_;refine aj [63] (je t.b.n t.b.a t.b.m t.b.b) ?_;rintro _ _ ⟨rfl,rfl⟩;by_cases hb:V.b≠0
 ·refine bD [63] 70 (V.b.num.sign != 0) (KG hb) ?_;exact W.r [76,70] (.tuple #[BD Ci Ci,.int .i64 6]) ⟨rfl,rfl⟩ bU
 refine aS [63] 70 (V.b.num.sign != 0) (by simp only[ne_eq,Decidable.not_not]at hb;rw[hb];decide+kernel) ?_;refine aj [70] (je t.d.n t.d.a t.d.m t.d.b) ?_;rintro _ _ ⟨rfl,rfl⟩;have hd:V.d≠0:=by
  rcases hn with h|h|h
  ·exact absurd h h2
  ·exact absurd h hb
  ·exact h
 refine bD [70] 76 (V.d.num.sign != 0) (KG hd) ?_;exact W.r [76] (.tuple #[BD Ci Ci,.int .i64 6]) ⟨rfl,rfl⟩ bU
theorem SA(V:On)(t:Q5)(x y:Sw){X Y:Sn}{L1:Nat} [aY (OF t) (L1,V) Γ] [aY (SF x) (L,X) Γ] [aY (SF y) (M,Y) Γ](ho:0≤V.o∧V.o≤7)(h2:V.o % 2=0)(hb:V.b=0)(hd:V.d=0)(h0:0≤X.m∧0≤X.n)(hmn:2<X.m∨2<X.n)(em:X.m=Y.m)(en:X.n=Y.n)(hL:L≤2000∧M≤2000∧L1≤10000:=by omega):
  au tb Tryz.prog 88 [HJ V t,BD x y] Γ (wk 80000 (V.farX X Y) (V.farY X Y)):=by
 have fin:∀(R:Sn×Sn),R=V.farP X Y→R.1.add ⟨X.m,X.n,V.a,V.b,0,0⟩=V.farX X Y∧R.2.add ⟨X.m,X.n,V.c,V.d,0,0⟩=V.farY X Y:=fun R h=>by rw[h];exact⟨rfl,rfl⟩
 unfold On.farP at fin;obtain⟨k,hk⟩:∃k:Nat,V.o/2=k:=⟨(V.o/2).toNat,by omega⟩;rw[hk,gx]at fin;refine au.of_W aB Tryz.func88 rfl ?_;refine Cu t rfl ?_;refine ta x rfl ?_;refine aj [] (Ez x y em en) ?_;rintro _ _ ⟨rfl,rfl⟩;refine aj [24] (Bm x h0 hmn) ?_;rintro _ _ ⟨rfl,rfl⟩;refine mD [32] .i64 V.o 2 0 (by decide) (by rw[fK ho.1,h2]) ?_;refine aS [] 63 ((0:Int) != 0) (by decide) ?_;refine aj [63] (je t.b.n t.b.a t.b.m t.b.b) ?_;rintro _ _ ⟨rfl,rfl⟩;refine aS [63] 70 (V.b.num.sign != 0) (by rw[hb];decide+kernel) ?_;refine aj [70] (je t.d.n t.d.a t.d.m t.d.b) ?_;rintro _ _ ⟨rfl,rfl⟩;refine aS [70] 76 (V.d.num.sign != 0) (by rw[hd];decide+kernel) ?_;refine aj [76] (Br x) ?_;rintro _ _ ⟨rfl,rfl⟩;refine aj [] (vX V.f V.o t.g t.a t.b t.c t.d (V:=V)) ?_;rintro _ _ ⟨g7,rfl,rfl⟩;obtain⟨qm,hq⟩:∃qm,V.mag=qm:=⟨_,rfl⟩;rw[hq]at fin⊢;refine cI [] 1 ([(⟨g7.n,g7.a,g7.m,g7.b,qm⟩:QE)].flatMap QR.cells) aB (fun b8=>?_);refine aj [] (Bs x.u x.d x.v x.e b8 ⟨g7.n,g7.a,g7.m,g7.b⟩ h0.1 h0.2) ?_;rintro _ _ ⟨X9,rfl,rfl⟩;refine aj [] (PK (S:=X) (T:=⟨X.m,X.n,qm,0,0,0⟩) x X9 rfl rfl) ?_;rintro _ _ ⟨X10,rfl,rfl⟩;refine aj [] (PK (S:=Y) (T:=⟨X.m,X.n,qm,0,0,0⟩) y X9 em.symm en.symm) ?_;rintro _ _ ⟨X11,rfl,rfl⟩;cases hf:V.f with
 |true=>
  rw[hf]at fin;refine bD [] 108 V.f hf ?_;refine aj [108] (EF X11) ?_;rintro _ _ ⟨X12,rfl,rfl⟩;refine W.quo [] V.o 2 (k:Int) (by decide) (by rw[Int.tdiv_eq_ediv_of_nonneg ho.1,hk,ah];omega) ?_;refine xU [] [114] (fun a:YR=>[(114,.int .i64 a.z)]) (fun a=>[(18,ji a.x),(20,ji a.y)]) (fun a=>[SF a.x (65000,a.S),SF a.y (65000,a.T),OF t (L1,V),SF x (L,X)]) (fun a=>a.z=a.j∧a.j≤k∧(a.S.m=X.m∧a.S.n=X.n∧a.T.m=X.m∧a.T.n=X.n)∧Dn (k-a.j) a.S a.T=Dn k (X.mul ⟨X.m,X.n,qm,0,0,0⟩) (Y.mul ⟨X.m,X.n,qm,0,0,0⟩).neg) (fun a=>k-a.j) ⟨0,0,X10,X12,X.mul ⟨X.m,X.n,qm,0,0,0⟩,(Y.mul ⟨X.m,X.n,qm,0,0,0⟩).neg⟩ ⟨rfl,aM _,⟨rfl,rfl,em.symm,en.symm⟩,rfl⟩ (lU (pT (x:=X10) (by omega) rfl) (lU (pT (x:=X12) (by omega) rfl) (eC eK (eC eK eE)))) ?_;rintro⟨j,z,A,B,S,T⟩ R ⟨hz,hj,⟨m1,m2,m3,m4⟩,hr⟩ close;simp only at hz hj hr m1 m2 m3 m4;by_cases hlt:j<k
  ·refine bD [] 115 (decide (z<(k:Int))) (aw (by omega)) ?_;refine aj [115] (EF B) ?_;rintro _ _ ⟨C,rfl,rfl⟩;refine close [] _ _ ⟨j+1,IntKind.i64.wrap (z+1),C,A,T.neg,S⟩ (by kernel_rfl) (by kernel_rfl) ⟨by simp only[ah];omega,hlt,⟨m3,m4,m1,m2⟩,?_⟩ (by simp only;omega) (eC eK (eC eK (eC eK (eC eK eE))));rw[←hr,show k-j=(k-(j+1))+1 by omega];rfl
  ·obtain rfl:j=k:=by omega
   rw[qy]at hr;obtain⟨f1,f2⟩:=fin (S,T) hr;refine Cu t rfl ?_;refine ta x rfl ?_;refine aS [] 115 (decide (z<(j:Int))) (ak (by omega)) ?_;refine aj [115] (lF x.u x.d x.v x.e t.a t.b h0.1 h0.2) ?_;rintro _ _ ⟨X20,rfl,rfl⟩;refine aj [] (pq (S:=S) (T:=⟨X.m,X.n,V.a,V.b,0,0⟩) A X20 m1 m2) ?_;rintro _ _ ⟨X21,rfl,rfl⟩;refine aj [] (lF x.u x.d x.v x.e t.c t.d h0.1 h0.2) ?_;rintro _ _ ⟨X22,rfl,rfl⟩;refine aj [] (pq (S:=T) (T:=⟨X.m,X.n,V.c,V.d,0,0⟩) B X22 m3 m4) ?_;rintro _ _ ⟨X23,rfl,rfl⟩;exact W.r [] (.tuple #[BD X21 X23,.int .i64 0]) ⟨_,_,rfl,rfl⟩ (JC (by omega) f1 f2)
 |false=>
  rw[hf]at fin;refine aS [] 108 V.f hf ?_;refine W.quo [108] V.o 2 (k:Int) (by decide) (by rw[Int.tdiv_eq_ediv_of_nonneg ho.1,hk,ah];omega) ?_;refine xU [] [114] (fun a:YR=>[(114,.int .i64 a.z)]) (fun a=>[(18,ji a.x),(20,ji a.y)]) (fun a=>[SF a.x (65000,a.S),SF a.y (65000,a.T),OF t (L1,V),SF x (L,X)]) (fun a=>a.z=a.j∧a.j≤k∧(a.S.m=X.m∧a.S.n=X.n∧a.T.m=X.m∧a.T.n=X.n)∧Dn (k-a.j) a.S a.T=Dn k (X.mul ⟨X.m,X.n,qm,0,0,0⟩) (Y.mul ⟨X.m,X.n,qm,0,0,0⟩)) (fun a=>k-a.j) ⟨0,0,X10,X11,X.mul ⟨X.m,X.n,qm,0,0,0⟩,(Y.mul ⟨X.m,X.n,qm,0,0,0⟩)⟩ ⟨rfl,aM _,⟨rfl,rfl,em.symm,en.symm⟩,rfl⟩ (lU (pT (x:=X10) (by omega) rfl) (lU (pT (x:=X11) (by omega) rfl) (eC eK (eC eK eE)))) ?_;rintro⟨j,z,A,B,S,T⟩ R ⟨hz,hj,⟨m1,m2,m3,m4⟩,hr⟩ close;simp only at hz hj hr m1 m2 m3 m4;by_cases hlt:j<k
  ·refine bD [] 115 (decide (z<(k:Int))) (aw (by omega)) ?_;refine aj [115] (EF B) ?_;rintro _ _ ⟨C,rfl,rfl⟩;refine close [] _ _ ⟨j+1,IntKind.i64.wrap (z+1),C,A,T.neg,S⟩ (by kernel_rfl) (by kernel_rfl) ⟨by simp only[ah];omega,hlt,⟨m3,m4,m1,m2⟩,?_⟩ (by simp only;omega) (eC eK (eC eK (eC eK (eC eK eE))));rw[←hr,show k-j=(k-(j+1))+1 by omega];rfl
  ·obtain rfl:j=k:=by omega
   rw[qy]at hr;obtain⟨f1,f2⟩:=fin (S,T) hr;refine Cu t rfl ?_;refine ta x rfl ?_;refine aS [] 115 (decide (z<(j:Int))) (ak (by omega)) ?_;refine aj [115] (lF x.u x.d x.v x.e t.a t.b h0.1 h0.2) ?_;rintro _ _ ⟨X20,rfl,rfl⟩;refine aj [] (pq (S:=S) (T:=⟨X.m,X.n,V.a,V.b,0,0⟩) A X20 m1 m2) ?_;rintro _ _ ⟨X21,rfl,rfl⟩;refine aj [] (lF x.u x.d x.v x.e t.c t.d h0.1 h0.2) ?_;rintro _ _ ⟨X22,rfl,rfl⟩;refine aj [] (pq (S:=T) (T:=⟨X.m,X.n,V.c,V.d,0,0⟩) B X22 m3 m4) ?_;rintro _ _ ⟨X23,rfl,rfl⟩;exact W.r [] (.tuple #[BD X21 X23,.int .i64 0]) ⟨_,_,rfl,rfl⟩ (JC (by omega) f1 f2)
theorem SE(V:On)(t:Q5)(x y:Sw){P q:Sn×Sn}{L1 e:Nat} [aY (OF t) (L1,V) Γ] [aY (SF x) (L,P.1) Γ] [aY (SF y) (M,P.2) Γ](ho:0≤V.o∧V.o≤7)(hP:MI P)(hw:sE e V)(hq:farP V P=some q)(hL:L≤2000∧M≤2000∧L1≤10000:=by omega):
  au tb Tryz.prog 88 [HJ V t,BD x y] Γ (wk ((e+190)/32+1) q.1 q.2):=by
 have hok:=NQ hw hP hq;unfold farP at hq;split at hq
 ·rename_i hs;injection hq with hq;subst hq;exact(SC V t x y ho hP.em.symm hP.en.symm ⟨hP.m0,hs.1⟩ ⟨hP.n0,hs.2⟩ hL).farT hok.b1 hok.b2
 ·rename_i hs;split at hq
  ·simp at hq
  ·rename_i hn;injection hq with hq;subst hq;have hb:V.b=0:=Decidable.byContradiction fun h=>hn (.inr (.inl h));have hd:V.d=0:=Decidable.byContradiction fun h=>hn (.inr (.inr h));exact(SA V t x y ho (Decidable.byContradiction fun h=>hn (.inl h)) hb hd ⟨hP.m0,hP.n0⟩ (by omega) hP.em.symm hP.en.symm hL).farT hok.b1 hok.b2
theorem SD(V:On)(t:Q5)(x y:Sw){P:Sn×Sn}{L1:Nat} [aY (OF t) (L1,V) Γ] [aY (SF x) (L,P.1) Γ] [aY (SF y) (M,P.2) Γ](ho:0≤V.o∧V.o≤7)(hP:MI P)(hq:farP V P=none)(hL:L≤2000∧M≤2000∧L1≤10000:=by omega):
  au tb Tryz.prog 88 [HJ V t,BD x y] Γ (js (.tuple #[BD Ci Ci,.int .i64 6])):=by
 unfold farP at hq;split at hq
 ·simp at hq
 ·rename_i hs;split at hq
  ·rename_i hn;exact SB V t x y ho hn ⟨hP.m0,hP.n0⟩ (by omega) hP.em.symm hP.en.symm hL
  ·simp at hq
end
def Rk(t:List Ce)(dm:List (Int×Int)):Prop:=∀k v,gG k dm=some v→∃j:Nat,k=j∧(v=0∨∃d:Nat,v=(d:Int)∧sW t j d)
def vn(t:List Ce)(dm:List (Int×Int)):Nat:=(List.range t.length).countP fun j:Nat=>(gG (j:Int) dm).isNone
theorem CI{α:Type}{p q:α→Bool}:∀{l:List α},(∀x∈l,p x=true→q x=true)→(∃x∈l,q x=true∧p x=false)→l.countP p<l.countP q
 | [],_,h=>by obtain⟨x,hx,_⟩:=h;simp at hx
 |a::l,h1,⟨x,hx,hq,hp⟩=>by
  have hle:l.countP p≤l.countP q:=List.countP_mono_left fun y hy=>h1 y (by simp[hy]);simp only[List.countP_cons];simp only[aD]at hx;rcases hx with rfl|hx
  ·rw[hq,hp];simp;omega
  ·have ih:=CI (fun y hy=>h1 y (by simp[hy])) ⟨x,hx,hq,hp⟩;have ha:=h1 a (by simp);cases Z9:p a<;>cases QY:q a<;>simp<;>first|omega|(rw[Z9,QY]at ha;simp at ha)
theorem NT{t:List Ce}{dm:List (Int×Int)}(k v:Int):vn t (kV k v dm)≤vn t dm:=List.countP_mono_left fun j _=>by
 rw[iG];by_cases h:(j:Int)=k<;>simp[h]
theorem NU{t:List Ce}{dm:List (Int×Int)}{i:Nat}(hi:i<t.length)(h:gG (i:Int) dm=none)(v:Int):vn t (kV (i:Int) v dm)<vn t dm:=
 CI (fun j _=>by
  rw[iG];by_cases h:(j:Int)=i<;>simp[h]) ⟨i,by simpa using hi,by rw[h];rfl,by rw[iG];simp⟩
theorem qU{α:Type} [DecidableEq α](k:α)(v:Int):∀l:List (α×Int),kV k (Value.int .i64 v) (b_ l)=b_ (kV k v l)
 | []=>rfl
 |(j,u)::l=>by
  show kV k (Value.int .i64 v) ((j,Value.int .i64 u)::b_ l)=_;unfold kV;by_cases h:k=j
  ·rw[if_pos h,if_pos h];rfl
  ·rw[if_neg h,if_neg h,qU k v l];rfl
def Yc(t:List Ce)(l:List Nat)(m:Nat):Prop:=∃n,jG (dep t n) l 0=some m
theorem CJ{g:Nat→Option Nat}{k:Nat}:∀{l:List Nat} {m:Nat},jG g (l++[k]) m=match jG g l m with
  |some r=>(g k).map (max r)
  |none=>none
 | [],m=>by
  simp only[aA,jG];cases g k<;>rfl
 |j::l,m=>by
  simp only[dO,jG];cases g j with
  |none=>rfl
  |some d=>exact CJ
theorem Yc.snoc{t:List Ce}{l:List Nat}{m k d:Nat}(h:Yc t l m)(hd:sW t k d):Yc t (l++[k]) (max m d):=by
 obtain⟨n1,h⟩:=h;obtain⟨n2,hd⟩:=hd;refine⟨max n1 n2,?_⟩;rw[CJ,nk hd (by omega)];have:jG (dep t (max n1 n2)) l 0=some m:=by
  rw[←h];refine oV fun j hj=>?_;obtain⟨e,h3,_⟩:=(lT h).2 j hj;rw[h3];exact nk h3 (by omega)
 rw[this];rfl
theorem Yc.dep{t:List Ce}{c m:Nat}(h:Yc t (fE t c) m):sW t c (m+1):=by
 obtain⟨n,h⟩:=h;exact sW.of h (fun k d hk=>⟨n,hk⟩)
theorem Ei{t:List Ce}(h:lost t=false){i:Nat}{x:Ce}(hx:t[i]? =some x):iZ (cw t) x=(fE t i).map fun k:Nat=>(k:Int):=by
 have:rf t x=false:=by
  unfold lost at h;rw[ko]at h;simpa using h x (aO hx)
 rw[IB this];unfold fE ln;rw[dZ,hx];rfl
def Tt(t:List Ce)(dm:List (Int×Int))(i:Nat):Prop:=∀j:Nat,gG (j:Int) dm=some 0→MY t j i
def YE(t:List Ce)(i:Nat)(dm:List (Int×Int))(d:Int)(b:Bool)(Lf:List (Int×Int)):Prop:=
 (b=true→∃e:Nat,d=e∧sW t i e∧Rk t Lf∧(∀j:Nat,gG (j:Int) Lf=some 0→gG (j:Int) dm=some 0)∧vn t Lf≤vn t dm)∧(b=false→cyc t)
def U3(t:List Ce)(i:Nat)(dm:List (Int×Int))(FO':List (Nat×List Value))(bm:Nat×List (Value×Value))(dn:Nat)(v:Value)(O:List (Nat×List Value))(M:List (Nat×List (Value×Value)))(Δ:List aE):Prop:=
 ∃(d:Int) (b:Bool) (Lf:List (Int×Int)),YE t i dm d b Lf∧v=.tuple #[.int .i64 d,.bool b]∧O=FO'∧M=[bm,(dn,bM dA (b_ Lf))]∧Δ=[]
structure aby where
 j:Nat
 z:Int
 m:Nat
 dm:List (Int×Int)
def dpU(fb:Nat)(c:Int)(u:Sl):aby→List (Nat×SV):=fun a=>[(0,.val (fp fb)),(1,.val (.int .i64 c)),(33,.val (bz u)),(34,.val (.int .i64 u.n)),(4,.val (.int .i64 0)),(5,.val (.bool false)),(8,.val (.int .i64 a.m)),(35,.val (.int .i64 a.z))]
section
theorem Su(fb bn cn dn:Nat)(cs:Sl)(most:Int)(sh:Value){t:List Ce}(hok:∀c∈t,U1 c)(hlen:∀c∈t,c.i.length≤100000)(CW:lost t=false)(htl:t.length≤100000):
  ∀(n:Nat) (Γ:List aE) [aY (pF cs) t Γ] (c:Int) (i:Nat),c=i→i<t.length→∀dm:List (Int×Int),Rk t dm→Tt t dm i→vn t dm≤n→
  dC KH Tryz.prog 45 [fp fb,.int .i64 c] (FO fb cs bn cn dn most sh) [(bn,bM dT (b_ (cw t))),(dn,bM dA (b_ dm))] Γ (U3 t i dm (FO fb cs bn cn dn most sh) (bn,bM dT (b_ (cw t))) dn):=by
 intro n
 induction n using Nat.strongRecOn with
 |ind n ih=>
 intro Γ hcs c i hc hi dm hdm how aeu;obtain⟨x,hx⟩:∃x,t[i]? =some x:=⟨_,ar hi⟩;refine dC.of_W bK Tryz.func45 rfl ?_;refine cr [] 3 fb 0 bK ?_;refine dQ [] (FO fb cs bn cn dn most sh) fb (0+3) 1 [bz cs,.map (some bn),.map (some cn),.map (some dn),.int .i64 most,sh] (.map (some dn)) bK (.head _) rfl ?_;refine vk [] dA 70 3 3 true (FO fb cs bn cn dn most sh) [(bn,bM dT (b_ (cw t))),(dn,bM dA (b_ dm))] dn c (b_ dm) (.int .i64 0) bK (.tail _ (.head _)) ?_;rw[mE];cases hg:gG c dm with
 |some d=>
  refine bD [] 22 true rfl ?_;refine j0 [22] (.tuple #[.int .i64 d,.bool (decide (d>0))]) (FO fb cs bn cn dn most sh) [(bn,bM dT (b_ (cw t))),(dn,bM dA (b_ dm))] ⟨d,decide (d>0),dm,⟨fun hb=>?_,fun hb=>?_⟩,rfl,rfl,rfl,rfl⟩ bU
  ·have hd0:d>0:=by simpa using hb
   obtain⟨j,hj,hv⟩:=hdm c d hg;obtain rfl:j=i:=by omega
   rcases hv with h0|⟨e,he,Ir⟩
   ·omega
   ·exact⟨e,he,Ir,hdm,fun _ h=>h,ai _⟩
  ·have hd0:¬d>0:=by simpa using hb
   obtain⟨j,hj,hv⟩:=hdm c d hg;obtain rfl:j=i:=by omega
   rcases hv with h0|⟨e,he,Ir⟩
   ·rw[h0,hc]at hg;exact⟨j,hi,fun e he=>So (how j hg) he⟩
   ·obtain⟨m,hm⟩:=Ir;have:=D5 hm;omega
 |none=>
  rw[hc]at hg;have hlt:=NU hi hg 0;refine aS [] 22 false rfl ?_;refine cr [22] 3 fb 0 bK ?_;refine dQ [] (FO fb cs bn cn dn most sh) fb (0+3) 1 [bz cs,.map (some bn),.map (some cn),.map (some dn),.int .i64 most,sh] (.map (some dn)) bK (.head _) rfl ?_;refine Ct [] dA 70 3 3 (FO fb cs bn cn dn most sh) [(bn,bM dT (b_ (cw t)))] [] dn c (.int .i64 0) (b_ dm) ?_;rw[qU];refine cZ [] [] (FO fb cs bn cn dn most sh) [] [] [(bn,bM dT (b_ (cw t)))] [(dn,bM dA (b_ (kV c 0 dm)))] ⟨rfl,by rfl,trivial⟩ (IQ fb bn cn dn cs most sh c (i:=i) hc (t:=t) hx (hok x (aO hx)) (hlen x (aO hx)) (cw t)) ?_;rintro _ _ _ _ ⟨u,hu,rfl,rfl,rfl,rfl⟩;have Yp:=Ei CW hx;have hul:u.n=(fE t i).length:=by rw[hu,Yp,bL]
  rw[Yp];obtain⟨ua,un,uc⟩:=u;simp only at hul;refine kB [] Tryz.f45 0 60 60 [0,1,33,34,4,5,8,35] [] (dpU fb c ⟨ua,un,uc⟩) (fun _=>[]) (fun _=>FO fb cs bn cn dn most sh) (fun a=>[(bn,bM dT (b_ (cw t))),(dn,bM dA (b_ a.dm))]) (fun a=>[NL ⟨ua,un,uc⟩ ((fE t i).map fun k:Nat=>(k:Int)),pF cs t]) (fun a=>a.z=a.j∧a.j≤un∧Yc t ((fE t i).take a.j) a.m∧Rk t a.dm∧(∀j:Nat,gG (j:Int) a.dm=some 0→gG (j:Int) (kV c 0 dm)=some 0)∧vn t a.dm<vn t dm) (fun a=>un-a.j) ⟨0,0,0,kV c 0 dm⟩ ⟨rfl,aM _,⟨0,rfl⟩,?_,fun _ h=>h,by rw[hc];exact hlt⟩ (eC eK (eC eK eE)) ?_
  ·intro k v hk;rw[iG]at hk;split at hk
   ·injection hk with hk;exact⟨i,by omega,.inl hk.symm⟩
   ·exact hdm k v hk
  rintro⟨j,z,m,em⟩ K ⟨hz,hj,Wp,JM,hze,hfe⟩ close;simp only at hz hj Wp JM hze hfe;refine MU ⟨ua,un,uc⟩ (l:=(fE t i).map fun k:Nat=>(k:Int)) rfl (fun _ hu2 hu3=>?_);simp only at hu2 hu3;by_cases hlt2:j<un
  ·obtain⟨k,hk⟩:∃k,(fE t i)[j]? =some k:=⟨_,ar (by omega)⟩;have hkm:=aO hk;obtain⟨bb,off,hao⟩:=hu3 (by intro e;rw[List.map_eq_nil_iff]at e;rw[e]at hkm;simp at hkm);subst hao;refine bD [] 36 (decide (z<(un:Int))) (aw (by omega)) ?_;refine cA [36] 1 bb off un uc .i64 j z hz bK hlt2 ?_;refine eg [] 1 bb (off+j*1) (.int .i64 (k:Int)) bK (sK bb off un uc (by rw[bN,hk];rfl)) ?_;have np:Tt t em k:=fun q hq=>by
    have h1:=hze q hq;rw[hc,iG]at h1;split at h1
    ·rename_i hqi;obtain rfl:q=i:=by omega
     exact .one hkm
    ·exact(how q h1).trans (.one hkm)
   refine cZ [] [] (FO fb cs bn cn dn most sh) [] [] [(bn,bM dT (b_ (cw t))),(dn,bM dA (b_ em))] [] ⟨rfl,by rfl,trivial⟩ (ih (n-1) (by omega) _ (k:Int) k rfl (wY hkm) em JM np (by omega)) ?_;rintro _ _ _ _ ⟨d,b,Lf,⟨ht,hf⟩,rfl,rfl,rfl,rfl⟩;cases b with
   |false=>
    refine bD [] 46 (!false) rfl ?_;exact j0 [46] (.tuple #[.int .i64 0,.bool false]) (FO fb cs bn cn dn most sh) [(bn,bM dT (b_ (cw t))),(dn,bM dA (b_ Lf))] ⟨0,false,Lf,⟨fun h=>by simp at h,fun _=>hf rfl⟩,rfl,rfl,rfl,rfl⟩ bU
   |true=>
    obtain⟨e,rfl,Ir,hd1,hd2,hd3⟩:=ht rfl;refine aS [] 46 (!true) rfl ?_;refine MS [46] .i64 (m:Int) (e:Int) ((max m e:Nat):Int) (by omega) ?_;refine close [] _ _ ⟨j+1,IntKind.i64.wrap (z+1),max m e,Lf⟩ (by kernel_rfl) (by kernel_rfl) ⟨by simp only[ah];omega,hlt2,?_,hd1,fun q hq=>hze q (hd2 q hq),by simp only;omega⟩ (by simp only;omega) (eC eK (eC eK eE));rw[List.take_add_one,hk];exact Wp.snoc Ir
  ·have htk:(fE t i).take j=fE t i:=aV (by omega);rw[htk]at Wp;have sR:=Wp.dep;have agB:=Le hi sR;have hw:IntKind.i64.wrap ((m:Int)+1)=((m+1:Nat):Int):=by rw[ah];omega
   refine aS [] 36 (decide (z<(un:Int))) (ak (by omega)) ?_;refine cr [36] 3 fb 0 bK ?_;refine dQ [] (FO fb cs bn cn dn most sh) fb (0+3) 1 [bz cs,.map (some bn),.map (some cn),.map (some dn),.int .i64 most,sh] (.map (some dn)) bK (.head _) rfl ?_;refine Ct [] dA 70 3 3 (FO fb cs bn cn dn most sh) [(bn,bM dT (b_ (cw t)))] [] dn c (.int .i64 (IntKind.i64.wrap ((m:Int)+1))) (b_ em) ?_;rw[qU,hw];refine j0 [] (.tuple #[.int .i64 ((m+1:Nat):Int),.bool true]) (FO fb cs bn cn dn most sh) [(bn,bM dT (b_ (cw t))),(dn,bM dA (b_ (kV c ((m+1:Nat):Int) em)))] (h:=(by rw[←hw];kernel_rfl)) ⟨((m+1:Nat):Int),true,kV c ((m+1:Nat):Int) em,⟨fun _=>⟨m+1,rfl,sR,?_,?_,?_⟩,fun h=>by simp at h⟩,rfl,rfl,rfl,rfl⟩ bU
   ·intro k v hk;rw[iG]at hk;split at hk
    ·injection hk with hk;exact⟨i,by omega,.inr ⟨m+1,hk.symm,sR⟩⟩
    ·exact JM k v hk
   ·intro q hq;rw[iG]at hq;split at hq
    ·injection hq with hq;omega
    ·rename_i hne;have h1:=hze q hq;rw[iG,if_neg hne]at h1;exact h1
   ·have:=NT (t:=t) (dm:=em) c ((m+1:Nat):Int);omega
end
end Go.Proofs.YtgaaopjagcaojaaGreat
