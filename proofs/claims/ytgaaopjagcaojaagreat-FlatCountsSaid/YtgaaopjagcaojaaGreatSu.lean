import Derived.Test.YtgaaopjagcaojaaGreatPr
set_option linter.unusedSimpArgs false
set_option linter.unusedVariables false
set_option maxHeartbeats 4000000
namespace Go.Proofs.YtgaaopjagcaojaaGreat
open Go.RowKit Go.IntWalk
structure Qw where
 n:Sl
 a:Bool
 m:Sl
 b:Bool
structure Sw where
 u:Sl
 d:Bool
 v:Sl
 e:Bool
 p:Qw
 q:Qw
 r:Qw
 s:Qw
structure Sn where
 m:Int
 n:Int
 p:Rat
 q:Rat
 r:Rat
 s:Rat
abbrev QG(x:Qw):Nat×Rat→aC:=QF x.n x.a x.m x.b
abbrev sv(x:Sw):Value:=.agg #[.slice x.u.ao x.u.n x.u.c,.bool x.d,.slice x.v.ao x.v.n x.v.c,.bool x.e,
 .slice x.p.n.ao x.p.n.n x.p.n.c,.bool x.p.a,.slice x.p.m.ao x.p.m.n x.p.m.c,.bool x.p.b,.slice x.q.n.ao x.q.n.n x.q.n.c,.bool x.q.a,.slice x.q.m.ao x.q.m.n x.q.m.c,.bool x.q.b,
 .slice x.r.n.ao x.r.n.n x.r.n.c,.bool x.r.a,.slice x.r.m.ao x.r.m.n x.r.m.c,.bool x.r.b,.slice x.s.n.ao x.s.n.n x.s.n.c,.bool x.s.a,.slice x.s.m.ao x.s.m.n x.s.m.c,.bool x.s.b]
abbrev ptv(x:Sw):Value:=.agg #[
 .slice x.p.n.ao x.p.n.n x.p.n.c,.bool x.p.a,.slice x.p.m.ao x.p.m.n x.p.m.c,.bool x.p.b,.slice x.q.n.ao x.q.n.n x.q.n.c,.bool x.q.a,.slice x.q.m.ao x.q.m.n x.q.m.c,.bool x.q.b,
 .slice x.r.n.ao x.r.n.n x.r.n.c,.bool x.r.a,.slice x.r.m.ao x.r.m.n x.r.m.c,.bool x.r.b,.slice x.s.n.ao x.s.n.n x.s.n.c,.bool x.s.a,.slice x.s.m.ao x.s.m.n x.s.m.c,.bool x.s.b]
abbrev bV:Qw:=⟨⟨none,0,0⟩,false,⟨none,0,0⟩,false⟩
def BS:Sw:=⟨⟨none,0,0⟩,false,⟨none,0,0⟩,false,bV,bV,bV,bV⟩
def SF(x:Sw)(a:Nat×Sn):aC where
 p I w:=(ZF x.u x.d (a.1,a.2.m)).p I w∧(ZF x.v x.e (a.1,a.2.n)).p I w∧(QG x.p (a.1,a.2.p)).p I w∧(QG x.q (a.1,a.2.q)).p I w∧(QG x.r (a.1,a.2.r)).p I w∧(QG x.s (a.1,a.2.s)).p I w
 up:=by
  rintro I I' w w' ⟨g1,g2,g3,g4,g5,g6⟩ h1 h2 h3;exact⟨(ZF x.u x.d _).up g1 h1 h2 h3,(ZF x.v x.e _).up g2 h1 h2 h3,(QG x.p _).up g3 h1 h2 h3,(QG x.q _).up g4 h1 h2 h3,(QG x.r _).up g5 h1 h2 h3,(QG x.s _).up g6 h1 h2 h3⟩
def Ti(L:Nat)(S:Sn)(v:Value)(Δ:List aC):Prop:=∃x:Sw,v=sv x∧Δ=[SF x (L,S)]
def XR(L:Nat)(S:Sn)(v:Value)(Δ:List aC):Prop:=∃x:Sw,v=.tuple #[sv x,.int .i64 0]∧Δ=[SF x (L,S)]
structure Pw where
 n:Int
 a:Sl
 m:Int
 b:Sl
structure Tw where
 d:Int
 u:Sl
 e:Int
 v:Sl
 p:Pw
 q:Pw
 r:Pw
 s:Pw
abbrev tv(x:Tw):Value:=.agg #[.int .i64 x.d,.slice x.u.ao x.u.n x.u.c,.int .i64 x.e,.slice x.v.ao x.v.n x.v.c,
 .int .i64 x.p.n,.slice x.p.a.ao x.p.a.n x.p.a.c,.int .i64 x.p.m,.slice x.p.b.ao x.p.b.n x.p.b.c,.int .i64 x.q.n,.slice x.q.a.ao x.q.a.n x.q.a.c,.int .i64 x.q.m,.slice x.q.b.ao x.q.b.n x.q.b.c,
 .int .i64 x.r.n,.slice x.r.a.ao x.r.a.n x.r.a.c,.int .i64 x.r.m,.slice x.r.b.ao x.r.b.n x.r.b.c,.int .i64 x.s.n,.slice x.s.a.ao x.s.a.n x.s.a.c,.int .i64 x.s.m,.slice x.s.b.ao x.s.b.n x.s.b.c]
section
variable{fin:VS→List aC→Prop}{Γ:List aC}{L:Nat}
theorem sM{P:Program}{c:fC}(x:Sw){S:Sn} [h:aY (SF x) (L,S) Γ](hm:dz c.k=false)
  (hk:W tb P fin c (ZF x.u x.d (L,S.m)::ZF x.v x.e (L,S.n)::QG x.p (L,S.p)::QG x.q (L,S.q)::QG x.r (L,S.r)::QG x.s (L,S.s)::Γ)):W tb P fin c Γ:=
 W.elim (α:=Unit) (fun _=>True) (fun _=>[ZF x.u x.d (L,S.m),ZF x.v x.e (L,S.n),QG x.p (L,S.p),QG x.q (L,S.q),QG x.r (L,S.r),QG x.s (L,S.s)]) hm (fun I w _ hh=>by
  obtain⟨g1,g2,g3,g4,g5,g6⟩:=h.p hh;exact⟨(),trivial,aE.cons g1 (aE.cons g2 (aE.cons g3 (aE.cons g4 (aE.cons g5 (aU g6)))))⟩) (fun _ _=>hk)
theorem QF.up2{n m:Sl}{a b:Bool}{L L':Nat}{q:Rat}{I:fN}{w:World}(h:(QF n a m b (L,q)).p I w)(hL:L≤L'):(QF n a m b (L',q)).p I w:=by
 obtain⟨y,⟨⟨h1,h2,h3⟩,h4⟩,⟨⟨g1,g2,g3⟩,g4⟩,hy⟩:=h;exact⟨y,⟨⟨h1,h2,aP h3 hL⟩,h4⟩,⟨⟨g1,g2,aP g3 hL⟩,g4⟩,hy⟩
theorem ZF.up2{n:Sl}{a:Bool}{L L':Nat}{q:Int}{I:fN}{w:World}(h:(ZF n a (L,q)).p I w)(hL:L≤L'):(ZF n a (L',q)).p I w:=by
 obtain⟨⟨h1,h2,h3⟩,h4⟩:=h;exact⟨⟨h1,h2,aP h3 hL⟩,h4⟩
theorem KT{x:Sw}{L' L1 L2 L3 L4 L5 L6:Nat}{m n:Int}{p q r s:Rat}{S:Sn} [h1:aY (ZF x.u x.d) (L1,m) Γ] [h2:aY (ZF x.v x.e) (L2,n) Γ] [h3:aY (QG x.p) (L3,p) Γ] [h4:aY (QG x.q) (L4,q) Γ] [h5:aY (QG x.r) (L5,r) Γ] [h6:aY (QG x.s) (L6,s) Γ]
  (hm:m=S.m)(hn:n=S.n)(hp:p=S.p)(hq:q=S.q)(hr:r=S.r)(hs:s=S.s)(hL:L1≤L'∧L2≤L'∧L3≤L'∧L4≤L'∧L5≤L'∧L6≤L'):∀(I:fN) (w:World),br tb I w→aE Γ I w→aE [SF x (L',S)] I w:=fun I w _ hh=>by
 subst hm hn hp hq hr hs;obtain⟨l1,l2,l3,l4,l5,l6⟩:=hL;exact aU ⟨ZF.up2 (h1.p hh) l1,ZF.up2 (h2.p hh) l2,QF.up2 (h3.p hh) l3,QF.up2 (h4.p hh) l4,QF.up2 (h5.p hh) l5,QF.up2 (h6.p hh) l6⟩
theorem pG{x:Sw}{L':Nat}{S S':Sn} [h:aY (SF x) (L,S) Γ](hL:L≤L')(hS:S=S'):∀(I:fN) (w:World),br tb I w→aE Γ I w→aE [SF x (L',S')] I w:=fun I w _ hh=>by
 subst hS;obtain⟨g1,g2,g3,g4,g5,g6⟩:=h.p hh;exact aU ⟨ZF.up2 g1 hL,ZF.up2 g2 hL,QF.up2 g3 hL,QF.up2 g4 hL,QF.up2 g5 hL,QF.up2 g6 hL⟩
end
def Sn.neg(S:Sn):Sn:=⟨S.m,S.n,-S.p,-S.q,-S.r,-S.s⟩
def Sn.add(S T:Sn):Sn:=⟨S.m,S.n,S.p+T.p,S.q+T.q,S.r+T.r,S.s+T.s⟩
def Sn.sub(S T:Sn):Sn:=⟨S.m,S.n,S.p-T.p,S.q-T.q,S.r-T.r,S.s-T.s⟩
def Sn.mul(S T:Sn):Sn:=⟨S.m,S.n,
 S.p*T.p+S.m*(S.q*T.q)+S.n*(S.r*T.r)+S.m*S.n*(S.s*T.s),
 S.p*T.q+S.q*T.p+S.n*(S.r*T.s+S.s*T.r),
 S.p*T.r+S.r*T.p+S.m*(S.q*T.s+S.s*T.q),
 S.p*T.s+S.s*T.p+S.q*T.r+S.r*T.q⟩
def Bu(x y:Rat)(m:Int):Int:=
 let s:=x.num.sign
 let t:=if m.sign=0 then 0 else y.num.sign
 if t=0∨s=t then s else if s=0 then t else s*vx (x*x) (y*y*m)
def Sn.sg(S:Sn):Int:=
 let s:=Bu S.p S.q S.m
 let t:=if S.n.sign=0 then 0 else Bu S.r S.s S.m
 if t=0∨s=t then s else if s=0 then t else
  s*Bu (S.p*S.p+S.m*S.q*S.q-S.n*(S.r*S.r+S.m*S.s*S.s)) (2*(S.p*S.q-S.n*S.r*S.s)) S.m
theorem Sn.ext'{S T:Sn}(h1:S.m=T.m)(h2:S.n=T.n)(h3:S.p=T.p)(h4:S.q=T.q)(h5:S.r=T.r)(h6:S.s=T.s):S=T:=by
 cases S;cases T;simp_all
theorem Sn.mul_comm{S T:Sn}(hm:T.m=S.m)(hn:T.n=S.n):S.mul T=T.mul S:=by
 refine Sn.ext' hm.symm hn.symm ?_ ?_ ?_ ?_ <;>simp only[Sn.mul,hm,hn]<;>grind
theorem Ky(S T:Sn):S.add T.neg=S.sub T:=by
 refine Sn.ext' rfl rfl ?_ ?_ ?_ ?_ <;>simp only[Sn.add,Sn.neg,Sn.sub]<;>grind
def kI(x:Rat)(root:Int)(k:Nat):Int:=
 let q:Int:=(xI (x.num.natAbs*x.num.natAbs*root.natAbs*2^(2*k)):Nat)/(x.den:Int)
 if x.num.sign<0 then-q else q
def Sn.lessq(S:Sn)(q:Int):Sn:=⟨S.m,S.n,S.p-q,S.q,S.r,S.s⟩
def Sn.low(S:Sn):Int:=(0+kI S.p 1 8+kI S.q S.m 8+kI S.r S.n 8+kI S.s (S.m*S.n) 8)/256
def Sn.up(S:Sn)(h:Rat):Sn:=⟨S.m,S.n,S.p+h,S.q,S.r,S.s⟩
def Sn.half(S:Sn):Sn:=S.up (Rat.divInt 1 2)
def L0(z:Int):Prop:=z= -1∨z=0∨z=1
theorem UE{a b:Int}(ha:L0 a)(hb:L0 b):IntKind.i64.wrap (a*b)=a*b:=by
 rcases ha with rfl|rfl|rfl<;>rcases hb with rfl|rfl|rfl<;>rfl
theorem P_(z:Int):L0 z.sign:=by
 unfold L0;rcases Int.lt_trichotomy z 0 with h|h|h
 ·exact .inl (jw h)
 ·subst h;exact .inr (.inl rfl)
 ·exact .inr (.inr (fO h))
theorem TI(a b:Rat):L0 (vx a b):=by unfold L0 vx;grind
theorem SS{a b:Int}(ha:L0 a)(hb:L0 b):L0 (a*b):=by
 rcases ha with rfl|rfl|rfl<;>rcases hb with rfl|rfl|rfl<;>unfold L0<;>decide
theorem Uw(x y:Rat)(m:Int):L0 (Bu x y m):=by
 unfold Bu;have h1:=P_ x.num;have h2:=P_ y.num;have h3:=SS h1 (TI (x*x) (y*y*m));have h0:L0 0:=.inr (.inl rfl);simp only
 (repeat' split)<;>assumption
section
variable{fin:VS→List aC→Prop}{Γ:List aC}{L M K:Nat}
theorem Ba(x:Sw):
  aw tb Tryz.prog 147 [sv x] Γ (jf (.tuple #[zv x.u x.d,zv x.v x.e])):=by
 refine aw.of_W az Tryz.func147 rfl ?_;exact W.r [] (.tuple #[zv x.u x.d,zv x.v x.e]) ⟨rfl,rfl⟩ bR
theorem wU(x:Sw):
  aw tb Tryz.prog 213 [sv x] Γ (jf (ptv x)):=by
 refine aw.of_W az Tryz.func213 rfl ?_;exact W.r [] (ptv x) ⟨rfl,rfl⟩ bR
theorem J5(x:Sw){S:Sn} [aY (SF x) (L,S) Γ](y:Sw){T:Sn} [aY (SF y) (M,T) Γ](hm:S.m=T.m)(hn:S.n=T.n)(hL:L≤100000:=by omega)(hM:M≤100000:=by omega):
  aw tb Tryz.prog 214 [sv x,sv y] Γ (jf (.bool true)):=by
 refine aw.of_W az Tryz.func214 rfl ?_;refine sM x rfl ?_;refine sM y rfl ?_;refine aq [] (oY x.u x.d y.u y.d) ?_;rintro _ _ ⟨rfl,rfl⟩;refine bk [] 13 ((mX S.m T.m)==0) (by rw[mu,DD];exact hm) ?_;refine aq [13] (oY x.v x.e y.v y.e) ?_;rintro _ _ ⟨rfl,rfl⟩;exact W.r [13] (.bool ((mX S.n T.n)==0)) ⟨by rw[DD.2 hn];rfl,rfl⟩ bR
theorem Ei(x:Sw){S:Sn} [aY (SF x) (L,S) Γ](hL:L≤100000:=by omega):
  aw tb Tryz.prog 151 [sv x] Γ (Ti L S.neg):=by
 refine aw.of_W az Tryz.func151 rfl ?_;refine sM x rfl ?_;refine jP [] 6 ?_;refine aq [8] (oW x.p.n x.p.a x.p.m x.p.b) ?_;rintro _ _ ⟨n1,a1,m1,b1,rfl,rfl⟩;refine aq [8] (oW x.q.n x.q.a x.q.m x.q.b) ?_;rintro _ _ ⟨n2,a2,m2,b2,rfl,rfl⟩;refine aq [8] (oW x.r.n x.r.a x.r.m x.r.b) ?_;rintro _ _ ⟨n3,a3,m3,b3,rfl,rfl⟩;refine aq [8] (oW x.s.n x.s.a x.s.m x.s.b) ?_;rintro _ _ ⟨n4,a4,m4,b4,rfl,rfl⟩;exact W.r [8] (sv ⟨x.u,x.d,x.v,x.e,⟨n1,a1,m1,b1⟩,⟨n2,a2,m2,b2⟩,⟨n3,a3,m3,b3⟩,⟨n4,a4,m4,b4⟩⟩) ⟨_,rfl,rfl⟩ (KT rfl rfl rfl rfl rfl rfl (by omega))
theorem oX(x:Sw){S:Sn} [aY (SF x) (L,S) Γ](y:Sw){T:Sn} [aY (SF y) (M,T) Γ](hm:S.m=T.m)(hn:S.n=T.n)(hL:L≤100000:=by omega)(hM:M≤100000:=by omega):
  aw tb Tryz.prog 152 [sv x,sv y] Γ (XR (L+M+5) (S.add T)):=by
 refine aw.of_W az Tryz.func152 rfl ?_;refine sM x rfl ?_;refine sM y rfl ?_;refine aq [] (J5 x y hm hn) ?_;rintro _ _ ⟨rfl,rfl⟩;refine jP [11] 6 ?_;refine aq [16] (fo x.p.n x.p.a x.p.m x.p.b y.p.n y.p.a y.p.m y.p.b) ?_;rintro _ _ ⟨n2,a2,m2,b2,rfl,rfl⟩;refine aq [16] (fo x.q.n x.q.a x.q.m x.q.b y.q.n y.q.a y.q.m y.q.b) ?_;rintro _ _ ⟨n3,a3,m3,b3,rfl,rfl⟩;refine aq [16] (fo x.r.n x.r.a x.r.m x.r.b y.r.n y.r.a y.r.m y.r.b) ?_;rintro _ _ ⟨n4,a4,m4,b4,rfl,rfl⟩;refine aq [16] (fo x.s.n x.s.a x.s.m x.s.b y.s.n y.s.a y.s.m y.s.b) ?_;rintro _ _ ⟨n5,a5,m5,b5,rfl,rfl⟩;exact W.r [16] (.tuple #[sv ⟨x.u,x.d,x.v,x.e,⟨n2,a2,m2,b2⟩,⟨n3,a3,m3,b3⟩,⟨n4,a4,m4,b4⟩,⟨n5,a5,m5,b5⟩⟩,.int .i64 0]) ⟨_,rfl,rfl⟩ (KT rfl rfl rfl rfl rfl rfl (by omega))
theorem Xa(x:Sw){S:Sn} [aY (SF x) (L,S) Γ](y:Sw){T:Sn} [aY (SF y) (M,T) Γ](hm:S.m=T.m)(hn:S.n=T.n)(hL:L≤100000:=by omega)(hM:M≤100000:=by omega):
  aw tb Tryz.prog 210 [sv x,sv y] Γ (XR (L+M+5) (S.sub T)):=by
 refine aw.of_W az Tryz.func210 rfl ?_;refine aq [] (Ei y) ?_;rintro _ _ ⟨X1,rfl,rfl⟩;refine aq [] (oX x X1 (by exact hm) (by exact hn)) ?_;rintro _ _ ⟨X2,rfl,rfl⟩;exact W.r [] (.tuple #[sv X2,.int .i64 0]) ⟨_,rfl,rfl⟩ (pG (by omega) (Ky _ _))
theorem Ps(x:Sw){S:Sn} [aY (SF x) (L,S) Γ](y:Sw){T:Sn} [aY (SF y) (M,T) Γ](hm:S.m=T.m)(hn:S.n=T.n)(hL:L≤100000:=by omega)(hM:M≤100000:=by omega):
  aw tb Tryz.prog 150 [sv x,sv y] Γ (XR (4*L+4*M+8*max L 2+200) (S.mul T)):=by
 refine aw.of_W az Tryz.func150 rfl ?_;refine sM x rfl ?_;refine sM y rfl ?_;refine W.more rfl (kN (L':=0)) ?_;refine aq [] (J5 x y hm hn) ?_;rintro _ _ ⟨rfl,rfl⟩;refine aq [17] (cg x.u x.d) ?_;rintro _ _ ⟨n2,a2,m2,b2,rfl,rfl⟩;refine aq [] (cg x.v x.e) ?_;rintro _ _ ⟨n3,a3,m3,b3,rfl,rfl⟩;refine aq [] (cU 1 (by omega) (by omega)) ?_;rintro _ _ ⟨u4,d4,rfl,rfl⟩;refine aq [] (cg u4 d4) ?_;rintro _ _ ⟨n5,a5,m5,b5,rfl,rfl⟩;refine aq [] (bN n2 a2 m2 b2 n3 a3 m3 b3) ?_;rintro _ _ ⟨n6,a6,m6,b6,rfl,rfl⟩;refine jP [] 6 ?_;refine jP [38] 6 ?_;refine aq [44] (bN x.p.n x.p.a x.p.m x.p.b y.p.n y.p.a y.p.m y.p.b) ?_;rintro _ _ ⟨n7,a7,m7,b7,rfl,rfl⟩;refine aq [] (bN n7 a7 m7 b7 n5 a5 m5 b5) ?_;rintro _ _ ⟨n8,a8,m8,b8,rfl,rfl⟩;refine aq [] (fo ⟨none,0,0⟩ false ⟨none,0,0⟩ false n8 a8 m8 b8) ?_;rintro _ _ ⟨n9,a9,m9,b9,rfl,rfl⟩;refine aq [44] (bN x.p.n x.p.a x.p.m x.p.b y.q.n y.q.a y.q.m y.q.b) ?_;rintro _ _ ⟨n10,Rl,Z_,y6,rfl,rfl⟩;refine aq [] (bN n10 Rl Z_ y6 n5 a5 m5 b5) ?_;rintro _ _ ⟨n11,U1,m11,Ae,rfl,rfl⟩;refine aq [] (fo ⟨none,0,0⟩ false ⟨none,0,0⟩ false n11 U1 m11 Ae) ?_;rintro _ _ ⟨Ws,YQ,m12,Tx,rfl,rfl⟩;refine aq [44] (bN x.p.n x.p.a x.p.m x.p.b y.r.n y.r.a y.r.m y.r.b) ?_;rintro _ _ ⟨n13,U2,m13,Ch,rfl,rfl⟩;refine aq [] (bN n13 U2 m13 Ch n5 a5 m5 b5) ?_;rintro _ _ ⟨n14,U3,m14,Ve,rfl,rfl⟩
 refine aq [] (fo ⟨none,0,0⟩ false ⟨none,0,0⟩ false n14 U3 m14 Ve) ?_;rintro _ _ ⟨n15,a15,m15,b15,rfl,rfl⟩;refine aq [44] (bN x.p.n x.p.a x.p.m x.p.b y.s.n y.s.a y.s.m y.s.b) ?_;rintro _ _ ⟨n16,a16,m16,b16,rfl,rfl⟩;refine aq [] (bN n16 a16 m16 b16 n5 a5 m5 b5) ?_;rintro _ _ ⟨n17,a17,m17,b17,rfl,rfl⟩;refine aq [] (fo ⟨none,0,0⟩ false ⟨none,0,0⟩ false n17 a17 m17 b17) ?_;rintro _ _ ⟨Yo,XT,Yl,b18,rfl,rfl⟩;refine jP [38,44] 6 ?_;refine aq [44] (bN x.q.n x.q.a x.q.m x.q.b y.p.n y.p.a y.p.m y.p.b) ?_;rintro _ _ ⟨Yp,XU,Ym,XW,rfl,rfl⟩;refine aq [] (bN Yp XU Ym XW n5 a5 m5 b5) ?_;rintro _ _ ⟨n20,a20,m20,b20,rfl,rfl⟩;refine aq [] (fo Ws YQ m12 Tx n20 a20 m20 b20) ?_;rintro _ _ ⟨Yq,XV,Yn,XX,rfl,rfl⟩;refine aq [44] (bN x.q.n x.q.a x.q.m x.q.b y.q.n y.q.a y.q.m y.q.b) ?_;rintro _ _ ⟨n22,a22,m22,b22,rfl,rfl⟩;refine aq [] (bN n22 a22 m22 b22 n2 a2 m2 b2) ?_;rintro _ _ ⟨n23,a23,m23,b23,rfl,rfl⟩;refine aq [] (fo n9 a9 m9 b9 n23 a23 m23 b23) ?_;rintro _ _ ⟨n24,a24,m24,b24,rfl,rfl⟩;refine aq [44] (bN x.q.n x.q.a x.q.m x.q.b y.r.n y.r.a y.r.m y.r.b) ?_;rintro _ _ ⟨n25,a25,m25,b25,rfl,rfl⟩;refine aq [] (bN n25 a25 m25 b25 n5 a5 m5 b5) ?_;rintro _ _ ⟨n26,a26,m26,b26,rfl,rfl⟩;refine aq [] (fo Yo XT Yl b18 n26 a26 m26 b26) ?_;rintro _ _ ⟨n27,U4,m27,Vf,rfl,rfl⟩;refine aq [44] (bN x.q.n x.q.a x.q.m x.q.b y.s.n y.s.a y.s.m y.s.b) ?_
 rintro _ _ ⟨n28,U5,m28,xo,rfl,rfl⟩;refine aq [] (bN n28 U5 m28 xo n2 a2 m2 b2) ?_;rintro _ _ ⟨n29,U6,m29,Vg,rfl,rfl⟩;refine aq [] (fo n15 a15 m15 b15 n29 U6 m29 Vg) ?_;rintro _ _ ⟨n30,a30,m30,b30,rfl,rfl⟩;refine jP [38,44] 6 ?_;refine aq [44] (bN x.r.n x.r.a x.r.m x.r.b y.p.n y.p.a y.p.m y.p.b) ?_;rintro _ _ ⟨n31,a31,m31,zc,rfl,rfl⟩;refine aq [] (bN n31 a31 m31 zc n5 a5 m5 b5) ?_;rintro _ _ ⟨n32,a32,m32,b32,rfl,rfl⟩;refine aq [] (fo n30 a30 m30 b30 n32 a32 m32 b32) ?_;rintro _ _ ⟨n33,a33,m33,Dw,rfl,rfl⟩;refine aq [44] (bN x.r.n x.r.a x.r.m x.r.b y.q.n y.q.a y.q.m y.q.b) ?_;rintro _ _ ⟨n34,a34,m34,b34,rfl,rfl⟩;refine aq [] (bN n34 a34 m34 b34 n5 a5 m5 b5) ?_;rintro _ _ ⟨n35,a35,m35,b35,rfl,rfl⟩;refine aq [] (fo n27 U4 m27 Vf n35 a35 m35 b35) ?_;rintro _ _ ⟨n36,a36,m36,b36,rfl,rfl⟩;refine aq [44] (bN x.r.n x.r.a x.r.m x.r.b y.r.n y.r.a y.r.m y.r.b) ?_;rintro _ _ ⟨n37,a37,m37,b37,rfl,rfl⟩;refine aq [] (bN n37 a37 m37 b37 n3 a3 m3 b3) ?_;rintro _ _ ⟨n38,a38,m38,b38,rfl,rfl⟩;refine aq [] (fo n24 a24 m24 b24 n38 a38 m38 b38) ?_;rintro _ _ ⟨n39,a39,m39,b39,rfl,rfl⟩;refine aq [44] (bN x.r.n x.r.a x.r.m x.r.b y.s.n y.s.a y.s.m y.s.b) ?_;rintro _ _ ⟨n40,a40,m40,b40,rfl,rfl⟩;refine aq [] (bN n40 a40 m40 b40 n3 a3 m3 b3) ?_;rintro _ _ ⟨n41,a41,m41,b41,rfl,rfl⟩;refine aq [] (fo Yq XV Yn XX n41 a41 m41 b41) ?_
 rintro _ _ ⟨n42,a42,m42,b42,rfl,rfl⟩;refine jP [38,44] 6 ?_;refine aq [44] (bN x.s.n x.s.a x.s.m x.s.b y.p.n y.p.a y.p.m y.p.b) ?_;rintro _ _ ⟨n43,a43,m43,b43,rfl,rfl⟩;refine aq [] (bN n43 a43 m43 b43 n5 a5 m5 b5) ?_;rintro _ _ ⟨n44,a44,m44,b44,rfl,rfl⟩;refine aq [] (fo n36 a36 m36 b36 n44 a44 m44 b44) ?_;rintro _ _ ⟨n45,a45,m45,b45,rfl,rfl⟩;refine aq [44] (bN x.s.n x.s.a x.s.m x.s.b y.q.n y.q.a y.q.m y.q.b) ?_;rintro _ _ ⟨n46,a46,m46,b46,rfl,rfl⟩;refine aq [] (bN n46 a46 m46 b46 n2 a2 m2 b2) ?_;rintro _ _ ⟨n47,a47,m47,b47,rfl,rfl⟩;refine aq [] (fo n33 a33 m33 Dw n47 a47 m47 b47) ?_;rintro _ _ ⟨n48,a48,m48,b48,rfl,rfl⟩;refine aq [44] (bN x.s.n x.s.a x.s.m x.s.b y.r.n y.r.a y.r.m y.r.b) ?_;rintro _ _ ⟨n49,a49,m49,KE,rfl,rfl⟩;refine aq [] (bN n49 a49 m49 KE n3 a3 m3 b3) ?_;rintro _ _ ⟨n50,a50,m50,b50,rfl,rfl⟩;refine aq [] (fo n42 a42 m42 b42 n50 a50 m50 b50) ?_;rintro _ _ ⟨n51,a51,m51,KG,rfl,rfl⟩;refine aq [44] (bN x.s.n x.s.a x.s.m x.s.b y.s.n y.s.a y.s.m y.s.b) ?_;rintro _ _ ⟨n52,a52,m52,b52,rfl,rfl⟩;refine aq [] (bN n52 a52 m52 b52 n6 a6 m6 b6) ?_;rintro _ _ ⟨n53,a53,m53,b53,rfl,rfl⟩;refine aq [] (fo n39 a39 m39 b39 n53 a53 m53 b53) ?_;rintro _ _ ⟨n54,a54,m54,b54,rfl,rfl⟩;exact W.r [38,44] (.tuple #[sv ⟨x.u,x.d,x.v,x.e,⟨n54,a54,m54,b54⟩,⟨n51,a51,m51,KG⟩,⟨n48,a48,m48,b48⟩,⟨n45,a45,m45,b45⟩⟩,.int .i64 0]) ⟨_,rfl,rfl⟩ (KT rfl rfl (by simp only[Sn.mul];grind) (by simp only[Sn.mul];grind) (by simp only[Sn.mul];grind) (by simp only[Sn.mul];grind) (by omega))
theorem ID(n:Sl)(a:Bool)(m:Sl)(b:Bool)(k:Sl)(c:Bool)(l:Sl)(d:Bool)(u:Sl)(e:Bool){x y:Rat}{z:Int} [aY (QF n a m b) (L,x) Γ] [aY (QF k c l d) (M,y) Γ] [aY (ZF u e) (K,z) Γ](hL:L≤400000:=by omega)(hM:M≤290000:=by omega)(hK:K≤400000:=by omega):
  aw tb Tryz.prog 270 [qv n a m b,qv k c l d,zv u e] Γ (jf (.int .i64 (Bu x y z))):=by
 refine aw.of_W az Tryz.func270 rfl ?_;refine aq [] (iQ n a m b) ?_;rintro _ _ ⟨rfl,rfl⟩;refine aq [] (iQ k c l d) ?_;rintro _ _ ⟨rfl,rfl⟩;refine aq [] (mP u e) ?_;rintro _ _ ⟨rfl,rfl⟩;refine W.d [] 15 ((z).sign==0) (fun hb=>?_) (fun hb=>?_)
 ·skip
  exact W.r [16,19,15] (.int .i64 x.num.sign) ⟨dF _ (by unfold Bu;grind),rfl⟩ bR
 ·skip
  refine W.d [15] 19 (y.num.sign==0) (fun hb=>?_) (fun hb=>?_)
  ·skip
   exact W.r [16,19] (.int .i64 x.num.sign) ⟨dF _ (by unfold Bu;grind),rfl⟩ bR
  ·skip
   refine W.d [19] 16 (x.num.sign==y.num.sign) (fun hb=>?_) (fun hb=>?_)
   ·skip
    exact W.r [16] (.int .i64 x.num.sign) ⟨dF _ (by unfold Bu;grind),rfl⟩ bR
   ·skip
    refine W.d [16] 25 (x.num.sign==0) (fun hb=>?_) (fun hb=>?_)
    ·skip
     exact W.r [25] (.int .i64 y.num.sign) ⟨dF _ (by unfold Bu;grind),rfl⟩ bR
    ·skip
     refine aq [25] (bN n a m b n a m b) ?_;rintro _ _ ⟨n4,a4,m4,b4,rfl,rfl⟩;refine aq [] (bN k c l d k c l d) ?_;rintro _ _ ⟨n5,a5,m5,b5,rfl,rfl⟩;refine aq [] (cg u e) ?_;rintro _ _ ⟨n6,a6,m6,b6,rfl,rfl⟩;refine aq [] (bN n5 a5 m5 b5 n6 a6 m6 b6) ?_;rintro _ _ ⟨n7,a7,m7,b7,rfl,rfl⟩;refine aq [] (WX n4 a4 m4 b4 n7 a7 m7 b7) ?_;rintro _ _ ⟨rfl,rfl⟩;exact W.r [] (.int .i64 (IntKind.i64.wrap (x.num.sign*(vx (x*x) ((y*y)*(z:Rat)))))) ⟨dF _ (by rw[UE (P_ _) (TI _ _)];unfold Bu;grind),rfl⟩ bR
theorem J7(x:Sw){S:Sn} [aY (SF x) (L,S) Γ](hL:L≤10000:=by omega):
  aw tb Tryz.prog 256 [sv x] Γ (jf (.int .i64 S.sg)):=by
 refine aw.of_W az Tryz.func256 rfl ?_;refine sM x rfl ?_;refine W.revp 1 ((sv x).cells.toList) ?_;intro b0;refine bW [] 4 b0 0 az ?_;refine vX [] 4 4 b0 4 none (some (.int .i64 ((2:Nat):Int))) 0 2 az (.inr ⟨rfl,rfl⟩) (.inl rfl) (by decide) (by decide) (by decide) ?_;refine bW [] 4 b0 0 az ?_;refine vX [] 4 4 b0 4 (some (.int .i64 ((2:Nat):Int))) none 2 4 az (.inl rfl) (.inr ⟨rfl,rfl⟩) (by decide) (by decide) (by decide) ?_;refine bY [] 4 b0 4 2 4 .i64 0 0 rfl az (by decide) ?_;refine jh [] b0 4 [.slice x.p.n.ao x.p.n.n x.p.n.c,.bool x.p.a,.slice x.p.m.ao x.p.m.n x.p.m.c,.bool x.p.b] az rfl ?_;refine bY [] 4 b0 4 2 4 .i64 1 1 rfl az (by decide) ?_;refine jh [] b0 8 [.slice x.q.n.ao x.q.n.n x.q.n.c,.bool x.q.a,.slice x.q.m.ao x.q.m.n x.q.m.c,.bool x.q.b] az rfl ?_;refine bW [] 0 b0 0 az ?_;refine bW [] 0 b0 0 az ?_;refine jh [] b0 0 [.slice x.u.ao x.u.n x.u.c,.bool x.d] az rfl ?_;refine bY [] 4 b0 12 2 2 .i64 0 0 rfl az (by decide) ?_;refine jh [] b0 12 [.slice x.r.n.ao x.r.n.n x.r.n.c,.bool x.r.a,.slice x.r.m.ao x.r.m.n x.r.m.c,.bool x.r.b] az rfl ?_;refine bY [] 4 b0 12 2 2 .i64 1 1 rfl az (by decide) ?_;refine jh [] b0 16 [.slice x.s.n.ao x.s.n.n x.s.n.c,.bool x.s.a,.slice x.s.m.ao x.s.m.n x.s.m.c,.bool x.s.b] az rfl ?_;refine bW [] 0 b0 0 az ?_;refine bW [] 0 b0 0 az ?_;refine jh [] b0 0 [.slice x.u.ao x.u.n x.u.c,.bool x.d] az rfl ?_;refine aq [] (ID x.p.n x.p.a x.p.m x.p.b x.q.n x.q.a x.q.m x.q.b x.u x.d) ?_
 rintro _ _ ⟨rfl,rfl⟩;refine aq [] (ID x.r.n x.r.a x.r.m x.r.b x.s.n x.s.a x.s.m x.s.b x.u x.d) ?_;rintro _ _ ⟨rfl,rfl⟩;refine bW [] 0 b0 0 az ?_;refine bW [] 2 b0 0 az ?_;refine jh [] b0 2 [.slice x.v.ao x.v.n x.v.c,.bool x.e] az rfl ?_;refine aq [] (mP x.v x.e) ?_;rintro _ _ ⟨rfl,rfl⟩;refine W.d [] 40 ((S.n).sign==0) (fun hb=>?_) (fun hb=>?_)
 ·skip
  exact W.r [41,44,40] (.int .i64 (Bu S.p S.q S.m)) ⟨dF _ (by unfold Sn.sg;grind),rfl⟩ bR
 ·skip
  refine W.d [40] 44 ((Bu S.r S.s S.m)==0) (fun hb=>?_) (fun hb=>?_)
  ·skip
   exact W.r [41,44] (.int .i64 (Bu S.p S.q S.m)) ⟨dF _ (by unfold Sn.sg;grind),rfl⟩ bR
  ·skip
   refine W.d [44] 41 ((Bu S.p S.q S.m)==(Bu S.r S.s S.m)) (fun hb=>?_) (fun hb=>?_)
   ·skip
    exact W.r [41] (.int .i64 (Bu S.p S.q S.m)) ⟨dF _ (by unfold Sn.sg;grind),rfl⟩ bR
   ·skip
    refine W.d [41] 50 ((Bu S.p S.q S.m)==0) (fun hb=>?_) (fun hb=>?_)
    ·skip
     exact W.r [50] (.int .i64 (Bu S.r S.s S.m)) ⟨dF _ (by unfold Sn.sg;grind),rfl⟩ bR
    ·skip
     refine bW [50] 0 b0 0 az ?_;refine bW [] 0 b0 0 az ?_;refine jh [] b0 0 [.slice x.u.ao x.u.n x.u.c,.bool x.d] az rfl ?_;refine bW [] 0 b0 0 az ?_;refine bW [] 2 b0 0 az ?_;refine jh [] b0 2 [.slice x.v.ao x.v.n x.v.c,.bool x.e] az rfl ?_;refine aq [] (cg x.u x.d) ?_;rintro _ _ ⟨n4,a4,m4,b4,rfl,rfl⟩;refine aq [] (cg x.v x.e) ?_;rintro _ _ ⟨n5,a5,m5,b5,rfl,rfl⟩;refine aq [] (cU 2 (by omega) (by omega)) ?_;rintro _ _ ⟨u6,d6,rfl,rfl⟩;refine aq [] (cg u6 d6) ?_;rintro _ _ ⟨n7,a7,m7,b7,rfl,rfl⟩;refine bY [] 4 b0 4 2 4 .i64 0 0 rfl az (by decide) ?_;refine jh [] b0 4 [.slice x.p.n.ao x.p.n.n x.p.n.c,.bool x.p.a,.slice x.p.m.ao x.p.m.n x.p.m.c,.bool x.p.b] az rfl ?_;refine bY [] 4 b0 4 2 4 .i64 0 0 rfl az (by decide) ?_;refine jh [] b0 4 [.slice x.p.n.ao x.p.n.n x.p.n.c,.bool x.p.a,.slice x.p.m.ao x.p.m.n x.p.m.c,.bool x.p.b] az rfl ?_;refine bY [] 4 b0 4 2 4 .i64 1 1 rfl az (by decide) ?_;refine jh [] b0 8 [.slice x.q.n.ao x.q.n.n x.q.n.c,.bool x.q.a,.slice x.q.m.ao x.q.m.n x.q.m.c,.bool x.q.b] az rfl ?_;refine bY [] 4 b0 4 2 4 .i64 1 1 rfl az (by decide) ?_;refine jh [] b0 8 [.slice x.q.n.ao x.q.n.n x.q.n.c,.bool x.q.a,.slice x.q.m.ao x.q.m.n x.q.m.c,.bool x.q.b] az rfl ?_;refine bY [] 4 b0 12 2 2 .i64 0 0 rfl az (by decide) ?_;refine jh [] b0 12 [.slice x.r.n.ao x.r.n.n x.r.n.c,.bool x.r.a,.slice x.r.m.ao x.r.m.n x.r.m.c,.bool x.r.b] az rfl ?_
     refine bY [] 4 b0 12 2 2 .i64 0 0 rfl az (by decide) ?_;refine jh [] b0 12 [.slice x.r.n.ao x.r.n.n x.r.n.c,.bool x.r.a,.slice x.r.m.ao x.r.m.n x.r.m.c,.bool x.r.b] az rfl ?_;refine bY [] 4 b0 12 2 2 .i64 1 1 rfl az (by decide) ?_;refine jh [] b0 16 [.slice x.s.n.ao x.s.n.n x.s.n.c,.bool x.s.a,.slice x.s.m.ao x.s.m.n x.s.m.c,.bool x.s.b] az rfl ?_;refine bY [] 4 b0 12 2 2 .i64 1 1 rfl az (by decide) ?_;refine jh [] b0 16 [.slice x.s.n.ao x.s.n.n x.s.n.c,.bool x.s.a,.slice x.s.m.ao x.s.m.n x.s.m.c,.bool x.s.b] az rfl ?_;refine aq [] (bN x.p.n x.p.a x.p.m x.p.b x.p.n x.p.a x.p.m x.p.b) ?_;rintro _ _ ⟨n8,a8,m8,b8,rfl,rfl⟩;refine aq [] (bN n4 a4 m4 b4 x.q.n x.q.a x.q.m x.q.b) ?_;rintro _ _ ⟨n9,a9,m9,b9,rfl,rfl⟩;refine aq [] (bN n9 a9 m9 b9 x.q.n x.q.a x.q.m x.q.b) ?_;rintro _ _ ⟨n10,Rl,Z_,y6,rfl,rfl⟩;refine aq [] (fo n8 a8 m8 b8 n10 Rl Z_ y6) ?_;rintro _ _ ⟨n11,U1,m11,Ae,rfl,rfl⟩;refine aq [] (bN x.r.n x.r.a x.r.m x.r.b x.r.n x.r.a x.r.m x.r.b) ?_;rintro _ _ ⟨Ws,YQ,m12,Tx,rfl,rfl⟩;refine aq [] (bN n4 a4 m4 b4 x.s.n x.s.a x.s.m x.s.b) ?_;rintro _ _ ⟨n13,U2,m13,Ch,rfl,rfl⟩;refine aq [] (bN n13 U2 m13 Ch x.s.n x.s.a x.s.m x.s.b) ?_;rintro _ _ ⟨n14,U3,m14,Ve,rfl,rfl⟩;refine aq [] (fo Ws YQ m12 Tx n14 U3 m14 Ve) ?_;rintro _ _ ⟨n15,a15,m15,b15,rfl,rfl⟩;refine aq [] (bN n5 a5 m5 b5 n15 a15 m15 b15) ?_;rintro _ _ ⟨n16,a16,m16,b16,rfl,rfl⟩
     refine aq [] (Ed n11 U1 m11 Ae n16 a16 m16 b16) ?_;rintro _ _ ⟨n17,a17,m17,b17,rfl,rfl⟩;refine bY [] 4 b0 4 2 4 .i64 0 0 rfl az (by decide) ?_;refine jh [] b0 4 [.slice x.p.n.ao x.p.n.n x.p.n.c,.bool x.p.a,.slice x.p.m.ao x.p.m.n x.p.m.c,.bool x.p.b] az rfl ?_;refine bY [] 4 b0 4 2 4 .i64 1 1 rfl az (by decide) ?_;refine jh [] b0 8 [.slice x.q.n.ao x.q.n.n x.q.n.c,.bool x.q.a,.slice x.q.m.ao x.q.m.n x.q.m.c,.bool x.q.b] az rfl ?_;refine bY [] 4 b0 12 2 2 .i64 0 0 rfl az (by decide) ?_;refine jh [] b0 12 [.slice x.r.n.ao x.r.n.n x.r.n.c,.bool x.r.a,.slice x.r.m.ao x.r.m.n x.r.m.c,.bool x.r.b] az rfl ?_;refine bY [] 4 b0 12 2 2 .i64 1 1 rfl az (by decide) ?_;refine jh [] b0 16 [.slice x.s.n.ao x.s.n.n x.s.n.c,.bool x.s.a,.slice x.s.m.ao x.s.m.n x.s.m.c,.bool x.s.b] az rfl ?_;refine aq [] (bN x.p.n x.p.a x.p.m x.p.b x.q.n x.q.a x.q.m x.q.b) ?_;rintro _ _ ⟨Yo,XT,Yl,b18,rfl,rfl⟩;refine aq [] (bN n5 a5 m5 b5 x.r.n x.r.a x.r.m x.r.b) ?_;rintro _ _ ⟨Yp,XU,Ym,XW,rfl,rfl⟩;refine aq [] (bN Yp XU Ym XW x.s.n x.s.a x.s.m x.s.b) ?_;rintro _ _ ⟨n20,a20,m20,b20,rfl,rfl⟩;refine aq [] (Ed Yo XT Yl b18 n20 a20 m20 b20) ?_;rintro _ _ ⟨Yq,XV,Yn,XX,rfl,rfl⟩;refine aq [] (bN n7 a7 m7 b7 Yq XV Yn XX) ?_;rintro _ _ ⟨n22,a22,m22,b22,rfl,rfl⟩;refine bW [] 0 b0 0 az ?_;refine bW [] 0 b0 0 az ?_;refine jh [] b0 0 [.slice x.u.ao x.u.n x.u.c,.bool x.d] az rfl ?_
     refine aq [] (ID n17 a17 m17 b17 n22 a22 m22 b22 x.u x.d) ?_;rintro _ _ ⟨rfl,rfl⟩;exact W.r [] (.int .i64 (IntKind.i64.wrap ((Bu S.p S.q S.m)*(Bu (((S.p*S.p)+(((S.m:Rat)*S.q)*S.q))-((S.n:Rat)*((S.r*S.r)+(((S.m:Rat)*S.s)*S.s)))) ((2:Rat)*((S.p*S.q)-(((S.n:Rat)*S.r)*S.s))) S.m)))) ⟨dF _ (by rw[UE (Uw _ _ _) (Uw _ _ _)];unfold Sn.sg;grind),rfl⟩ bR
theorem uv(x:Sw){S:Sn} [aY (SF x) (L,S) Γ](u:Sl)(e:Bool){q:Int} [aY (ZF u e) (M,q) Γ](hL:L≤4000:=by omega)(hM:M≤4000:=by omega):
  aw tb Tryz.prog 269 [sv x,zv u e] Γ (jf (.bool (decide ((S.lessq q).sg<0)))):=by
 refine aw.of_W az Tryz.func269 rfl ?_;refine sM x rfl ?_;refine aq [] (cg u e) ?_;rintro _ _ ⟨n1,a1,m1,b1,rfl,rfl⟩;refine aq [] (Ed x.p.n x.p.a x.p.m x.p.b n1 a1 m1 b1) ?_;rintro _ _ ⟨n2,a2,m2,b2,rfl,rfl⟩;refine gX [] (KT (x:=⟨x.u,x.d,x.v,x.e,⟨n2,a2,m2,b2⟩,x.q,x.r,x.s⟩) (L':=L+max M 2+10) (S:=(S.lessq q)) rfl rfl rfl rfl rfl rfl (by omega)) (J7 ⟨x.u,x.d,x.v,x.e,⟨n2,a2,m2,b2⟩,x.q,x.r,x.s⟩) ?_;rintro _ _ ⟨rfl,rfl⟩;exact W.r [] (.bool (decide ((S.lessq q).sg<0))) ⟨rfl,rfl⟩ bR
theorem wT(n:Sl)(a:Bool)(m:Sl)(b:Bool)(u:Sl)(e:Bool)(k:Int)(hk:k=8){x:Rat}{r:Int} [aY (QF n a m b) (L,x) Γ] [hr:aY (ZF u e) (M,r) Γ](hL:L≤600:=by omega)(hM:M≤700:=by omega):
  aw tb Tryz.prog 268 [qv n a m b,zv u e,.int .i64 k] Γ (oC (2*L+M+10) (kI x r 8)):=by
 subst hk;refine aw.of_W az Tryz.func268 rfl ?_;refine aq [] (Pn n a m b) ?_;rintro _ _ ⟨u1,d1,rfl,rfl⟩;refine aq [] (Bc u1 d1) ?_;rintro _ _ ⟨rfl,rfl⟩;refine aq [] (Pn n a m b) ?_;rintro _ _ ⟨u3,d3,rfl,rfl⟩;refine aq [] (Bc u3 d3) ?_;rintro _ _ ⟨rfl,rfl⟩;refine aq [] (Pd u1 u3) ?_;rintro _ _ ⟨u5,rfl,rfl⟩;refine aq [] (Bc u e) ?_;rintro _ _ ⟨rfl,rfl⟩;refine aq [] (Pd u5 u) ?_;rintro _ _ ⟨u7,rfl,rfl⟩;refine aq [] (aaA u7 16 (by omega)) ?_;rintro _ _ ⟨u8,rfl,rfl⟩;refine aq [] (W5 u8) ?_;rintro _ _ ⟨u9,t9,rfl,rfl⟩;refine aq [] (vJ u9) ?_;rintro _ _ ⟨BC,d10,rfl,rfl⟩;refine aq [] (jk n a m b) ?_;rintro _ _ ⟨u11,d11,rfl,rfl⟩;refine aq [] (iR BC d10 u11 d11 (by have:=gx x;omega)) ?_;rintro _ _ ⟨u12,d12,v12,e12,rfl,rfl⟩;refine aq [] (iQ n a m b) ?_;rintro _ _ ⟨rfl,rfl⟩;refine W.d [] 46 (decide (x.num.sign<0)) (fun hb=>?_) (fun hb=>?_)
 ·refine aq [46] (rE u12 d12) ?_;rintro _ _ ⟨u14,d14,rfl,rfl⟩;exact W.r [] (zv u14 d14) ⟨_,_,rfl,rfl⟩ (kO (by omega) (by unfold kI;simp only;rw[if_pos (iW hb)]))
 ·exact W.r [46] (zv u12 d12) ⟨_,_,rfl,rfl⟩ (kO (by omega) (by unfold kI;simp only;rw[if_neg (eA hb)]))
end
def J9(l:List QE)(i:Nat):Qw:=match l[i]? with
 |some e=>⟨e.n,e.nb,e.d,e.db⟩
 |none=>bV
def Yt(l:List QE)(i:Nat):Rat:=match l[i]? with
 |some e=>e.q
 |none=>0
theorem wZ{l:List QE}{L L':Nat}{I:fN}{w:World}(hd:br tb I w)(h:∀e∈l,(QR.fact L e).p I w)(hL:L≤L')(i:Nat):(QG (J9 l i) (L',Yt l i)).p I w:=by
 unfold J9 Yt;cases hi:l[i]? with
 |none=>exact(kN (Γ:=[]) (L':=L') I w hd (aE.nil _ _)).h0'
 |some e=>
  have:=h e (aN hi);exact QF.up2 this hL
section
variable{fin:VS→List aC→Prop}{Γ:List aC}{L M K:Nat}
theorem Pt(u:Sl)(d:Bool)(v:Sl)(e:Bool)(ao:Option Addr)(n c:Nat){l:List QE}{p q:Int} [hu:aY (ZF u d) (L,p) Γ] [hv:aY (ZF v e) (M,q) Γ] [h:aY (OL QR ao) (K,l) Γ](hn:n=l.length)(hl:n≤4)(hp:0≤p)(hq:0≤q)
  (hL:L≤100000:=by omega)(hM:M≤100000:=by omega):
  aw tb Tryz.prog 148 [zv u d,zv v e,.slice ao n c] Γ (XR (max (max L M) K) ⟨p,q,Yt l 0,Yt l 1,Yt l 2,Yt l 3⟩):=by
 subst hn;refine aw.of_W az Tryz.func148 rfl ?_;refine W.more (Δ:=[RA ao (l.flatMap QR.cells)]) rfl (fun I w _ hh=>aU (h.p hh).2) ?_;refine p6 (l.flatMap QR.cells≠ []→∃b off,ao=some ⟨b,off,none⟩) rfl (fun I w _ hh hne=>by
  obtain⟨b,off,ha,_⟩:=(h.p (fun F hF=>hh F (by simp[hF]))).2 hne;exact⟨b,off,ha⟩) (fun hao=>?_)
 refine aq [] (mP u d) ?_;rintro _ _ ⟨rfl,rfl⟩;refine aR [] 12 (decide ((p).sign<0)) (by rw[aV,Int.sign_neg_iff];omega) ?_;refine aq [12] (mP v e) ?_;rintro _ _ ⟨rfl,rfl⟩;refine aR [12] 17 (decide ((q).sign<0)) (by rw[aV,Int.sign_neg_iff];omega) ?_;refine aR [17] 21 (decide (((l.length:Nat):Int)>4)) (by rw[aV];omega) ?_;refine uT 8 (fun b=>?_);refine bW [] 4 b 0 az ?_;refine vX [] 4 4 b 4 none none 0 4 az (.inr ⟨rfl,rfl⟩) (.inr ⟨rfl,rfl⟩) (by decide) (by decide) (by decide) ?_;have Ib:∀z∈l.flatMap QR.cells,z.oneCell'=true:=by
  intro z hz;obtain⟨e,_,hz⟩:=List.mem_flatMap.1 hz;simp[QR]at hz;rcases hz with rfl|rfl|rfl|rfl<;>rfl
 have hlen:=pS QR l;have hz:QR.z=4:=rfl;refine YL [] [(b,(sv ⟨u,d,v,e,bV,bV,bV,bV⟩).cells.toList)] [] [] 4 b 4 4 4 l.length (sv ⟨u,d,v,e,bV,bV,bV,bV⟩).cells.toList (.slice ao l.length c) (l.flatMap QR.cells) az rfl
  (GS ao _ l.length 4 c hlen (fun h0=>hao (by intro e;have h2:=dF List.length e;rw[hlen,hz]at h2;simp only[bh]at h2;omega))) Ib hl (by rw[hlen,hz];show _≤20;omega) ?_
 have key:∀(X:Sw),X=⟨u,d,v,e,J9 l 0,J9 l 1,J9 l 2,J9 l 3⟩→((((sv ⟨u,d,v,e,bV,bV,bV,bV⟩).cells.toList.take 4++l.flatMap QR.cells++(sv ⟨u,d,v,e,bV,bV,bV,bV⟩).cells.toList.drop (4+(l.flatMap QR.cells).length)).drop 0).take 20=(sv X).cells.toList):=by
  rintro X rfl;rcases l with _|⟨e0,_|⟨e1,_|⟨e2,_|⟨e3,_|⟨e4,l⟩⟩⟩⟩⟩
  ·rfl
  ·rfl
  ·rfl
  ·rfl
  ·rfl
  ·simp at hl
 refine vW [] ([]++(b,(sv ⟨u,d,v,e,bV,bV,bV,bV⟩).cells.toList.take 4++l.flatMap QR.cells++(sv ⟨u,d,v,e,bV,bV,bV,bV⟩).cells.toList.drop (4+(l.flatMap QR.cells).length))::[]) b 0 20 _ (sv ⟨u,d,v,e,J9 l 0,J9 l 1,J9 l 2,J9 l 3⟩).cells.toList az (by simp) (key _ rfl) rfl ?_;exact W.r [] (.tuple #[sv ⟨u,d,v,e,J9 l 0,J9 l 1,J9 l 2,J9 l 3⟩,.int .i64 0]) ⟨_,rfl,rfl⟩ (fun I w hd hh=>by
  have f1:=aY.p (k:=ZF u d) (a:=(L,p)) inferInstance hh;have f2:=aY.p (k:=ZF v e) (a:=(M,q)) inferInstance hh;have f3:=(aY.p (k:=OL QR ao) (a:=(K,l)) inferInstance hh).1;exact aU ⟨ZF.up2 f1 (by omega),ZF.up2 f2 (by omega),wZ hd f3 (by omega) 0,wZ hd f3 (by omega) 1,wZ hd f3 (by omega) 2,wZ hd f3 (by omega) 3⟩)
end
section
variable{fin:VS→List aC→Prop}{Γ:List aC}{L M K:Nat}
theorem aw.entH{f:FuncId}{args:List Value}{Γ:List aC}{post post':Value→List aC→Prop}(h:aw tb Tryz.prog f args Γ post)(hp:∀v Δ,post v Δ→∃Δ',post' v Δ'∧∀I w,aE Δ I w→aE Δ' I w):aw tb Tryz.prog f args Γ post':=
 ⟨h.1,fun I w hd hh=>(h.2 I w hd hh).mono fun _ _ ⟨v,Δ,h1,h2,h3,h4⟩=>by
  obtain⟨Δ',g1,g2⟩:=hp v Δ h2;exact⟨v,Δ',h1,g1,h3,g2 _ _ h4⟩⟩
end
end Go.Proofs.YtgaaopjagcaojaaGreat
