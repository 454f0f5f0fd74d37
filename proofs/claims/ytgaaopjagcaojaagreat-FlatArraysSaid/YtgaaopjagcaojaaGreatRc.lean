import Derived.Test.YtgaaopjagcaojaaGreatPr
import Derived.Test.YtgaaopjagcaojaaGreatVm
import Derived.DeepKeys
set_option linter.unusedSimpArgs false
set_option linter.unusedVariables false
set_option maxHeartbeats 4000000
namespace Go.Proofs.YtgaaopjagcaojaaGreat
open Go.RowKit Go.IntWalk
structure Qw where
 n:Sl
 a:Bool
 m:Sl
 b:Bool
structure Sw where
 u:Sl
 d:Bool
 v:Sl
 e:Bool
 p:Qw
 q:Qw
 r:Qw
 s:Qw
structure Sn where
 m:Int
 n:Int
 p:Rat
 q:Rat
 r:Rat
 s:Rat
abbrev QG(x:Qw):Nat×Rat→aE:=QF x.n x.a x.m x.b
abbrev sv(x:Sw):Value:=.agg #[.slice x.u.ao x.u.n x.u.c,.bool x.d,.slice x.v.ao x.v.n x.v.c,.bool x.e,
 .slice x.p.n.ao x.p.n.n x.p.n.c,.bool x.p.a,.slice x.p.m.ao x.p.m.n x.p.m.c,.bool x.p.b,.slice x.q.n.ao x.q.n.n x.q.n.c,.bool x.q.a,.slice x.q.m.ao x.q.m.n x.q.m.c,.bool x.q.b,
 .slice x.r.n.ao x.r.n.n x.r.n.c,.bool x.r.a,.slice x.r.m.ao x.r.m.n x.r.m.c,.bool x.r.b,.slice x.s.n.ao x.s.n.n x.s.n.c,.bool x.s.a,.slice x.s.m.ao x.s.m.n x.s.m.c,.bool x.s.b]
abbrev ptv(x:Sw):Value:=.agg #[
 .slice x.p.n.ao x.p.n.n x.p.n.c,.bool x.p.a,.slice x.p.m.ao x.p.m.n x.p.m.c,.bool x.p.b,.slice x.q.n.ao x.q.n.n x.q.n.c,.bool x.q.a,.slice x.q.m.ao x.q.m.n x.q.m.c,.bool x.q.b,
 .slice x.r.n.ao x.r.n.n x.r.n.c,.bool x.r.a,.slice x.r.m.ao x.r.m.n x.r.m.c,.bool x.r.b,.slice x.s.n.ao x.s.n.n x.s.n.c,.bool x.s.a,.slice x.s.m.ao x.s.m.n x.s.m.c,.bool x.s.b]
abbrev bV:Qw:=⟨⟨none,0,0⟩,false,⟨none,0,0⟩,false⟩
def Ci:Sw:=⟨⟨none,0,0⟩,false,⟨none,0,0⟩,false,bV,bV,bV,bV⟩
def SF(x:Sw)(a:Nat×Sn):aE where
 p I w:=(ZF x.u x.d (a.1,a.2.m)).p I w∧(ZF x.v x.e (a.1,a.2.n)).p I w∧(QG x.p (a.1,a.2.p)).p I w∧(QG x.q (a.1,a.2.q)).p I w∧(QG x.r (a.1,a.2.r)).p I w∧(QG x.s (a.1,a.2.s)).p I w
 up:=by
  rintro I I' w w' ⟨g1,g2,g3,g4,g5,g6⟩ h1 h2 h3;exact⟨(ZF x.u x.d _).up g1 h1 h2 h3,(ZF x.v x.e _).up g2 h1 h2 h3,(QG x.p _).up g3 h1 h2 h3,(QG x.q _).up g4 h1 h2 h3,(QG x.r _).up g5 h1 h2 h3,(QG x.s _).up g6 h1 h2 h3⟩
def SX(L:Nat)(S:Sn)(v:Value)(Δ:List aE):Prop:=∃x:Sw,v=sv x∧Δ=[SF x (L,S)]
def Xt(L:Nat)(S:Sn)(v:Value)(Δ:List aE):Prop:=∃x:Sw,v=.tuple #[sv x,.int .i64 0]∧Δ=[SF x (L,S)]
structure Pw where
 n:Int
 a:Sl
 m:Int
 b:Sl
structure Tw where
 d:Int
 u:Sl
 e:Int
 v:Sl
 p:Pw
 q:Pw
 r:Pw
 s:Pw
abbrev tv(x:Tw):Value:=.agg #[.int .i64 x.d,.slice x.u.ao x.u.n x.u.c,.int .i64 x.e,.slice x.v.ao x.v.n x.v.c,
 .int .i64 x.p.n,.slice x.p.a.ao x.p.a.n x.p.a.c,.int .i64 x.p.m,.slice x.p.b.ao x.p.b.n x.p.b.c,.int .i64 x.q.n,.slice x.q.a.ao x.q.a.n x.q.a.c,.int .i64 x.q.m,.slice x.q.b.ao x.q.b.n x.q.b.c,
 .int .i64 x.r.n,.slice x.r.a.ao x.r.a.n x.r.a.c,.int .i64 x.r.m,.slice x.r.b.ao x.r.b.n x.r.b.c,.int .i64 x.s.n,.slice x.s.a.ao x.s.a.n x.s.a.c,.int .i64 x.s.m,.slice x.s.b.ao x.s.b.n x.s.b.c]
section
variable{fin:VS→List aE→Prop}{Γ:List aE}{L:Nat}
theorem s6{P:Program}{c:fM}(x:Sw){S:Sn} [h:aZ (SF x) (L,S) Γ](hm:dG c.k=false)
  (hk:W tb P fin c (ZF x.u x.d (L,S.m)::ZF x.v x.e (L,S.n)::QG x.p (L,S.p)::QG x.q (L,S.q)::QG x.r (L,S.r)::QG x.s (L,S.s)::Γ)):W tb P fin c Γ:=
 W.elim (α:=Unit) (fun _=>True) (fun _=>[ZF x.u x.d (L,S.m),ZF x.v x.e (L,S.n),QG x.p (L,S.p),QG x.q (L,S.q),QG x.r (L,S.r),QG x.s (L,S.s)]) hm (fun I w _ hh=>by
  obtain⟨g1,g2,g3,g4,g5,g6⟩:=h.p hh;exact⟨(),trivial,aG.cons g1 (aG.cons g2 (aG.cons g3 (aG.cons g4 (aG.cons g5 (aV g6)))))⟩) (fun _ _=>hk)
theorem QF.up2{n m:Sl}{a b:Bool}{L L':Nat}{q:Rat}{I:f_}{w:World}(h:(QF n a m b (L,q)).p I w)(hL:L≤L'):(QF n a m b (L',q)).p I w:=by
 obtain⟨y,⟨⟨h1,h2,h3⟩,h4⟩,⟨⟨g1,g2,g3⟩,g4⟩,hy⟩:=h;exact⟨y,⟨⟨h1,h2,aP h3 hL⟩,h4⟩,⟨⟨g1,g2,aP g3 hL⟩,g4⟩,hy⟩
theorem ZF.up2{n:Sl}{a:Bool}{L L':Nat}{q:Int}{I:f_}{w:World}(h:(ZF n a (L,q)).p I w)(hL:L≤L'):(ZF n a (L',q)).p I w:=by
 obtain⟨⟨h1,h2,h3⟩,h4⟩:=h;exact⟨⟨h1,h2,aP h3 hL⟩,h4⟩
theorem KZ{x:Sw}{L' L1 L2 L3 L4 L5 L6:Nat}{m n:Int}{p q r s:Rat}{S:Sn} [h1:aZ (ZF x.u x.d) (L1,m) Γ] [h2:aZ (ZF x.v x.e) (L2,n) Γ] [h3:aZ (QG x.p) (L3,p) Γ] [h4:aZ (QG x.q) (L4,q) Γ] [h5:aZ (QG x.r) (L5,r) Γ] [h6:aZ (QG x.s) (L6,s) Γ]
  (hm:m=S.m)(hn:n=S.n)(hp:p=S.p)(hq:q=S.q)(hr:r=S.r)(hs:s=S.s)(hL:L1≤L'∧L2≤L'∧L3≤L'∧L4≤L'∧L5≤L'∧L6≤L'):∀(I:f_) (w:World),bB tb I w→aG Γ I w→aG [SF x (L',S)] I w:=fun I w _ hh=>by
 subst hm hn hp hq hr hs;obtain⟨l1,l2,l3,l4,l5,l6⟩:=hL;exact aV ⟨ZF.up2 (h1.p hh) l1,ZF.up2 (h2.p hh) l2,QF.up2 (h3.p hh) l3,QF.up2 (h4.p hh) l4,QF.up2 (h5.p hh) l5,QF.up2 (h6.p hh) l6⟩
theorem pR{x:Sw}{L':Nat}{S S':Sn} [h:aZ (SF x) (L,S) Γ](hL:L≤L')(hS:S=S'):∀(I:f_) (w:World),bB tb I w→aG Γ I w→aG [SF x (L',S')] I w:=fun I w _ hh=>by
 subst hS;obtain⟨g1,g2,g3,g4,g5,g6⟩:=h.p hh;exact aV ⟨ZF.up2 g1 hL,ZF.up2 g2 hL,QF.up2 g3 hL,QF.up2 g4 hL,QF.up2 g5 hL,QF.up2 g6 hL⟩
end
def Sn.neg(S:Sn):Sn:=⟨S.m,S.n,-S.p,-S.q,-S.r,-S.s⟩
def Sn.add(S T:Sn):Sn:=⟨S.m,S.n,S.p+T.p,S.q+T.q,S.r+T.r,S.s+T.s⟩
def Sn.sub(S T:Sn):Sn:=⟨S.m,S.n,S.p-T.p,S.q-T.q,S.r-T.r,S.s-T.s⟩
def Sn.mul(S T:Sn):Sn:=⟨S.m,S.n,
 S.p*T.p+S.m*(S.q*T.q)+S.n*(S.r*T.r)+S.m*S.n*(S.s*T.s),
 S.p*T.q+S.q*T.p+S.n*(S.r*T.s+S.s*T.r),
 S.p*T.r+S.r*T.p+S.m*(S.q*T.s+S.s*T.q),
 S.p*T.s+S.s*T.p+S.q*T.r+S.r*T.q⟩
def BQ(x y:Rat)(m:Int):Int:=
 let s:=x.num.sign
 let t:=if m.sign=0 then 0 else y.num.sign
 if t=0∨s=t then s else if s=0 then t else s*vI (x*x) (y*y*m)
def Sn.sg(S:Sn):Int:=
 let s:=BQ S.p S.q S.m
 let t:=if S.n.sign=0 then 0 else BQ S.r S.s S.m
 if t=0∨s=t then s else if s=0 then t else
  s*BQ (S.p*S.p+S.m*S.q*S.q-S.n*(S.r*S.r+S.m*S.s*S.s)) (2*(S.p*S.q-S.n*S.r*S.s)) S.m
theorem Sn.ext'{S T:Sn}(h1:S.m=T.m)(h2:S.n=T.n)(h3:S.p=T.p)(h4:S.q=T.q)(h5:S.r=T.r)(h6:S.s=T.s):S=T:=by
 cases S;cases T;simp_all
theorem Sn.mul_comm{S T:Sn}(hm:T.m=S.m)(hn:T.n=S.n):S.mul T=T.mul S:=by
 refine Sn.ext' hm.symm hn.symm ?_ ?_ ?_ ?_ <;>simp only[Sn.mul,hm,hn]<;>grind
theorem KI(S T:Sn):S.add T.neg=S.sub T:=by
 refine Sn.ext' rfl rfl ?_ ?_ ?_ ?_ <;>simp only[Sn.add,Sn.neg,Sn.sub]<;>grind
def kS(x:Rat)(root:Int)(k:Nat):Int:=
 let q:Int:=(vQ (x.num.natAbs*x.num.natAbs*root.natAbs*2^(2*k)):Nat)/(x.den:Int)
 if x.num.sign<0 then-q else q
def Sn.lessq(S:Sn)(q:Int):Sn:=⟨S.m,S.n,S.p-q,S.q,S.r,S.s⟩
def Sn.low(S:Sn):Int:=(0+kS S.p 1 8+kS S.q S.m 8+kS S.r S.n 8+kS S.s (S.m*S.n) 8)/256
def Sn.up(S:Sn)(h:Rat):Sn:=⟨S.m,S.n,S.p+h,S.q,S.r,S.s⟩
def Sn.half(S:Sn):Sn:=S.up (Rat.divInt 1 2)
def L7(z:Int):Prop:=z= -1∨z=0∨z=1
theorem Uo{a b:Int}(ha:L7 a)(hb:L7 b):IntKind.i64.wrap (a*b)=a*b:=by
 rcases ha with rfl|rfl|rfl<;>rcases hb with rfl|rfl|rfl<;>rfl
theorem PS(z:Int):L7 z.sign:=by
 unfold L7;rcases Int.lt_trichotomy z 0 with h|h|h
 ·exact .inl (jO h)
 ·subst h;exact .inr (.inl rfl)
 ·exact .inr (.inr (gd h))
theorem Tp(a b:Rat):L7 (vI a b):=by unfold L7 vI;grind
theorem St{a b:Int}(ha:L7 a)(hb:L7 b):L7 (a*b):=by
 rcases ha with rfl|rfl|rfl<;>rcases hb with rfl|rfl|rfl<;>unfold L7<;>decide
theorem Ug(x y:Rat)(m:Int):L7 (BQ x y m):=by
 unfold BQ;have h1:=PS x.num;have h2:=PS y.num;have h3:=St h1 (Tp (x*x) (y*y*m));have h0:L7 0:=.inr (.inl rfl);simp only
 (repeat' split)<;>assumption
section
variable{fin:VS→List aE→Prop}{Γ:List aE}{L M K:Nat}
theorem Bp(x:Sw):
  au tb Tryz.prog 147 [sv x] Γ (jv (.tuple #[zv x.u x.d,zv x.v x.e])):=by
 refine au.of_W aB Tryz.func147 rfl ?_;exact W.r [] (.tuple #[zv x.u x.d,zv x.v x.e]) ⟨rfl,rfl⟩ bU
theorem xq(x:Sw):
  au tb Tryz.prog 213 [sv x] Γ (jv (ptv x)):=by
 refine au.of_W aB Tryz.func213 rfl ?_;exact W.r [] (ptv x) ⟨rfl,rfl⟩ bU
theorem J_(x:Sw){S:Sn} [aZ (SF x) (L,S) Γ](y:Sw){T:Sn} [aZ (SF y) (M,T) Γ](hm:S.m=T.m)(hn:S.n=T.n)(hL:L≤100000:=by omega)(hM:M≤100000:=by omega):
  au tb Tryz.prog 214 [sv x,sv y] Γ (jv (.bool true)):=by
 refine au.of_W aB Tryz.func214 rfl ?_;refine s6 x rfl ?_;refine s6 y rfl ?_;refine aj [] (pq x.u x.d y.u y.d) ?_;rintro _ _ ⟨rfl,rfl⟩;refine bD [] 13 ((nu S.m T.m)==0) (by rw[lx,DW];exact hm) ?_;refine aj [13] (pq x.v x.e y.v y.e) ?_;rintro _ _ ⟨rfl,rfl⟩;exact W.r [13] (.bool ((nu S.n T.n)==0)) ⟨by rw[DW.2 hn];rfl,rfl⟩ bU
theorem EA(x:Sw){S:Sn} [aZ (SF x) (L,S) Γ](hL:L≤100000:=by omega):
  au tb Tryz.prog 151 [sv x] Γ (SX L S.neg):=by
 refine au.of_W aB Tryz.func151 rfl ?_;refine s6 x rfl ?_;refine j2 [] 6 ?_;refine aj [8] (ph x.p.n x.p.a x.p.m x.p.b) ?_;rintro _ _ ⟨n1,a1,m1,b1,rfl,rfl⟩;refine aj [8] (ph x.q.n x.q.a x.q.m x.q.b) ?_;rintro _ _ ⟨n2,a2,m2,b2,rfl,rfl⟩;refine aj [8] (ph x.r.n x.r.a x.r.m x.r.b) ?_;rintro _ _ ⟨n3,a3,m3,b3,rfl,rfl⟩;refine aj [8] (ph x.s.n x.s.a x.s.m x.s.b) ?_;rintro _ _ ⟨n4,a4,m4,b4,rfl,rfl⟩;exact W.r [8] (sv ⟨x.u,x.d,x.v,x.e,⟨n1,a1,m1,b1⟩,⟨n2,a2,m2,b2⟩,⟨n3,a3,m3,b3⟩,⟨n4,a4,m4,b4⟩⟩) ⟨_,rfl,rfl⟩ (KZ rfl rfl rfl rfl rfl rfl (by omega))
theorem pj(x:Sw){S:Sn} [aZ (SF x) (L,S) Γ](y:Sw){T:Sn} [aZ (SF y) (M,T) Γ](hm:S.m=T.m)(hn:S.n=T.n)(hL:L≤100000:=by omega)(hM:M≤100000:=by omega):
  au tb Tryz.prog 152 [sv x,sv y] Γ (Xt (L+M+5) (S.add T)):=by
 refine au.of_W aB Tryz.func152 rfl ?_;refine s6 x rfl ?_;refine s6 y rfl ?_;refine aj [] (J_ x y hm hn) ?_;rintro _ _ ⟨rfl,rfl⟩;refine j2 [11] 6 ?_;refine aj [16] (fw x.p.n x.p.a x.p.m x.p.b y.p.n y.p.a y.p.m y.p.b) ?_;rintro _ _ ⟨n2,a2,m2,b2,rfl,rfl⟩;refine aj [16] (fw x.q.n x.q.a x.q.m x.q.b y.q.n y.q.a y.q.m y.q.b) ?_;rintro _ _ ⟨n3,a3,m3,b3,rfl,rfl⟩;refine aj [16] (fw x.r.n x.r.a x.r.m x.r.b y.r.n y.r.a y.r.m y.r.b) ?_;rintro _ _ ⟨n4,a4,m4,b4,rfl,rfl⟩;refine aj [16] (fw x.s.n x.s.a x.s.m x.s.b y.s.n y.s.a y.s.m y.s.b) ?_;rintro _ _ ⟨n5,a5,m5,b5,rfl,rfl⟩;exact W.r [16] (.tuple #[sv ⟨x.u,x.d,x.v,x.e,⟨n2,a2,m2,b2⟩,⟨n3,a3,m3,b3⟩,⟨n4,a4,m4,b4⟩,⟨n5,a5,m5,b5⟩⟩,.int .i64 0]) ⟨_,rfl,rfl⟩ (KZ rfl rfl rfl rfl rfl rfl (by omega))
theorem WK(x:Sw){S:Sn} [aZ (SF x) (L,S) Γ](y:Sw){T:Sn} [aZ (SF y) (M,T) Γ](hm:S.m=T.m)(hn:S.n=T.n)(hL:L≤100000:=by omega)(hM:M≤100000:=by omega):
  au tb Tryz.prog 210 [sv x,sv y] Γ (Xt (L+M+5) (S.sub T)):=by
 refine au.of_W aB Tryz.func210 rfl ?_;refine aj [] (EA y) ?_;rintro _ _ ⟨X1,rfl,rfl⟩;refine aj [] (pj x X1 (by exact hm) (by exact hn)) ?_;rintro _ _ ⟨X2,rfl,rfl⟩;exact W.r [] (.tuple #[sv X2,.int .i64 0]) ⟨_,rfl,rfl⟩ (pR (by omega) (KI _ _))
theorem Pd(x:Sw){S:Sn} [aZ (SF x) (L,S) Γ](y:Sw){T:Sn} [aZ (SF y) (M,T) Γ](hm:S.m=T.m)(hn:S.n=T.n)(hL:L≤100000:=by omega)(hM:M≤100000:=by omega):
  au tb Tryz.prog 150 [sv x,sv y] Γ (Xt (4*L+4*M+8*max L 2+200) (S.mul T)):=by
 refine au.of_W aB Tryz.func150 rfl ?_;refine s6 x rfl ?_;refine s6 y rfl ?_;refine W.more rfl (kW (L':=0)) ?_;refine aj [] (J_ x y hm hn) ?_;rintro _ _ ⟨rfl,rfl⟩;refine aj [17] (cj x.u x.d) ?_;rintro _ _ ⟨n2,a2,m2,b2,rfl,rfl⟩;refine aj [] (cj x.v x.e) ?_;rintro _ _ ⟨n3,a3,m3,b3,rfl,rfl⟩;refine aj [] (cV 1 (by omega) (by omega)) ?_;rintro _ _ ⟨u4,d4,rfl,rfl⟩;refine aj [] (cj u4 d4) ?_;rintro _ _ ⟨n5,a5,m5,b5,rfl,rfl⟩;refine aj [] (bR n2 a2 m2 b2 n3 a3 m3 b3) ?_;rintro _ _ ⟨n6,a6,m6,b6,rfl,rfl⟩;refine j2 [] 6 ?_;refine j2 [38] 6 ?_;refine aj [44] (bR x.p.n x.p.a x.p.m x.p.b y.p.n y.p.a y.p.m y.p.b) ?_;rintro _ _ ⟨n7,a7,m7,b7,rfl,rfl⟩;refine aj [] (bR n7 a7 m7 b7 n5 a5 m5 b5) ?_;rintro _ _ ⟨n8,a8,m8,b8,rfl,rfl⟩;refine aj [] (fw ⟨none,0,0⟩ false ⟨none,0,0⟩ false n8 a8 m8 b8) ?_;rintro _ _ ⟨n9,a9,m9,b9,rfl,rfl⟩;refine aj [44] (bR x.p.n x.p.a x.p.m x.p.b y.q.n y.q.a y.q.m y.q.b) ?_;rintro _ _ ⟨ZG,QT,Zx,zm,rfl,rfl⟩;refine aj [] (bR ZG QT Zx zm n5 a5 m5 b5) ?_;rintro _ _ ⟨n11,UJ,m11,sS,rfl,rfl⟩;refine aj [] (fw ⟨none,0,0⟩ false ⟨none,0,0⟩ false n11 UJ m11 sS) ?_;rintro _ _ ⟨V7,Yh,m12,Tf,rfl,rfl⟩;refine aj [44] (bR x.p.n x.p.a x.p.m x.p.b y.r.n y.r.a y.r.m y.r.b) ?_;rintro _ _ ⟨n13,UK,m13,CA,rfl,rfl⟩;refine aj [] (bR n13 UK m13 CA n5 a5 m5 b5) ?_;rintro _ _ ⟨n14,UL,m14,UY,rfl,rfl⟩
 refine aj [] (fw ⟨none,0,0⟩ false ⟨none,0,0⟩ false n14 UL m14 UY) ?_;rintro _ _ ⟨n15,a15,m15,b15,rfl,rfl⟩;refine aj [44] (bR x.p.n x.p.a x.p.m x.p.b y.s.n y.s.a y.s.m y.s.b) ?_;rintro _ _ ⟨n16,a16,m16,b16,rfl,rfl⟩;refine aj [] (bR n16 a16 m16 b16 n5 a5 m5 b5) ?_;rintro _ _ ⟨n17,a17,m17,b17,rfl,rfl⟩;refine aj [] (fw ⟨none,0,0⟩ false ⟨none,0,0⟩ false n17 a17 m17 b17) ?_;rintro _ _ ⟨XJ,Xu,XG,L8,rfl,rfl⟩;refine j2 [38,44] 6 ?_;refine aj [44] (bR x.q.n x.q.a x.q.m x.q.b y.p.n y.p.a y.p.m y.p.b) ?_;rintro _ _ ⟨XK,Xv,XH,Q0,rfl,rfl⟩;refine aj [] (bR XK Xv XH Q0 n5 a5 m5 b5) ?_;rintro _ _ ⟨n20,a20,m20,b20,rfl,rfl⟩;refine aj [] (fw V7 Yh m12 Tf n20 a20 m20 b20) ?_;rintro _ _ ⟨XL,Xw,XI,Xx,rfl,rfl⟩;refine aj [44] (bR x.q.n x.q.a x.q.m x.q.b y.q.n y.q.a y.q.m y.q.b) ?_;rintro _ _ ⟨n22,a22,m22,L_,rfl,rfl⟩;refine aj [] (bR n22 a22 m22 L_ n2 a2 m2 b2) ?_;rintro _ _ ⟨n23,a23,m23,b23,rfl,rfl⟩;refine aj [] (fw n9 a9 m9 b9 n23 a23 m23 b23) ?_;rintro _ _ ⟨n24,a24,m24,Ql,rfl,rfl⟩;refine aj [44] (bR x.q.n x.q.a x.q.m x.q.b y.r.n y.r.a y.r.m y.r.b) ?_;rintro _ _ ⟨n25,a25,m25,b25,rfl,rfl⟩;refine aj [] (bR n25 a25 m25 b25 n5 a5 m5 b5) ?_;rintro _ _ ⟨n26,a26,m26,MJ,rfl,rfl⟩;refine aj [] (fw XJ Xu XG L8 n26 a26 m26 MJ) ?_;rintro _ _ ⟨ZH,UM,Zy,UZ,rfl,rfl⟩;refine aj [44] (bR x.q.n x.q.a x.q.m x.q.b y.s.n y.s.a y.s.m y.s.b) ?_
 rintro _ _ ⟨ZI,UN,Zz,xN,rfl,rfl⟩;refine aj [] (bR ZI UN Zz xN n2 a2 m2 b2) ?_;rintro _ _ ⟨ZJ,UO,ZA,U0,rfl,rfl⟩;refine aj [] (fw n15 a15 m15 b15 ZJ UO ZA U0) ?_;rintro _ _ ⟨n30,a30,m30,Tg,rfl,rfl⟩;refine j2 [38,44] 6 ?_;refine aj [44] (bR x.r.n x.r.a x.r.m x.r.b y.p.n y.p.a y.p.m y.p.b) ?_;rintro _ _ ⟨n31,a31,m31,zx,rfl,rfl⟩;refine aj [] (bR n31 a31 m31 zx n5 a5 m5 b5) ?_;rintro _ _ ⟨n32,a32,m32,b32,rfl,rfl⟩;refine aj [] (fw n30 a30 m30 Tg n32 a32 m32 b32) ?_;rintro _ _ ⟨n33,a33,m33,DP,rfl,rfl⟩;refine aj [44] (bR x.r.n x.r.a x.r.m x.r.b y.q.n y.q.a y.q.m y.q.b) ?_;rintro _ _ ⟨n34,a34,m34,b34,rfl,rfl⟩;refine aj [] (bR n34 a34 m34 b34 n5 a5 m5 b5) ?_;rintro _ _ ⟨n35,a35,m35,b35,rfl,rfl⟩;refine aj [] (fw ZH UM Zy UZ n35 a35 m35 b35) ?_;rintro _ _ ⟨n36,a36,m36,b36,rfl,rfl⟩;refine aj [44] (bR x.r.n x.r.a x.r.m x.r.b y.r.n y.r.a y.r.m y.r.b) ?_;rintro _ _ ⟨n37,a37,m37,b37,rfl,rfl⟩;refine aj [] (bR n37 a37 m37 b37 n3 a3 m3 b3) ?_;rintro _ _ ⟨n38,a38,m38,b38,rfl,rfl⟩;refine aj [] (fw n24 a24 m24 Ql n38 a38 m38 b38) ?_;rintro _ _ ⟨n39,a39,m39,b39,rfl,rfl⟩;refine aj [44] (bR x.r.n x.r.a x.r.m x.r.b y.s.n y.s.a y.s.m y.s.b) ?_;rintro _ _ ⟨n40,a40,m40,b40,rfl,rfl⟩;refine aj [] (bR n40 a40 m40 b40 n3 a3 m3 b3) ?_;rintro _ _ ⟨n41,a41,m41,b41,rfl,rfl⟩;refine aj [] (fw XL Xw XI Xx n41 a41 m41 b41) ?_
 rintro _ _ ⟨n42,a42,m42,b42,rfl,rfl⟩;refine j2 [38,44] 6 ?_;refine aj [44] (bR x.s.n x.s.a x.s.m x.s.b y.p.n y.p.a y.p.m y.p.b) ?_;rintro _ _ ⟨n43,a43,m43,b43,rfl,rfl⟩;refine aj [] (bR n43 a43 m43 b43 n5 a5 m5 b5) ?_;rintro _ _ ⟨n44,a44,m44,b44,rfl,rfl⟩;refine aj [] (fw n36 a36 m36 b36 n44 a44 m44 b44) ?_;rintro _ _ ⟨n45,a45,m45,b45,rfl,rfl⟩;refine aj [44] (bR x.s.n x.s.a x.s.m x.s.b y.q.n y.q.a y.q.m y.q.b) ?_;rintro _ _ ⟨n46,a46,m46,b46,rfl,rfl⟩;refine aj [] (bR n46 a46 m46 b46 n2 a2 m2 b2) ?_;rintro _ _ ⟨n47,a47,m47,b47,rfl,rfl⟩;refine aj [] (fw n33 a33 m33 DP n47 a47 m47 b47) ?_;rintro _ _ ⟨n48,a48,m48,b48,rfl,rfl⟩;refine aj [44] (bR x.s.n x.s.a x.s.m x.s.b y.r.n y.r.a y.r.m y.r.b) ?_;rintro _ _ ⟨n49,a49,m49,KO,rfl,rfl⟩;refine aj [] (bR n49 a49 m49 KO n3 a3 m3 b3) ?_;rintro _ _ ⟨n50,a50,m50,b50,rfl,rfl⟩;refine aj [] (fw n42 a42 m42 b42 n50 a50 m50 b50) ?_;rintro _ _ ⟨n51,a51,m51,KP,rfl,rfl⟩;refine aj [44] (bR x.s.n x.s.a x.s.m x.s.b y.s.n y.s.a y.s.m y.s.b) ?_;rintro _ _ ⟨n52,a52,m52,b52,rfl,rfl⟩;refine aj [] (bR n52 a52 m52 b52 n6 a6 m6 b6) ?_;rintro _ _ ⟨n53,a53,m53,b53,rfl,rfl⟩;refine aj [] (fw n39 a39 m39 b39 n53 a53 m53 b53) ?_;rintro _ _ ⟨n54,a54,m54,b54,rfl,rfl⟩;exact W.r [38,44] (.tuple #[sv ⟨x.u,x.d,x.v,x.e,⟨n54,a54,m54,b54⟩,⟨n51,a51,m51,KP⟩,⟨n48,a48,m48,b48⟩,⟨n45,a45,m45,b45⟩⟩,.int .i64 0]) ⟨_,rfl,rfl⟩ (KZ rfl rfl (by simp only[Sn.mul];grind) (by simp only[Sn.mul];grind) (by simp only[Sn.mul];grind) (by simp only[Sn.mul];grind) (by omega))
theorem II(n:Sl)(a:Bool)(m:Sl)(b:Bool)(k:Sl)(c:Bool)(l:Sl)(d:Bool)(u:Sl)(e:Bool){x y:Rat}{z:Int} [aZ (QF n a m b) (L,x) Γ] [aZ (QF k c l d) (M,y) Γ] [aZ (ZF u e) (K,z) Γ](hL:L≤400000:=by omega)(hM:M≤290000:=by omega)(hK:K≤400000:=by omega):
  au tb Tryz.prog 270 [qv n a m b,qv k c l d,zv u e] Γ (jv (.int .i64 (BQ x y z))):=by
 refine au.of_W aB Tryz.func270 rfl ?_;refine aj [] (jg n a m b) ?_;rintro _ _ ⟨rfl,rfl⟩;refine aj [] (jg k c l d) ?_;rintro _ _ ⟨rfl,rfl⟩;refine aj [] (nf u e) ?_;rintro _ _ ⟨rfl,rfl⟩;refine W.d [] 15 ((z).sign==0) (fun hb=>?_) (fun hb=>?_)
 ·skip
  exact W.r [16,19,15] (.int .i64 x.num.sign) ⟨dz _ (by unfold BQ;grind),rfl⟩ bU
 ·skip
  refine W.d [15] 19 (y.num.sign==0) (fun hb=>?_) (fun hb=>?_)
  ·skip
   exact W.r [16,19] (.int .i64 x.num.sign) ⟨dz _ (by unfold BQ;grind),rfl⟩ bU
  ·skip
   refine W.d [19] 16 (x.num.sign==y.num.sign) (fun hb=>?_) (fun hb=>?_)
   ·skip
    exact W.r [16] (.int .i64 x.num.sign) ⟨dz _ (by unfold BQ;grind),rfl⟩ bU
   ·skip
    refine W.d [16] 25 (x.num.sign==0) (fun hb=>?_) (fun hb=>?_)
    ·skip
     exact W.r [25] (.int .i64 y.num.sign) ⟨dz _ (by unfold BQ;grind),rfl⟩ bU
    ·skip
     refine aj [25] (bR n a m b n a m b) ?_;rintro _ _ ⟨n4,a4,m4,b4,rfl,rfl⟩;refine aj [] (bR k c l d k c l d) ?_;rintro _ _ ⟨n5,a5,m5,b5,rfl,rfl⟩;refine aj [] (cj u e) ?_;rintro _ _ ⟨n6,a6,m6,b6,rfl,rfl⟩;refine aj [] (bR n5 a5 m5 b5 n6 a6 m6 b6) ?_;rintro _ _ ⟨n7,a7,m7,b7,rfl,rfl⟩;refine aj [] (WA n4 a4 m4 b4 n7 a7 m7 b7) ?_;rintro _ _ ⟨rfl,rfl⟩;exact W.r [] (.int .i64 (IntKind.i64.wrap (x.num.sign*(vI (x*x) ((y*y)*(z:Rat)))))) ⟨dz _ (by rw[Uo (PS _) (Tp _ _)];unfold BQ;grind),rfl⟩ bU
theorem Kb(x:Sw){S:Sn} [aZ (SF x) (L,S) Γ](hL:L≤10000:=by omega):
  au tb Tryz.prog 256 [sv x] Γ (jv (.int .i64 S.sg)):=by
 refine au.of_W aB Tryz.func256 rfl ?_;refine s6 x rfl ?_;refine W.revp 1 ((sv x).cells.toList) ?_;intro b0;refine cr [] 4 b0 0 aB ?_;refine wm [] 4 4 b0 4 none (some (.int .i64 ((2:Nat):Int))) 0 2 aB (.inr ⟨rfl,rfl⟩) (.inl rfl) (by decide) (by decide) (by decide) ?_;refine cr [] 4 b0 0 aB ?_;refine wm [] 4 4 b0 4 (some (.int .i64 ((2:Nat):Int))) none 2 4 aB (.inl rfl) (.inr ⟨rfl,rfl⟩) (by decide) (by decide) (by decide) ?_;refine cA [] 4 b0 4 2 4 .i64 0 0 rfl aB (by decide) ?_;refine jx [] b0 4 [.slice x.p.n.ao x.p.n.n x.p.n.c,.bool x.p.a,.slice x.p.m.ao x.p.m.n x.p.m.c,.bool x.p.b] aB rfl ?_;refine cA [] 4 b0 4 2 4 .i64 1 1 rfl aB (by decide) ?_;refine jx [] b0 8 [.slice x.q.n.ao x.q.n.n x.q.n.c,.bool x.q.a,.slice x.q.m.ao x.q.m.n x.q.m.c,.bool x.q.b] aB rfl ?_;refine cr [] 0 b0 0 aB ?_;refine cr [] 0 b0 0 aB ?_;refine jx [] b0 0 [.slice x.u.ao x.u.n x.u.c,.bool x.d] aB rfl ?_;refine cA [] 4 b0 12 2 2 .i64 0 0 rfl aB (by decide) ?_;refine jx [] b0 12 [.slice x.r.n.ao x.r.n.n x.r.n.c,.bool x.r.a,.slice x.r.m.ao x.r.m.n x.r.m.c,.bool x.r.b] aB rfl ?_;refine cA [] 4 b0 12 2 2 .i64 1 1 rfl aB (by decide) ?_;refine jx [] b0 16 [.slice x.s.n.ao x.s.n.n x.s.n.c,.bool x.s.a,.slice x.s.m.ao x.s.m.n x.s.m.c,.bool x.s.b] aB rfl ?_;refine cr [] 0 b0 0 aB ?_;refine cr [] 0 b0 0 aB ?_;refine jx [] b0 0 [.slice x.u.ao x.u.n x.u.c,.bool x.d] aB rfl ?_;refine aj [] (II x.p.n x.p.a x.p.m x.p.b x.q.n x.q.a x.q.m x.q.b x.u x.d) ?_
 rintro _ _ ⟨rfl,rfl⟩;refine aj [] (II x.r.n x.r.a x.r.m x.r.b x.s.n x.s.a x.s.m x.s.b x.u x.d) ?_;rintro _ _ ⟨rfl,rfl⟩;refine cr [] 0 b0 0 aB ?_;refine cr [] 2 b0 0 aB ?_;refine jx [] b0 2 [.slice x.v.ao x.v.n x.v.c,.bool x.e] aB rfl ?_;refine aj [] (nf x.v x.e) ?_;rintro _ _ ⟨rfl,rfl⟩;refine W.d [] 40 ((S.n).sign==0) (fun hb=>?_) (fun hb=>?_)
 ·skip
  exact W.r [41,44,40] (.int .i64 (BQ S.p S.q S.m)) ⟨dz _ (by unfold Sn.sg;grind),rfl⟩ bU
 ·skip
  refine W.d [40] 44 ((BQ S.r S.s S.m)==0) (fun hb=>?_) (fun hb=>?_)
  ·skip
   exact W.r [41,44] (.int .i64 (BQ S.p S.q S.m)) ⟨dz _ (by unfold Sn.sg;grind),rfl⟩ bU
  ·skip
   refine W.d [44] 41 ((BQ S.p S.q S.m)==(BQ S.r S.s S.m)) (fun hb=>?_) (fun hb=>?_)
   ·skip
    exact W.r [41] (.int .i64 (BQ S.p S.q S.m)) ⟨dz _ (by unfold Sn.sg;grind),rfl⟩ bU
   ·skip
    refine W.d [41] 50 ((BQ S.p S.q S.m)==0) (fun hb=>?_) (fun hb=>?_)
    ·skip
     exact W.r [50] (.int .i64 (BQ S.r S.s S.m)) ⟨dz _ (by unfold Sn.sg;grind),rfl⟩ bU
    ·skip
     refine cr [50] 0 b0 0 aB ?_;refine cr [] 0 b0 0 aB ?_;refine jx [] b0 0 [.slice x.u.ao x.u.n x.u.c,.bool x.d] aB rfl ?_;refine cr [] 0 b0 0 aB ?_;refine cr [] 2 b0 0 aB ?_;refine jx [] b0 2 [.slice x.v.ao x.v.n x.v.c,.bool x.e] aB rfl ?_;refine aj [] (cj x.u x.d) ?_;rintro _ _ ⟨n4,a4,m4,b4,rfl,rfl⟩;refine aj [] (cj x.v x.e) ?_;rintro _ _ ⟨n5,a5,m5,b5,rfl,rfl⟩;refine aj [] (cV 2 (by omega) (by omega)) ?_;rintro _ _ ⟨u6,d6,rfl,rfl⟩;refine aj [] (cj u6 d6) ?_;rintro _ _ ⟨n7,a7,m7,b7,rfl,rfl⟩;refine cA [] 4 b0 4 2 4 .i64 0 0 rfl aB (by decide) ?_;refine jx [] b0 4 [.slice x.p.n.ao x.p.n.n x.p.n.c,.bool x.p.a,.slice x.p.m.ao x.p.m.n x.p.m.c,.bool x.p.b] aB rfl ?_;refine cA [] 4 b0 4 2 4 .i64 0 0 rfl aB (by decide) ?_;refine jx [] b0 4 [.slice x.p.n.ao x.p.n.n x.p.n.c,.bool x.p.a,.slice x.p.m.ao x.p.m.n x.p.m.c,.bool x.p.b] aB rfl ?_;refine cA [] 4 b0 4 2 4 .i64 1 1 rfl aB (by decide) ?_;refine jx [] b0 8 [.slice x.q.n.ao x.q.n.n x.q.n.c,.bool x.q.a,.slice x.q.m.ao x.q.m.n x.q.m.c,.bool x.q.b] aB rfl ?_;refine cA [] 4 b0 4 2 4 .i64 1 1 rfl aB (by decide) ?_;refine jx [] b0 8 [.slice x.q.n.ao x.q.n.n x.q.n.c,.bool x.q.a,.slice x.q.m.ao x.q.m.n x.q.m.c,.bool x.q.b] aB rfl ?_;refine cA [] 4 b0 12 2 2 .i64 0 0 rfl aB (by decide) ?_;refine jx [] b0 12 [.slice x.r.n.ao x.r.n.n x.r.n.c,.bool x.r.a,.slice x.r.m.ao x.r.m.n x.r.m.c,.bool x.r.b] aB rfl ?_
     refine cA [] 4 b0 12 2 2 .i64 0 0 rfl aB (by decide) ?_;refine jx [] b0 12 [.slice x.r.n.ao x.r.n.n x.r.n.c,.bool x.r.a,.slice x.r.m.ao x.r.m.n x.r.m.c,.bool x.r.b] aB rfl ?_;refine cA [] 4 b0 12 2 2 .i64 1 1 rfl aB (by decide) ?_;refine jx [] b0 16 [.slice x.s.n.ao x.s.n.n x.s.n.c,.bool x.s.a,.slice x.s.m.ao x.s.m.n x.s.m.c,.bool x.s.b] aB rfl ?_;refine cA [] 4 b0 12 2 2 .i64 1 1 rfl aB (by decide) ?_;refine jx [] b0 16 [.slice x.s.n.ao x.s.n.n x.s.n.c,.bool x.s.a,.slice x.s.m.ao x.s.m.n x.s.m.c,.bool x.s.b] aB rfl ?_;refine aj [] (bR x.p.n x.p.a x.p.m x.p.b x.p.n x.p.a x.p.m x.p.b) ?_;rintro _ _ ⟨n8,a8,m8,b8,rfl,rfl⟩;refine aj [] (bR n4 a4 m4 b4 x.q.n x.q.a x.q.m x.q.b) ?_;rintro _ _ ⟨n9,a9,m9,b9,rfl,rfl⟩;refine aj [] (bR n9 a9 m9 b9 x.q.n x.q.a x.q.m x.q.b) ?_;rintro _ _ ⟨ZG,QT,Zx,zm,rfl,rfl⟩;refine aj [] (fw n8 a8 m8 b8 ZG QT Zx zm) ?_;rintro _ _ ⟨n11,UJ,m11,sS,rfl,rfl⟩;refine aj [] (bR x.r.n x.r.a x.r.m x.r.b x.r.n x.r.a x.r.m x.r.b) ?_;rintro _ _ ⟨V7,Yh,m12,Tf,rfl,rfl⟩;refine aj [] (bR n4 a4 m4 b4 x.s.n x.s.a x.s.m x.s.b) ?_;rintro _ _ ⟨n13,UK,m13,CA,rfl,rfl⟩;refine aj [] (bR n13 UK m13 CA x.s.n x.s.a x.s.m x.s.b) ?_;rintro _ _ ⟨n14,UL,m14,UY,rfl,rfl⟩;refine aj [] (fw V7 Yh m12 Tf n14 UL m14 UY) ?_;rintro _ _ ⟨n15,a15,m15,b15,rfl,rfl⟩;refine aj [] (bR n5 a5 m5 b5 n15 a15 m15 b15) ?_;rintro _ _ ⟨n16,a16,m16,b16,rfl,rfl⟩
     refine aj [] (Eu n11 UJ m11 sS n16 a16 m16 b16) ?_;rintro _ _ ⟨n17,a17,m17,b17,rfl,rfl⟩;refine cA [] 4 b0 4 2 4 .i64 0 0 rfl aB (by decide) ?_;refine jx [] b0 4 [.slice x.p.n.ao x.p.n.n x.p.n.c,.bool x.p.a,.slice x.p.m.ao x.p.m.n x.p.m.c,.bool x.p.b] aB rfl ?_;refine cA [] 4 b0 4 2 4 .i64 1 1 rfl aB (by decide) ?_;refine jx [] b0 8 [.slice x.q.n.ao x.q.n.n x.q.n.c,.bool x.q.a,.slice x.q.m.ao x.q.m.n x.q.m.c,.bool x.q.b] aB rfl ?_;refine cA [] 4 b0 12 2 2 .i64 0 0 rfl aB (by decide) ?_;refine jx [] b0 12 [.slice x.r.n.ao x.r.n.n x.r.n.c,.bool x.r.a,.slice x.r.m.ao x.r.m.n x.r.m.c,.bool x.r.b] aB rfl ?_;refine cA [] 4 b0 12 2 2 .i64 1 1 rfl aB (by decide) ?_;refine jx [] b0 16 [.slice x.s.n.ao x.s.n.n x.s.n.c,.bool x.s.a,.slice x.s.m.ao x.s.m.n x.s.m.c,.bool x.s.b] aB rfl ?_;refine aj [] (bR x.p.n x.p.a x.p.m x.p.b x.q.n x.q.a x.q.m x.q.b) ?_;rintro _ _ ⟨XJ,Xu,XG,L8,rfl,rfl⟩;refine aj [] (bR n5 a5 m5 b5 x.r.n x.r.a x.r.m x.r.b) ?_;rintro _ _ ⟨XK,Xv,XH,Q0,rfl,rfl⟩;refine aj [] (bR XK Xv XH Q0 x.s.n x.s.a x.s.m x.s.b) ?_;rintro _ _ ⟨n20,a20,m20,b20,rfl,rfl⟩;refine aj [] (Eu XJ Xu XG L8 n20 a20 m20 b20) ?_;rintro _ _ ⟨XL,Xw,XI,Xx,rfl,rfl⟩;refine aj [] (bR n7 a7 m7 b7 XL Xw XI Xx) ?_;rintro _ _ ⟨n22,a22,m22,L_,rfl,rfl⟩;refine cr [] 0 b0 0 aB ?_;refine cr [] 0 b0 0 aB ?_;refine jx [] b0 0 [.slice x.u.ao x.u.n x.u.c,.bool x.d] aB rfl ?_
     refine aj [] (II n17 a17 m17 b17 n22 a22 m22 L_ x.u x.d) ?_;rintro _ _ ⟨rfl,rfl⟩;exact W.r [] (.int .i64 (IntKind.i64.wrap ((BQ S.p S.q S.m)*(BQ (((S.p*S.p)+(((S.m:Rat)*S.q)*S.q))-((S.n:Rat)*((S.r*S.r)+(((S.m:Rat)*S.s)*S.s)))) ((2:Rat)*((S.p*S.q)-(((S.n:Rat)*S.r)*S.s))) S.m)))) ⟨dz _ (by rw[Uo (Ug _ _ _) (Ug _ _ _)];unfold Sn.sg;grind),rfl⟩ bU
theorem uK(x:Sw){S:Sn} [aZ (SF x) (L,S) Γ](u:Sl)(e:Bool){q:Int} [aZ (ZF u e) (M,q) Γ](hL:L≤4000:=by omega)(hM:M≤4000:=by omega):
  au tb Tryz.prog 269 [sv x,zv u e] Γ (jv (.bool (decide ((S.lessq q).sg<0)))):=by
 refine au.of_W aB Tryz.func269 rfl ?_;refine s6 x rfl ?_;refine aj [] (cj u e) ?_;rintro _ _ ⟨n1,a1,m1,b1,rfl,rfl⟩;refine aj [] (Eu x.p.n x.p.a x.p.m x.p.b n1 a1 m1 b1) ?_;rintro _ _ ⟨n2,a2,m2,b2,rfl,rfl⟩;refine gI [] (KZ (x:=⟨x.u,x.d,x.v,x.e,⟨n2,a2,m2,b2⟩,x.q,x.r,x.s⟩) (L':=L+max M 2+10) (S:=(S.lessq q)) rfl rfl rfl rfl rfl rfl (by omega)) (Kb ⟨x.u,x.d,x.v,x.e,⟨n2,a2,m2,b2⟩,x.q,x.r,x.s⟩) ?_;rintro _ _ ⟨rfl,rfl⟩;exact W.r [] (.bool (decide ((S.lessq q).sg<0))) ⟨rfl,rfl⟩ bU
theorem xo(n:Sl)(a:Bool)(m:Sl)(b:Bool)(u:Sl)(e:Bool)(k:Int)(hk:k=8){x:Rat}{r:Int} [aZ (QF n a m b) (L,x) Γ] [hr:aZ (ZF u e) (M,r) Γ](hL:L≤600:=by omega)(hM:M≤700:=by omega):
  au tb Tryz.prog 268 [qv n a m b,zv u e,.int .i64 k] Γ (oS (2*L+M+10) (kS x r 8)):=by
 subst hk;refine au.of_W aB Tryz.func268 rfl ?_;refine aj [] (O8 n a m b) ?_;rintro _ _ ⟨u1,d1,rfl,rfl⟩;refine aj [] (Br u1 d1) ?_;rintro _ _ ⟨rfl,rfl⟩;refine aj [] (O8 n a m b) ?_;rintro _ _ ⟨u3,d3,rfl,rfl⟩;refine aj [] (Br u3 d3) ?_;rintro _ _ ⟨rfl,rfl⟩;refine aj [] (OT u1 u3) ?_;rintro _ _ ⟨u5,rfl,rfl⟩;refine aj [] (Br u e) ?_;rintro _ _ ⟨rfl,rfl⟩;refine aj [] (OT u5 u) ?_;rintro _ _ ⟨u7,rfl,rfl⟩;refine aj [] (Z3 u7 16 (by omega)) ?_;rintro _ _ ⟨u8,rfl,rfl⟩;refine aj [] (WE u8) ?_;rintro _ _ ⟨u9,t9,rfl,rfl⟩;refine aj [] (vU u9) ?_;rintro _ _ ⟨BW,d10,rfl,rfl⟩;refine aj [] (jB n a m b) ?_;rintro _ _ ⟨u11,d11,rfl,rfl⟩;refine aj [] (jh BW d10 u11 d11 (by have:=gO x;omega)) ?_;rintro _ _ ⟨u12,d12,v12,e12,rfl,rfl⟩;refine aj [] (jg n a m b) ?_;rintro _ _ ⟨rfl,rfl⟩;refine W.d [] 46 (decide (x.num.sign<0)) (fun hb=>?_) (fun hb=>?_)
 ·refine aj [46] (rU u12 d12) ?_;rintro _ _ ⟨u14,d14,rfl,rfl⟩;exact W.r [] (zv u14 d14) ⟨_,_,rfl,rfl⟩ (kX (by omega) (by unfold kS;simp only;rw[if_pos (kr hb)]))
 ·exact W.r [46] (zv u12 d12) ⟨_,_,rfl,rfl⟩ (kX (by omega) (by unfold kS;simp only;rw[if_neg (eL hb)]))
end
def Kd(l:List QE)(i:Nat):Qw:=match l[i]? with
 |some e=>⟨e.n,e.nb,e.d,e.db⟩
 |none=>bV
def XN(l:List QE)(i:Nat):Rat:=match l[i]? with
 |some e=>e.q
 |none=>0
theorem xy{l:List QE}{L L':Nat}{I:f_}{w:World}(hd:bB tb I w)(h:∀e∈l,(QR.fact L e).p I w)(hL:L≤L')(i:Nat):(QG (Kd l i) (L',XN l i)).p I w:=by
 unfold Kd XN;cases hi:l[i]? with
 |none=>exact(kW (Γ:=[]) (L':=L') I w hd (aG.nil _ _)).h0'
 |some e=>
  have:=h e (aO hi);exact QF.up2 this hL
section
variable{fin:VS→List aE→Prop}{Γ:List aE}{L M K:Nat}
theorem Pe(u:Sl)(d:Bool)(v:Sl)(e:Bool)(ao:Option Addr)(n c:Nat){l:List QE}{p q:Int} [hu:aZ (ZF u d) (L,p) Γ] [hv:aZ (ZF v e) (M,q) Γ] [h:aZ (OL QR ao) (K,l) Γ](hn:n=l.length)(hl:n≤4)(hp:0≤p)(hq:0≤q)
  (hL:L≤100000:=by omega)(hM:M≤100000:=by omega):
  au tb Tryz.prog 148 [zv u d,zv v e,.slice ao n c] Γ (Xt (max (max L M) K) ⟨p,q,XN l 0,XN l 1,XN l 2,XN l 3⟩):=by
 subst hn;refine au.of_W aB Tryz.func148 rfl ?_;refine W.more (Δ:=[RA ao (l.flatMap QR.cells)]) rfl (fun I w _ hh=>aV (h.p hh).2) ?_;refine qx (l.flatMap QR.cells≠ []→∃b off,ao=some ⟨b,off,none⟩) rfl (fun I w _ hh hne=>by
  obtain⟨b,off,ha,_⟩:=(h.p (fun F hF=>hh F (by simp[hF]))).2 hne;exact⟨b,off,ha⟩) (fun hao=>?_)
 refine aj [] (nf u d) ?_;rintro _ _ ⟨rfl,rfl⟩;refine aS [] 12 (decide ((p).sign<0)) (by rw[aY,Int.sign_neg_iff];omega) ?_;refine aj [12] (nf v e) ?_;rintro _ _ ⟨rfl,rfl⟩;refine aS [12] 17 (decide ((q).sign<0)) (by rw[aY,Int.sign_neg_iff];omega) ?_;refine aS [17] 21 (decide (((l.length:Nat):Int)>4)) (by rw[aY];omega) ?_;refine vf 8 (fun b=>?_);refine cr [] 4 b 0 aB ?_;refine wm [] 4 4 b 4 none none 0 4 aB (.inr ⟨rfl,rfl⟩) (.inr ⟨rfl,rfl⟩) (by decide) (by decide) (by decide) ?_;have Ij:∀z∈l.flatMap QR.cells,z.oneCell'=true:=by
  intro z hz;obtain⟨e,_,hz⟩:=List.mem_flatMap.1 hz;simp[QR]at hz;rcases hz with rfl|rfl|rfl|rfl<;>rfl
 have hlen:=p_ QR l;have hz:QR.z=4:=rfl;refine Yc [] [(b,(sv ⟨u,d,v,e,bV,bV,bV,bV⟩).cells.toList)] [] [] 4 b 4 4 4 l.length (sv ⟨u,d,v,e,bV,bV,bV,bV⟩).cells.toList (.slice ao l.length c) (l.flatMap QR.cells) aB rfl
  (G9 ao _ l.length 4 c hlen (fun h0=>hao (by intro e;have h2:=dz List.length e;rw[hlen,hz]at h2;simp only[bE]at h2;omega))) Ij hl (by rw[hlen,hz];show _≤20;omega) ?_
 have key:∀(X:Sw),X=⟨u,d,v,e,Kd l 0,Kd l 1,Kd l 2,Kd l 3⟩→((((sv ⟨u,d,v,e,bV,bV,bV,bV⟩).cells.toList.take 4++l.flatMap QR.cells++(sv ⟨u,d,v,e,bV,bV,bV,bV⟩).cells.toList.drop (4+(l.flatMap QR.cells).length)).drop 0).take 20=(sv X).cells.toList):=by
  rintro X rfl;rcases l with _|⟨e0,_|⟨e1,_|⟨e2,_|⟨e3,_|⟨e4,l⟩⟩⟩⟩⟩
  ·rfl
  ·rfl
  ·rfl
  ·rfl
  ·rfl
  ·simp at hl
 refine wk [] ([]++(b,(sv ⟨u,d,v,e,bV,bV,bV,bV⟩).cells.toList.take 4++l.flatMap QR.cells++(sv ⟨u,d,v,e,bV,bV,bV,bV⟩).cells.toList.drop (4+(l.flatMap QR.cells).length))::[]) b 0 20 _ (sv ⟨u,d,v,e,Kd l 0,Kd l 1,Kd l 2,Kd l 3⟩).cells.toList aB (by simp) (key _ rfl) rfl ?_;exact W.r [] (.tuple #[sv ⟨u,d,v,e,Kd l 0,Kd l 1,Kd l 2,Kd l 3⟩,.int .i64 0]) ⟨_,rfl,rfl⟩ (fun I w hd hh=>by
  have f1:=aZ.p (k:=ZF u d) (a:=(L,p)) inferInstance hh;have f2:=aZ.p (k:=ZF v e) (a:=(M,q)) inferInstance hh;have f3:=(aZ.p (k:=OL QR ao) (a:=(K,l)) inferInstance hh).1;exact aV ⟨ZF.up2 f1 (by omega),ZF.up2 f2 (by omega),xy hd f3 (by omega) 0,xy hd f3 (by omega) 1,xy hd f3 (by omega) 2,xy hd f3 (by omega) 3⟩)
end
section
variable{fin:VS→List aE→Prop}{Γ:List aE}{L M K:Nat}
theorem au.entH{f:FuncId}{args:List Value}{Γ:List aE}{post post':Value→List aE→Prop}(h:au tb Tryz.prog f args Γ post)(hp:∀v Δ,post v Δ→∃Δ',post' v Δ'∧∀I w,aG Δ I w→aG Δ' I w):au tb Tryz.prog f args Γ post':=
 ⟨h.1,fun I w hd hh=>(h.2 I w hd hh).mono fun _ _ ⟨v,Δ,h1,h2,h3,h4⟩=>by
  obtain⟨Δ',g1,g2⟩:=hp v Δ h2;exact⟨v,Δ',h1,g1,h3,g2 _ _ h4⟩⟩
end
open Go.RowKit
def Pu(e:Ev):Option (TypeId×Value×Value):=
 match e with
 | .read o c=>match o.op with
  | .binOp .eql t x y _=>match c.s.ev x,c.s.ev y with
   | .val a,.val b=>some (t,a,b)
   |_,_=>none
  |_=>none
 |_=>none
section
variable{T:Tb}{P:Program}{fin:VS→List aE→Prop}{c:fM}{Γ:List aE}
theorem W.rem(D:List Nat)(a b r:Int)(hb:b≠0)(hr:a.tmod b=r)
  (hk:W T P fin (gy (aJ T (bh T D 999 c)) (.int .i64 r)) Γ)(h:ng (aJ T (bh T D 999 c))=some (.rem,.int .i64 a,.int .i64 b):=by kernel_rfl):W T P fin c Γ:=by
 subst hr;refine eF D 999 ?_;generalize bh T D 999 c=c1 at*;unfold ng at h;split at h
 ·rename_i o c' he;rw[he]at hk;split at h
  ·rename_i op ty u v yt hop;split at h
   ·rename_i x y hx hy;simp only[aq,aI]at h;obtain⟨rfl,rfl,rfl⟩:=h;refine W.read _ he (.any ?_) hk;intro w;simp[execOp,hop,cE hx,cE hy,eqGuard,binOp,Op.intDiv,hb]
   ·simp at h
  ·simp at h
 ·simp at h
end
structure Ow where
 f:Bool
 o:Int
 g:Qw
 a:Qw
 b:Qw
 c:Qw
 d:Qw
structure On where
 f:Bool
 o:Int
 g:Rat
 a:Rat
 b:Rat
 c:Rat
 d:Rat
structure Q5 where
 g:Qw
 a:Qw
 b:Qw
 c:Qw
 d:Qw
abbrev vp(a b:Qw):Value:=.agg #[.slice a.n.ao a.n.n a.n.c,.bool a.a,.slice a.m.ao a.m.n a.m.c,.bool a.b,.slice b.n.ao b.n.n b.n.c,.bool b.a,.slice b.m.ao b.m.n b.m.c,.bool b.b]
abbrev Uj(f:Bool)(o:Int)(g a b c d:Qw):Value:=.agg #[.bool f,.int .i64 o,.slice g.n.ao g.n.n g.n.c,.bool g.a,.slice g.m.ao g.m.n g.m.c,.bool g.b,.slice a.n.ao a.n.n a.n.c,.bool a.a,.slice a.m.ao a.m.n a.m.c,.bool a.b,
 .slice b.n.ao b.n.n b.n.c,.bool b.a,.slice b.m.ao b.m.n b.m.c,.bool b.b,.slice c.n.ao c.n.n c.n.c,.bool c.a,.slice c.m.ao c.m.n c.m.c,.bool c.b,.slice d.n.ao d.n.n d.n.c,.bool d.a,.slice d.m.ao d.m.n d.m.c,.bool d.b]
abbrev BB(x y:Sw):Value:=.agg ((sv x).cells++(sv y).cells)
abbrev Hx(V:On)(x:Q5):Value:=Uj V.f V.o x.g x.a x.b x.c x.d
def OF(x:Q5)(a:Nat×On):aE where
 p I w:=(QG x.g (a.1,a.2.g)).p I w∧(QG x.a (a.1,a.2.a)).p I w∧(QG x.b (a.1,a.2.b)).p I w∧(QG x.c (a.1,a.2.c)).p I w∧(QG x.d (a.1,a.2.d)).p I w
 up:=by
  rintro I I' w w' ⟨g2,g3,g4,g5,g6⟩ h1 h2 h3;exact⟨(QG x.g _).up g2 h1 h2 h3,(QG x.a _).up g3 h1 h2 h3,(QG x.b _).up g4 h1 h2 h3,(QG x.c _).up g5 h1 h2 h3,(QG x.d _).up g6 h1 h2 h3⟩
section
variable{fin:VS→List aE→Prop}{Γ:List aE}{L:Nat}
theorem Cu{P:Program}{c:fM}(x:Q5){V:On} [h:aZ (OF x) (L,V) Γ](hm:dG c.k=false)
  (hk:W tb P fin c (QG x.g (L,V.g)::QG x.a (L,V.a)::QG x.b (L,V.b)::QG x.c (L,V.c)::QG x.d (L,V.d)::Γ)):W tb P fin c Γ:=
 W.more (Δ:=[QG x.g (L,V.g),QG x.a (L,V.a),QG x.b (L,V.b),QG x.c (L,V.c),QG x.d (L,V.d)]) hm (fun I w _ hh=>by
  obtain⟨g2,g3,g4,g5,g6⟩:=h.p hh;exact aG.cons g2 (aG.cons g3 (aG.cons g4 (aG.cons g5 (aV g6))))) hk
theorem Vo{x:Q5}{L' L1 L2 L3 L4 L5:Nat}{V:On}{g a b c d:Rat} [h1:aZ (QG x.g) (L1,g) Γ] [h2:aZ (QG x.a) (L2,a) Γ] [h3:aZ (QG x.b) (L3,b) Γ] [h4:aZ (QG x.c) (L4,c) Γ] [h5:aZ (QG x.d) (L5,d) Γ]
  (e1:g=V.g)(e2:a=V.a)(e3:b=V.b)(e4:c=V.c)(e5:d=V.d)(hL:L1≤L'∧L2≤L'∧L3≤L'∧L4≤L'∧L5≤L'):∀(I:f_) (w:World),bB tb I w→aG Γ I w→aG [OF x (L',V)] I w:=fun I w _ hh=>by
 subst e1 e2 e3 e4 e5;obtain⟨l1,l2,l3,l4,l5⟩:=hL;exact aV ⟨QF.up2 (h1.p hh) l1,QF.up2 (h2.p hh) l2,QF.up2 (h3.p hh) l3,QF.up2 (h4.p hh) l4,QF.up2 (h5.p hh) l5⟩
end
def tm1(x y:Rat)(c d:Int):Rat:=x*c+y*d
def tm2(x y:Rat)(c d:Int):Rat:=y*c+x*Rat.divInt d 2
def pc(o:Int):Int:=if o=0 then 1 else if o=4 then-1 else 0
def ps(o:Int):Int:=if o=2 then 1 else if o=6 then-1 else 0
def GW(o:Int):Int:=if o=1∨o=7 then 1 else if o=3∨o=5 then-1 else 0
def G6(o:Int):Int:=if o=1∨o=3 then 1 else if o=5∨o=7 then-1 else 0
def On.mag(V:On):Rat:=if V.g.num.sign=0 then 1 else V.g
def On.sg(V:On)(z:Rat):Rat:=if V.f then-z else z
def On.u0(V:On)(x y z w:Rat):Rat:=tm1 (x*V.mag) (y*V.mag) (pc V.o) (GW V.o)+ -(tm1 (V.sg z*V.mag) (V.sg w*V.mag) (ps V.o) (G6 V.o))+V.a
def On.u1(V:On)(x y z w:Rat):Rat:=tm2 (x*V.mag) (y*V.mag) (pc V.o) (GW V.o)+ -(tm2 (V.sg z*V.mag) (V.sg w*V.mag) (ps V.o) (G6 V.o))+V.b
def On.v0(V:On)(x y z w:Rat):Rat:=tm1 (x*V.mag) (y*V.mag) (ps V.o) (G6 V.o)+tm1 (V.sg z*V.mag) (V.sg w*V.mag) (pc V.o) (GW V.o)+V.c
def On.v1(V:On)(x y z w:Rat):Rat:=tm2 (x*V.mag) (y*V.mag) (ps V.o) (G6 V.o)+tm2 (V.sg z*V.mag) (V.sg w*V.mag) (pc V.o) (GW V.o)+V.d
def r2(x y:Rat):Sn:=⟨2,0,x,y,0,0⟩
def DI(L:Nat)(x y:Rat)(v:Value)(Δ:List aE):Prop:=∃a b:Qw,v=vp a b∧Δ=[QG a (L,x),QG b (L,y)]
def vE(L:Nat)(X Y:Sn)(v:Value)(Δ:List aE):Prop:=∃x y:Sw,v=BB x y∧Δ=[SF x (L,X),SF y (L,Y)]
def On.then(V U:On):On:=⟨!(V.f==U.f),if U.f then(-V.o+U.o) % 8 else(V.o+U.o) % 8,V.mag*U.mag,U.u0 V.a V.b V.c V.d,U.u1 V.a V.b V.c V.d,U.v0 V.a V.b V.c V.d,U.v1 V.a V.b V.c V.d⟩
theorem U2:∀n m:_root_.Fin 8,bits BinOp.and .i64 (IntKind.i64.wrap ((n:Int)+m)) 7=((n:Int)+m) % 8:=by decide+kernel
theorem U3:∀n m:_root_.Fin 8,bits BinOp.and .i64 (IntKind.i64.wrap (IntKind.i64.wrap (0-(n:Int))+m)) 7=(-(n:Int)+m) % 8:=by decide+kernel
theorem Ri{o:Int}(h:0≤o∧o≤7):∃n:_root_.Fin 8,o=(n:Int):=⟨⟨o.toNat,by omega⟩,by simp only;omega⟩
theorem Yr{o u:Int}(h:0≤o∧o≤7)(h':0≤u∧u≤7):bits BinOp.and .i64 (IntKind.i64.wrap (o+u)) 7=(o+u) % 8:=by
 obtain⟨n,rfl⟩:=Ri h;obtain⟨m,rfl⟩:=Ri h';exact U2 n m
theorem Ys{o u:Int}(h:0≤o∧o≤7)(h':0≤u∧u≤7):bits BinOp.and .i64 (IntKind.i64.wrap (IntKind.i64.wrap (0-o)+u)) 7=(-o+u) % 8:=by
 obtain⟨n,rfl⟩:=Ri h;obtain⟨m,rfl⟩:=Ri h';exact U3 n m
theorem KH(V U:On):0≤(V.then U).o∧(V.then U).o≤7:=by
 unfold On.then
 simp only;split<;>omega
theorem WN(o:Int): -1≤pc o∧pc o≤1:=by unfold pc;(repeat' split)<;>omega
theorem WO(o:Int): -1≤ps o∧ps o≤1:=by unfold ps;(repeat' split)<;>omega
theorem Ph(o:Int): -1≤GW o∧GW o≤1:=by unfold GW;(repeat' split)<;>omega
theorem Pm(o:Int): -1≤G6 o∧G6 o≤1:=by unfold G6;(repeat' split)<;>omega
section
variable{fin:VS→List aE→Prop}{Γ:List aE}{L M K:Nat}
theorem abD{a:Qw}{L':Nat}{q q':Rat} [h:aZ (QG a) (L,q) Γ](hL:L≤L')(hq:q=q'):∀(I:f_) (w:World),bB tb I w→aG Γ I w→aG [QG a (L',q')] I w:=fun I w _ hh=>by
 subst hq;exact aV (QF.up2 (h.p hh) hL)
theorem AG{a b:Qw}{L1 L2 L':Nat}{q q' r r':Rat} [h:aZ (QG a) (L1,q) Γ] [h':aZ (QG b) (L2,r) Γ](hL:L1≤L'∧L2≤L')(hq:q=q')(hr:r=r'):∀(I:f_) (w:World),bB tb I w→aG Γ I w→aG [QG a (L',q'),QG b (L',r')] I w:=fun I w _ hh=>by
 subst hq hr;exact aG.cons (QF.up2 (h.p hh) hL.1) (aV (QF.up2 (h'.p hh) hL.2))
theorem ac1{z:Int}(h:(z==0)=true):z=0:=eq_of_beq h
theorem J5(o:Int)(h:0≤o∧o≤7):au tb Tryz.prog 206 [.int .i64 o] Γ (jv (.agg #[.int .i64 (pc o),.int .i64 (ps o),.int .i64 (GW o),.int .i64 (G6 o)])):=by
 obtain rfl|rfl|rfl|rfl|rfl|rfl|rfl|rfl:o=0∨o=1∨o=2∨o=3∨o=4∨o=5∨o=6∨o=7:=by omega
 ·exact au.of_W aB Tryz.func206 rfl (W.r [] (.agg #[.int .i64 1,.int .i64 0,.int .i64 0,.int .i64 0]) ⟨rfl,rfl⟩ bU)
 ·exact au.of_W aB Tryz.func206 rfl (W.r [] (.agg #[.int .i64 0,.int .i64 0,.int .i64 1,.int .i64 1]) ⟨rfl,rfl⟩ bU)
 ·exact au.of_W aB Tryz.func206 rfl (W.r [] (.agg #[.int .i64 0,.int .i64 1,.int .i64 0,.int .i64 0]) ⟨rfl,rfl⟩ bU)
 ·exact au.of_W aB Tryz.func206 rfl (W.r [] (.agg #[.int .i64 0,.int .i64 0,.int .i64 (-1),.int .i64 1]) ⟨rfl,rfl⟩ bU)
 ·exact au.of_W aB Tryz.func206 rfl (W.r [] (.agg #[.int .i64 (-1),.int .i64 0,.int .i64 0,.int .i64 0]) ⟨rfl,rfl⟩ bU)
 ·exact au.of_W aB Tryz.func206 rfl (W.r [] (.agg #[.int .i64 0,.int .i64 0,.int .i64 (-1),.int .i64 (-1)]) ⟨rfl,rfl⟩ bU)
 ·exact au.of_W aB Tryz.func206 rfl (W.r [] (.agg #[.int .i64 0,.int .i64 (-1),.int .i64 0,.int .i64 0]) ⟨rfl,rfl⟩ bU)
 ·exact au.of_W aB Tryz.func206 rfl (W.r [] (.agg #[.int .i64 0,.int .i64 0,.int .i64 1,.int .i64 (-1)]) ⟨rfl,rfl⟩ bU)
theorem lF(u:Sl)(d:Bool)(v:Sl)(e:Bool)(a b:Qw){m n:Int}{x y:Rat}{L1 L2:Nat} [h1:aZ (ZF u d) (L,m) Γ] [h2:aZ (ZF v e) (M,n) Γ] [ha:aZ (QG a) (L1,x) Γ] [hb:aZ (QG b) (L2,y) Γ](hm:0≤m)(hn:0≤n)
  (hL:L≤100000:=by omega)(hM:M≤100000:=by omega):
  au tb Tryz.prog 143 [zv u d,zv v e,vp a b] Γ (SX (max (max L M) (max L1 L2)) ⟨m,n,x,y,0,0⟩):=by
 refine au.of_W aB Tryz.func143 rfl ?_;refine cI [] 2 ([(⟨a.n,a.a,a.m,a.b,x⟩:QE),⟨b.n,b.a,b.m,b.b,y⟩].flatMap QR.cells) aB (fun B=>?_);refine aj [] ((Pe (Γ:=OL QR (some ⟨B,0,none⟩) (max L1 L2,[(⟨a.n,a.a,a.m,a.b,x⟩:QE),⟨b.n,b.a,b.m,b.b,y⟩])::_) u d v e (some ⟨B,0,none⟩) 2 2 rfl (by omega) hm hn).weak (fun I w hd hh=>aG.cons ⟨fun q hq=>?_,?_⟩ hh) (fun _ _ h=>h)) ?_
 ·simp at hq;rcases hq with rfl|rfl
  ·exact QF.up2 (aZ.p (k:=QG a) (a:=(L1,x)) inferInstance hh) (by omega)
  ·exact QF.up2 (aZ.p (k:=QG b) (a:=(L2,y)) inferInstance hh) (by omega)
 ·exact RA.of_row (aZ.p (k:=dY B) (a:=[(⟨a.n,a.a,a.m,a.b,x⟩:QE),⟨b.n,b.a,b.m,b.b,y⟩].flatMap QR.cells) inferInstance hh) (fun _ _ h=>h)
 rintro _ _ ⟨X,rfl,rfl⟩;exact W.r [] (sv X) ⟨X,rfl,rfl⟩ (pR (by omega) rfl)
theorem kZ(n:Int)(h1: -9223372036854775808≤n)(h2:n<9223372036854775808):
  au tb Tryz.prog 141 [.int .i64 n] Γ (sY 2 (n:Rat)):=by
 refine au.of_W aB Tryz.func141 rfl ?_;refine aj [] (cV n (by omega) (by omega)) ?_;rintro _ _ ⟨u1,d1,rfl,rfl⟩;refine aj [] (cj u1 d1) ?_;rintro _ _ ⟨n2,a2,m2,b2,rfl,rfl⟩;exact W.r [] (qv n2 a2 m2 b2) ⟨_,_,_,_,rfl,rfl⟩ (j9 (by omega) rfl)
theorem OX:
  au tb Tryz.prog 142 [] Γ (fun v Δ=>∃(u:Sl) (d:Bool),v=.tuple #[zv u d,zv ⟨none,0,0⟩ false]∧Δ=[ZF u d (2,2),ZF ⟨none,0,0⟩ false (2,0)]):=by
 refine au.of_W aB Tryz.func142 rfl ?_;refine aj [] (cV 2 (by omega) (by omega)) ?_;rintro _ _ ⟨u1,d1,rfl,rfl⟩;exact W.r [] (.tuple #[zv u1 d1,zv ⟨none,0,0⟩ false]) ⟨_,_,rfl,rfl⟩ (lV (Δ:=[_]) (Δ':=[_]) (kX (by omega) rfl) zJ)
theorem nH(a b:Qw)(c d:Int){x y:Rat} [aZ (QG a) (L,x) Γ] [aZ (QG b) (M,y) Γ](hc: -9223372036854775808≤c∧c<9223372036854775808)(hd: -9223372036854775808≤d∧d<9223372036854775808)(hL:L≤400000:=by omega)(hM:M≤400000:=by omega):
  au tb Tryz.prog 208 [vp a b,.int .i64 c,.int .i64 d] Γ (DI (L+M+30) (tm1 x y c d) (tm2 x y c d)):=by
 refine au.of_W aB Tryz.func208 rfl ?_;refine aj [] (Bm d 2 (by omega) (by omega) (by omega) (by omega) (by omega)) ?_;rintro _ _ ⟨n1,a1,m1,b1,rfl,rfl⟩;refine aj [] (kZ c (by omega) (by omega)) ?_;rintro _ _ ⟨n2,a2,m2,b2,rfl,rfl⟩;refine aj [] (bR a.n a.a a.m a.b n2 a2 m2 b2) ?_;rintro _ _ ⟨n3,a3,m3,b3,rfl,rfl⟩;refine aj [] (kZ d (by omega) (by omega)) ?_;rintro _ _ ⟨n4,a4,m4,b4,rfl,rfl⟩;refine aj [] (bR b.n b.a b.m b.b n4 a4 m4 b4) ?_;rintro _ _ ⟨n5,a5,m5,b5,rfl,rfl⟩;refine aj [] (fw n3 a3 m3 b3 n5 a5 m5 b5) ?_;rintro _ _ ⟨n6,a6,m6,b6,rfl,rfl⟩;refine aj [] (kZ c (by omega) (by omega)) ?_;rintro _ _ ⟨n7,a7,m7,b7,rfl,rfl⟩;refine aj [] (bR b.n b.a b.m b.b n7 a7 m7 b7) ?_;rintro _ _ ⟨n8,a8,m8,b8,rfl,rfl⟩;refine aj [] (bR a.n a.a a.m a.b n1 a1 m1 b1) ?_;rintro _ _ ⟨n9,a9,m9,b9,rfl,rfl⟩;refine aj [] (fw n8 a8 m8 b8 n9 a9 m9 b9) ?_;rintro _ _ ⟨ZG,QT,Zx,zm,rfl,rfl⟩;exact W.r [] (vp ⟨n6,a6,m6,b6⟩ ⟨ZG,QT,Zx,zm⟩) ⟨⟨_,_,_,_⟩,⟨_,_,_,_⟩,rfl,rfl⟩ (AG (by omega) rfl rfl)
theorem nU(a b c d:Qw){x y z w:Rat}{L1 L2 L3 L4:Nat} [aZ (QG a) (L1,x) Γ] [aZ (QG b) (L2,y) Γ] [aZ (QG c) (L3,z) Γ] [aZ (QG d) (L4,w) Γ](hL:L1≤1000000∧L2≤1000000∧L3≤1000000∧L4≤1000000:=by omega):
  au tb Tryz.prog 207 [vp a b,vp c d] Γ (DI (max L1 L2+max L3 L4+5) (x+z) (y+w)):=by
 refine au.of_W aB Tryz.func207 rfl ?_;refine aj [] (fw a.n a.a a.m a.b c.n c.a c.m c.b) ?_;rintro _ _ ⟨n1,a1,m1,b1,rfl,rfl⟩;refine aj [] (fw b.n b.a b.m b.b d.n d.a d.m d.b) ?_;rintro _ _ ⟨n2,a2,m2,b2,rfl,rfl⟩;exact W.r [] (vp ⟨n1,a1,m1,b1⟩ ⟨n2,a2,m2,b2⟩) ⟨⟨_,_,_,_⟩,⟨_,_,_,_⟩,rfl,rfl⟩ (AG (by omega) rfl rfl)
theorem Bj(a b:Qw){x y:Rat}{L1 L2:Nat} [aZ (QG a) (L1,x) Γ] [aZ (QG b) (L2,y) Γ](hL:L1≤1000000∧L2≤1000000:=by omega):
  au tb Tryz.prog 205 [vp a b] Γ (DI (max L1 L2) (-x) (-y)):=by
 refine au.of_W aB Tryz.func205 rfl ?_;refine aj [] (ph a.n a.a a.m a.b) ?_;rintro _ _ ⟨n1,a1,m1,b1,rfl,rfl⟩;refine aj [] (ph b.n b.a b.m b.b) ?_;rintro _ _ ⟨n2,a2,m2,b2,rfl,rfl⟩;exact W.r [] (vp ⟨n1,a1,m1,b1⟩ ⟨n2,a2,m2,b2⟩) ⟨⟨_,_,_,_⟩,⟨_,_,_,_⟩,rfl,rfl⟩ (AG (by omega) rfl rfl)
theorem Tr{a b c d:Qw}{L1 L2 L3 L4 L':Nat}{p p' q q' r r' s s':Rat} [h1:aZ (QG a) (L1,p) Γ] [h2:aZ (QG b) (L2,q) Γ] [h3:aZ (QG c) (L3,r) Γ] [h4:aZ (QG d) (L4,s) Γ](hL:L1≤L'∧L2≤L'∧L3≤L'∧L4≤L')(e1:p=p')(e2:q=q')(e3:r=r')(e4:s=s'):
  ∀(I:f_) (w:World),bB tb I w→aG Γ I w→aG [QG a (L',p'),QG b (L',q'),QG c (L',r'),QG d (L',s')] I w:=fun I w _ hh=>by
 subst e1 e2 e3 e4;exact aG.cons (QF.up2 (h1.p hh) hL.1) (aG.cons (QF.up2 (h2.p hh) hL.2.1) (aG.cons (QF.up2 (h3.p hh) hL.2.2.1) (aV (QF.up2 (h4.p hh) hL.2.2.2))))
theorem Js{x y:Sw}{L1 L2 L':Nat}{X X' Y Y':Sn} [h1:aZ (SF x) (L1,X) Γ] [h2:aZ (SF y) (L2,Y) Γ](hL:L1≤L'∧L2≤L')(e1:X=X')(e2:Y=Y'):∀(I:f_) (w:World),bB tb I w→aG Γ I w→aG [SF x (L',X'),SF y (L',Y')] I w:=fun I w hd hh=>by
 exact aG.cons ((pR (Γ:=Γ) (x:=x) hL.1 e1) I w hd hh).h0' (pR (Γ:=Γ) (x:=y) hL.2 e2 I w hd hh)
theorem vT(f:Bool)(o:Int)(g a b c d:Qw){V:On} [aZ (QG g) (L,V.g) Γ](hL:L≤1000000:=by omega):
  au tb Tryz.prog 149 [Uj f o g a b c d] Γ (fun v Δ=>∃g:Qw,v=qv g.n g.a g.m g.b∧Δ=[QG g (max L 2,V.mag)]):=by
 refine au.of_W aB Tryz.func149 rfl ?_;refine aj [] (jg g.n g.a g.m g.b) ?_;rintro _ _ ⟨rfl,rfl⟩;refine W.d [] 6 (V.g.num.sign==0) (fun hb=>?_) (fun hb=>?_)
 ·skip
  refine aj [6] (kZ 1 (by omega) (by omega)) ?_;rintro _ _ ⟨n2,a2,m2,b2,rfl,rfl⟩;exact W.r [] (qv n2 a2 m2 b2) ⟨⟨_,_,_,_⟩,rfl,rfl⟩ (j9 (by omega) (by unfold On.mag;rw[if_pos (ac1 hb)];rfl))
 ·skip
  exact W.r [6] (qv g.n g.a g.m g.b) ⟨g,rfl,rfl⟩ (abD (by omega) (by unfold On.mag;rw[if_neg (kn hb)]))
theorem Es(V:On)(x:Q5)(p q r s:Qw){X Y Z U:Rat}{L1 L2 L3 L4:Nat} [aZ (OF x) (L,V) Γ] [aZ (QG p) (L1,X) Γ] [aZ (QG q) (L2,Y) Γ] [aZ (QG r) (L3,Z) Γ] [aZ (QG s) (L4,U) Γ](ho:0≤V.o∧V.o≤7)(hL:L≤10000∧L1≤10000∧L2≤10000∧L3≤10000∧L4≤10000:=by omega):
  au tb Tryz.prog 140 [Hx V x,vp p q,vp r s] Γ (fun v Δ=>∃a b c d:Qw,v=.tuple #[vp a b,vp c d]∧Δ=[QG a (5*L+4*max (max L1 L2) (max L3 L4)+200,V.u0 X Y Z U),QG b (5*L+4*max (max L1 L2) (max L3 L4)+200,V.u1 X Y Z U),QG c (5*L+4*max (max L1 L2) (max L3 L4)+200,V.v0 X Y Z U),QG d (5*L+4*max (max L1 L2) (max L3 L4)+200,V.v1 X Y Z U)]):=by
 refine au.of_W aB Tryz.func140 rfl ?_;have b1:=WN V.o;have b2:=WO V.o;have b3:=Ph V.o;have b4:=Pm V.o;refine Cu x rfl ?_;refine W.d [] 14 (V.f) (fun hb=>?_) (fun hb=>?_)
 ·skip
  refine aj [14] (Bj r s) ?_;rintro _ _ ⟨a1,b1,rfl,rfl⟩;refine aj [] (vT V.f V.o x.g x.a x.b x.c x.d (V:=V)) ?_;rintro _ _ ⟨g2,rfl,rfl⟩;refine j2 [] 4 ?_;refine aj [20] (bR p.n p.a p.m p.b g2.n g2.a g2.m g2.b) ?_;rintro _ _ ⟨n3,a3,m3,b3,rfl,rfl⟩;refine aj [] (bR a1.n a1.a a1.m a1.b g2.n g2.a g2.m g2.b) ?_;rintro _ _ ⟨n4,a4,m4,b4,rfl,rfl⟩;refine aj [20] (bR q.n q.a q.m q.b g2.n g2.a g2.m g2.b) ?_;rintro _ _ ⟨n5,a5,m5,b5,rfl,rfl⟩;refine aj [] (bR b1.n b1.a b1.m b1.b g2.n g2.a g2.m g2.b) ?_;rintro _ _ ⟨n6,a6,m6,b6,rfl,rfl⟩;refine aj [20] (J5 V.o ho) ?_;rintro _ _ ⟨rfl,rfl⟩;refine aj [] (nH ⟨n3,a3,m3,b3⟩ ⟨n5,a5,m5,b5⟩ ((pc V.o)) ((GW V.o)) (by omega) (by omega)) ?_;rintro _ _ ⟨a8,b8,rfl,rfl⟩;refine aj [] (nH ⟨n4,a4,m4,b4⟩ ⟨n6,a6,m6,b6⟩ ((ps V.o)) ((G6 V.o)) (by omega) (by omega)) ?_;rintro _ _ ⟨a9,b9,rfl,rfl⟩;refine aj [] (Bj a9 b9) ?_;rintro _ _ ⟨QT,zm,rfl,rfl⟩;refine aj [] (nU a8 b8 QT zm) ?_;rintro _ _ ⟨UJ,sS,rfl,rfl⟩;refine aj [] (nH ⟨n3,a3,m3,b3⟩ ⟨n5,a5,m5,b5⟩ ((ps V.o)) ((G6 V.o)) (by omega) (by omega)) ?_;rintro _ _ ⟨Yh,Tf,rfl,rfl⟩;refine aj [] (nH ⟨n4,a4,m4,b4⟩ ⟨n6,a6,m6,b6⟩ ((pc V.o)) ((GW V.o)) (by omega) (by omega)) ?_;rintro _ _ ⟨UK,CA,rfl,rfl⟩;refine aj [] (nU Yh Tf UK CA) ?_;rintro _ _ ⟨UL,UY,rfl,rfl⟩;refine aj [] (nU UJ sS x.a x.b) ?_
  rintro _ _ ⟨a15,b15,rfl,rfl⟩;refine aj [] (nU UL UY x.c x.d) ?_;rintro _ _ ⟨a16,b16,rfl,rfl⟩;exact W.r [] (.tuple #[vp a15 b15,vp a16 b16]) ⟨_,_,_,_,rfl,rfl⟩ (Tr (by omega) (by unfold On.u0 On.sg;rw[hb];rfl) (by unfold On.u1 On.sg;rw[hb];rfl) (by unfold On.v0 On.sg;rw[hb];rfl) (by unfold On.v1 On.sg;rw[hb];rfl))
 ·skip
  refine aj [14] (vT V.f V.o x.g x.a x.b x.c x.d (V:=V)) ?_;rintro _ _ ⟨Ht,rfl,rfl⟩;refine j2 [] 4 ?_;refine aj [20] (bR p.n p.a p.m p.b Ht.n Ht.a Ht.m Ht.b) ?_;rintro _ _ ⟨XJ,Xu,XG,L8,rfl,rfl⟩;refine aj [] (bR r.n r.a r.m r.b Ht.n Ht.a Ht.m Ht.b) ?_;rintro _ _ ⟨XK,Xv,XH,Q0,rfl,rfl⟩;refine aj [20] (bR q.n q.a q.m q.b Ht.n Ht.a Ht.m Ht.b) ?_;rintro _ _ ⟨n20,a20,m20,b20,rfl,rfl⟩;refine aj [] (bR s.n s.a s.m s.b Ht.n Ht.a Ht.m Ht.b) ?_;rintro _ _ ⟨XL,Xw,XI,Xx,rfl,rfl⟩;refine aj [20] (J5 V.o ho) ?_;rintro _ _ ⟨rfl,rfl⟩;refine aj [] (nH ⟨XJ,Xu,XG,L8⟩ ⟨n20,a20,m20,b20⟩ ((pc V.o)) ((GW V.o)) (by omega) (by omega)) ?_;rintro _ _ ⟨a23,b23,rfl,rfl⟩;refine aj [] (nH ⟨XK,Xv,XH,Q0⟩ ⟨XL,Xw,XI,Xx⟩ ((ps V.o)) ((G6 V.o)) (by omega) (by omega)) ?_;rintro _ _ ⟨a24,Ql,rfl,rfl⟩;refine aj [] (Bj a24 Ql) ?_;rintro _ _ ⟨a25,b25,rfl,rfl⟩;refine aj [] (nU a23 b23 a25 b25) ?_;rintro _ _ ⟨a26,MJ,rfl,rfl⟩;refine aj [] (nH ⟨XJ,Xu,XG,L8⟩ ⟨n20,a20,m20,b20⟩ ((ps V.o)) ((G6 V.o)) (by omega) (by omega)) ?_;rintro _ _ ⟨UM,UZ,rfl,rfl⟩;refine aj [] (nH ⟨XK,Xv,XH,Q0⟩ ⟨XL,Xw,XI,Xx⟩ ((pc V.o)) ((GW V.o)) (by omega) (by omega)) ?_;rintro _ _ ⟨UN,xN,rfl,rfl⟩;refine aj [] (nU UM UZ UN xN) ?_;rintro _ _ ⟨UO,U0,rfl,rfl⟩;refine aj [] (nU a26 MJ x.a x.b) ?_
  rintro _ _ ⟨a30,Tg,rfl,rfl⟩;refine aj [] (nU UO U0 x.c x.d) ?_;rintro _ _ ⟨a31,zx,rfl,rfl⟩;exact W.r [] (.tuple #[vp a30 Tg,vp a31 zx]) ⟨_,_,_,_,rfl,rfl⟩ (Tr (by omega) (by unfold On.u0 On.sg;rw[hb];rfl) (by unfold On.u1 On.sg;rw[hb];rfl) (by unfold On.v0 On.sg;rw[hb];rfl) (by unfold On.v1 On.sg;rw[hb];rfl))
theorem Z2(V:On)(x:Q5)(a b:Int) [aZ (OF x) (L,V) Γ](ho:0≤V.o∧V.o≤7)(ha: -9223372036854775808≤a∧a<9223372036854775808)(hb: -9223372036854775808≤b∧b<9223372036854775808)(hL:L≤10000:=by omega):
  au tb Tryz.prog 86 [Hx V x,.agg #[.int .i64 a,.int .i64 b]] Γ (vE (5*L+208) (r2 (V.u0 a 0 b 0) (V.u1 a 0 b 0)) (r2 (V.v0 a 0 b 0) (V.v1 a 0 b 0))):=by
 refine au.of_W aB Tryz.func86 rfl ?_;refine W.more rfl (kW (L':=0)) ?_;refine aj [] (kZ a (by omega) (by omega)) ?_;rintro _ _ ⟨n1,a1,m1,b1,rfl,rfl⟩;refine aj [] (kZ b (by omega) (by omega)) ?_;rintro _ _ ⟨n2,a2,m2,b2,rfl,rfl⟩;refine aj [] (Es V x ⟨n1,a1,m1,b1⟩ bV ⟨n2,a2,m2,b2⟩ bV ho) ?_;rintro _ _ ⟨a3,b3,c3,d3,rfl,rfl⟩;refine aj [] (OX) ?_;rintro _ _ ⟨u4,d4,rfl,rfl⟩;refine aj [] (lF u4 d4 ⟨none,0,0⟩ false a3 b3 (by omega) (by omega)) ?_;rintro _ _ ⟨X5,rfl,rfl⟩;refine aj [] (lF u4 d4 ⟨none,0,0⟩ false c3 d3 (by omega) (by omega)) ?_;rintro _ _ ⟨X6,rfl,rfl⟩;exact W.r [] (BB X5 X6) ⟨_,_,rfl,rfl⟩ (Js (by omega) rfl rfl)
theorem R4(f:Bool)(g:Qw)(o:Int)(a c:Qw){X Y Z:Rat}{L1 L2 L3:Nat} [aZ (QG g) (L1,X) Γ] [aZ (QG a) (L2,Y) Γ] [aZ (QG c) (L3,Z) Γ](ho:0≤o∧o≤7)(hX:0<X.num.sign)(hL:L1≤1000000:=by omega):
  au tb Tryz.prog 156 [.bool f,qv g.n g.a g.m g.b,.int .i64 o,qv a.n a.a a.m a.b,qv c.n c.a c.m c.b] Γ (fun v Δ=>v=.tuple #[Uj f o g a bV c bV,.int .i64 0]∧Δ=[OF ⟨g,a,bV,c,bV⟩ (max L1 (max L2 L3),⟨f,o,X,Y,0,Z,0⟩)]):=by
 refine au.of_W aB Tryz.func156 rfl ?_;refine W.more rfl (kW (L':=0)) ?_;refine aS [] 15 (decide (o<0)) (by rw[aY];omega) ?_;refine aS [15] 12 (decide (o>7)) (by rw[aY];omega) ?_;refine aj [12] (jg g.n g.a g.m g.b) ?_;rintro _ _ ⟨rfl,rfl⟩;refine aS [] 20 (decide (X.num.sign≤0)) (by rw[aY];omega) ?_;exact W.r [20] (.tuple #[Uj f o g a ⟨⟨none,0,0⟩,false,⟨none,0,0⟩,false⟩ c ⟨⟨none,0,0⟩,false,⟨none,0,0⟩,false⟩,.int .i64 0]) ⟨rfl,rfl⟩ (Vo rfl rfl rfl rfl rfl (by omega))
theorem R5(V U:On)(x y:Q5) [aZ (OF x) (L,V) Γ] [aZ (OF y) (M,U) Γ](ho:0≤V.o∧V.o≤7)(hu:0≤U.o∧U.o≤7)(hL:L≤10000∧M≤10000:=by omega):
  au tb Tryz.prog 159 [Hx V x,Hx U y] Γ (fun v Δ=>∃q:Q5,v=Hx (V.then U) q∧Δ=[OF q (5*M+4*L+300,V.then U)]):=by
 refine au.of_W aB Tryz.func159 rfl ?_;refine W.more (Δ:=[QG y.g (M,U.g)]) rfl (fun I w _ hh=>aV (aZ.p (k:=OF y) (a:=(M,U)) inferInstance hh).1) ?_;refine Cu x rfl ?_;refine aj [] (Es U y x.a x.b x.c x.d hu) ?_;rintro _ _ ⟨a1,b1,c1,d1,rfl,rfl⟩;refine W.d [] 20 (U.f) (fun hb=>?_) (fun hb=>?_)
 ·skip
  refine aj [20] (vT V.f V.o x.g x.a x.b x.c x.d (V:=V)) ?_;rintro _ _ ⟨g2,rfl,rfl⟩;refine aj [] (vT U.f U.o y.g y.a y.b y.c y.d (V:=U)) ?_;rintro _ _ ⟨g3,rfl,rfl⟩;refine aj [] (bR g2.n g2.a g2.m g2.b g3.n g3.a g3.m g3.b) ?_;rintro _ _ ⟨n4,a4,m4,b4,rfl,rfl⟩;exact W.r [] (Uj (!V.f==U.f) (bits BinOp.and .i64 (IntKind.i64.wrap (IntKind.i64.wrap (0-V.o)+U.o)) 7) ⟨n4,a4,m4,b4⟩ a1 b1 c1 d1) ⟨⟨⟨_,_,_,_⟩,_,_,_,_⟩,dz (fun z=>Uj (!(V.f==U.f)) z _ _ _ _ _) (by rw[Ys ho hu];unfold On.then;simp only;rw[hb,if_pos rfl]),rfl⟩ (Vo rfl rfl rfl rfl rfl (by omega))
 ·skip
  refine aj [20] (vT V.f V.o x.g x.a x.b x.c x.d (V:=V)) ?_;rintro _ _ ⟨g5,rfl,rfl⟩;refine aj [] (vT U.f U.o y.g y.a y.b y.c y.d (V:=U)) ?_;rintro _ _ ⟨g6,rfl,rfl⟩;refine aj [] (bR g5.n g5.a g5.m g5.b g6.n g6.a g6.m g6.b) ?_;rintro _ _ ⟨n7,a7,m7,b7,rfl,rfl⟩;exact W.r [] (Uj (!V.f==U.f) (bits BinOp.and .i64 (IntKind.i64.wrap (V.o+U.o)) 7) ⟨n7,a7,m7,b7⟩ a1 b1 c1 d1) ⟨⟨⟨_,_,_,_⟩,_,_,_,_⟩,dz (fun z=>Uj (!(V.f==U.f)) z _ _ _ _ _) (by rw[Yr ho hu];unfold On.then;simp only;rw[hb,if_neg (by simp)]),rfl⟩ (Vo rfl rfl rfl rfl rfl (by omega))
end
section
variable{fin:VS→List aE→Prop}{Γ:List aE}{L M K:Nat}
theorem jC(s:Sl)(b:Bool){x:Int} [aZ (ZF s b) (L,x) Γ](h:iy x=true)(hL:L≤1000000000000:=by omega):au tb Tryz.prog 136 [zv s b] Γ (jv (.tuple #[.int .i64 x,.bool true])):=by
 have g:=xr (Γ:=Γ) s b (x:=x);simpa only[h,eW]using g
end
section
variable{fin:VS→List aE→Prop}{Γ:List aE}{L M K:Nat}
end
section
variable{fin:VS→List aE→Prop}{Γ:List aE}{L M K:Nat}
end
end Go.Proofs.YtgaaopjagcaojaaGreat
