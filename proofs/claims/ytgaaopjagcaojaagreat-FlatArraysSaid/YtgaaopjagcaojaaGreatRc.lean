import Derived.Test.YtgaaopjagcaojaaGreatPr
import Derived.Test.YtgaaopjagcaojaaGreatVm
import Derived.DeepKeys
set_option linter.unusedSimpArgs false
set_option linter.unusedVariables false
set_option maxHeartbeats 4000000
namespace Go.Proofs.YtgaaopjagcaojaaGreat
open Go.RowKit Go.IntWalk
structure Qw where
 n:Sl
 a:Bool
 m:Sl
 b:Bool
structure Sw where
 u:Sl
 d:Bool
 v:Sl
 e:Bool
 p:Qw
 q:Qw
 r:Qw
 s:Qw
structure Sn where
 m:Int
 n:Int
 p:Rat
 q:Rat
 r:Rat
 s:Rat
abbrev QG(x:Qw):Nat×Rat→aE:=QF x.n x.a x.m x.b
abbrev sv(x:Sw):Value:=.agg #[.slice x.u.ao x.u.n x.u.c,.bool x.d,.slice x.v.ao x.v.n x.v.c,.bool x.e,
 .slice x.p.n.ao x.p.n.n x.p.n.c,.bool x.p.a,.slice x.p.m.ao x.p.m.n x.p.m.c,.bool x.p.b,.slice x.q.n.ao x.q.n.n x.q.n.c,.bool x.q.a,.slice x.q.m.ao x.q.m.n x.q.m.c,.bool x.q.b,
 .slice x.r.n.ao x.r.n.n x.r.n.c,.bool x.r.a,.slice x.r.m.ao x.r.m.n x.r.m.c,.bool x.r.b,.slice x.s.n.ao x.s.n.n x.s.n.c,.bool x.s.a,.slice x.s.m.ao x.s.m.n x.s.m.c,.bool x.s.b]
abbrev ptv(x:Sw):Value:=.agg #[
 .slice x.p.n.ao x.p.n.n x.p.n.c,.bool x.p.a,.slice x.p.m.ao x.p.m.n x.p.m.c,.bool x.p.b,.slice x.q.n.ao x.q.n.n x.q.n.c,.bool x.q.a,.slice x.q.m.ao x.q.m.n x.q.m.c,.bool x.q.b,
 .slice x.r.n.ao x.r.n.n x.r.n.c,.bool x.r.a,.slice x.r.m.ao x.r.m.n x.r.m.c,.bool x.r.b,.slice x.s.n.ao x.s.n.n x.s.n.c,.bool x.s.a,.slice x.s.m.ao x.s.m.n x.s.m.c,.bool x.s.b]
abbrev bV:Qw:=⟨⟨none,0,0⟩,false,⟨none,0,0⟩,false⟩
def Ci:Sw:=⟨⟨none,0,0⟩,false,⟨none,0,0⟩,false,bV,bV,bV,bV⟩
def SF(x:Sw)(a:Nat×Sn):aE where
 p I w:=(ZF x.u x.d (a.1,a.2.m)).p I w∧(ZF x.v x.e (a.1,a.2.n)).p I w∧(QG x.p (a.1,a.2.p)).p I w∧(QG x.q (a.1,a.2.q)).p I w∧(QG x.r (a.1,a.2.r)).p I w∧(QG x.s (a.1,a.2.s)).p I w
 up:=by
  rintro I I' w w' ⟨g1,g2,g3,g4,g5,g6⟩ h1 h2 h3;exact⟨(ZF x.u x.d _).up g1 h1 h2 h3,(ZF x.v x.e _).up g2 h1 h2 h3,(QG x.p _).up g3 h1 h2 h3,(QG x.q _).up g4 h1 h2 h3,(QG x.r _).up g5 h1 h2 h3,(QG x.s _).up g6 h1 h2 h3⟩
def Tz(L:Nat)(S:Sn)(v:Value)(Δ:List aE):Prop:=∃x:Sw,v=sv x∧Δ=[SF x (L,S)]
def Ye(L:Nat)(S:Sn)(v:Value)(Δ:List aE):Prop:=∃x:Sw,v=.tuple #[sv x,.int .i64 0]∧Δ=[SF x (L,S)]
structure Pw where
 n:Int
 a:Sl
 m:Int
 b:Sl
structure Tw where
 d:Int
 u:Sl
 e:Int
 v:Sl
 p:Pw
 q:Pw
 r:Pw
 s:Pw
abbrev tv(x:Tw):Value:=.agg #[.int .i64 x.d,.slice x.u.ao x.u.n x.u.c,.int .i64 x.e,.slice x.v.ao x.v.n x.v.c,
 .int .i64 x.p.n,.slice x.p.a.ao x.p.a.n x.p.a.c,.int .i64 x.p.m,.slice x.p.b.ao x.p.b.n x.p.b.c,.int .i64 x.q.n,.slice x.q.a.ao x.q.a.n x.q.a.c,.int .i64 x.q.m,.slice x.q.b.ao x.q.b.n x.q.b.c,
 .int .i64 x.r.n,.slice x.r.a.ao x.r.a.n x.r.a.c,.int .i64 x.r.m,.slice x.r.b.ao x.r.b.n x.r.b.c,.int .i64 x.s.n,.slice x.s.a.ao x.s.a.n x.s.a.c,.int .i64 x.s.m,.slice x.s.b.ao x.s.b.n x.s.b.c]
section
variable{fin:VS→List aE→Prop}{Γ:List aE}{L:Nat}
theorem ta{P:Program}{c:fJ}(x:Sw){S:Sn} [h:aY (SF x) (L,S) Γ](hm:dG c.k=false)
  (hk:W tb P fin c (ZF x.u x.d (L,S.m)::ZF x.v x.e (L,S.n)::QG x.p (L,S.p)::QG x.q (L,S.q)::QG x.r (L,S.r)::QG x.s (L,S.s)::Γ)):W tb P fin c Γ:=
 W.elim (α:=Unit) (fun _=>True) (fun _=>[ZF x.u x.d (L,S.m),ZF x.v x.e (L,S.n),QG x.p (L,S.p),QG x.q (L,S.q),QG x.r (L,S.r),QG x.s (L,S.s)]) hm (fun I w _ hh=>by
  obtain⟨g1,g2,g3,g4,g5,g6⟩:=h.p hh;exact⟨(),trivial,aG.cons g1 (aG.cons g2 (aG.cons g3 (aG.cons g4 (aG.cons g5 (aU g6)))))⟩) (fun _ _=>hk)
theorem QF.up2{n m:Sl}{a b:Bool}{L L':Nat}{q:Rat}{I:fZ}{w:World}(h:(QF n a m b (L,q)).p I w)(hL:L≤L'):(QF n a m b (L',q)).p I w:=by
 obtain⟨y,⟨⟨h1,h2,h3⟩,h4⟩,⟨⟨g1,g2,g3⟩,g4⟩,hy⟩:=h;exact⟨y,⟨⟨h1,h2,aP h3 hL⟩,h4⟩,⟨⟨g1,g2,aP g3 hL⟩,g4⟩,hy⟩
theorem ZF.up2{n:Sl}{a:Bool}{L L':Nat}{q:Int}{I:fZ}{w:World}(h:(ZF n a (L,q)).p I w)(hL:L≤L'):(ZF n a (L',q)).p I w:=by
 obtain⟨⟨h1,h2,h3⟩,h4⟩:=h;exact⟨⟨h1,h2,aP h3 hL⟩,h4⟩
theorem Lj{x:Sw}{L' L1 L2 L3 L4 L5 L6:Nat}{m n:Int}{p q r s:Rat}{S:Sn} [h1:aY (ZF x.u x.d) (L1,m) Γ] [h2:aY (ZF x.v x.e) (L2,n) Γ] [h3:aY (QG x.p) (L3,p) Γ] [h4:aY (QG x.q) (L4,q) Γ] [h5:aY (QG x.r) (L5,r) Γ] [h6:aY (QG x.s) (L6,s) Γ]
  (hm:m=S.m)(hn:n=S.n)(hp:p=S.p)(hq:q=S.q)(hr:r=S.r)(hs:s=S.s)(hL:L1≤L'∧L2≤L'∧L3≤L'∧L4≤L'∧L5≤L'∧L6≤L'):∀(I:fZ) (w:World),bB tb I w→aG Γ I w→aG [SF x (L',S)] I w:=fun I w _ hh=>by
 subst hm hn hp hq hr hs;obtain⟨l1,l2,l3,l4,l5,l6⟩:=hL;exact aU ⟨ZF.up2 (h1.p hh) l1,ZF.up2 (h2.p hh) l2,QF.up2 (h3.p hh) l3,QF.up2 (h4.p hh) l4,QF.up2 (h5.p hh) l5,QF.up2 (h6.p hh) l6⟩
theorem pT{x:Sw}{L':Nat}{S S':Sn} [h:aY (SF x) (L,S) Γ](hL:L≤L')(hS:S=S'):∀(I:fZ) (w:World),bB tb I w→aG Γ I w→aG [SF x (L',S')] I w:=fun I w _ hh=>by
 subst hS;obtain⟨g1,g2,g3,g4,g5,g6⟩:=h.p hh;exact aU ⟨ZF.up2 g1 hL,ZF.up2 g2 hL,QF.up2 g3 hL,QF.up2 g4 hL,QF.up2 g5 hL,QF.up2 g6 hL⟩
end
def Sn.neg(S:Sn):Sn:=⟨S.m,S.n,-S.p,-S.q,-S.r,-S.s⟩
def Sn.add(S T:Sn):Sn:=⟨S.m,S.n,S.p+T.p,S.q+T.q,S.r+T.r,S.s+T.s⟩
def Sn.sub(S T:Sn):Sn:=⟨S.m,S.n,S.p-T.p,S.q-T.q,S.r-T.r,S.s-T.s⟩
def Sn.mul(S T:Sn):Sn:=⟨S.m,S.n,
 S.p*T.p+S.m*(S.q*T.q)+S.n*(S.r*T.r)+S.m*S.n*(S.s*T.s),
 S.p*T.q+S.q*T.p+S.n*(S.r*T.s+S.s*T.r),
 S.p*T.r+S.r*T.p+S.m*(S.q*T.s+S.s*T.q),
 S.p*T.s+S.s*T.p+S.q*T.r+S.r*T.q⟩
def BQ(x y:Rat)(m:Int):Int:=
 let s:=x.num.sign
 let t:=if m.sign=0 then 0 else y.num.sign
 if t=0∨s=t then s else if s=0 then t else s*vM (x*x) (y*y*m)
def Sn.sg(S:Sn):Int:=
 let s:=BQ S.p S.q S.m
 let t:=if S.n.sign=0 then 0 else BQ S.r S.s S.m
 if t=0∨s=t then s else if s=0 then t else
  s*BQ (S.p*S.p+S.m*S.q*S.q-S.n*(S.r*S.r+S.m*S.s*S.s)) (2*(S.p*S.q-S.n*S.r*S.s)) S.m
theorem Sn.ext'{S T:Sn}(h1:S.m=T.m)(h2:S.n=T.n)(h3:S.p=T.p)(h4:S.q=T.q)(h5:S.r=T.r)(h6:S.s=T.s):S=T:=by
 cases S;cases T;simp_all
theorem Sn.mul_comm{S T:Sn}(hm:T.m=S.m)(hn:T.n=S.n):S.mul T=T.mul S:=by
 refine Sn.ext' hm.symm hn.symm ?_ ?_ ?_ ?_ <;>simp only[Sn.mul,hm,hn]<;>grind
theorem KU(S T:Sn):S.add T.neg=S.sub T:=by
 refine Sn.ext' rfl rfl ?_ ?_ ?_ ?_ <;>simp only[Sn.add,Sn.neg,Sn.sub]<;>grind
def kT(x:Rat)(root:Int)(k:Nat):Int:=
 let q:Int:=(vU (x.num.natAbs*x.num.natAbs*root.natAbs*2^(2*k)):Nat)/(x.den:Int)
 if x.num.sign<0 then-q else q
def Sn.lessq(S:Sn)(q:Int):Sn:=⟨S.m,S.n,S.p-q,S.q,S.r,S.s⟩
def Sn.low(S:Sn):Int:=(0+kT S.p 1 8+kT S.q S.m 8+kT S.r S.n 8+kT S.s (S.m*S.n) 8)/256
def Sn.up(S:Sn)(h:Rat):Sn:=⟨S.m,S.n,S.p+h,S.q,S.r,S.s⟩
def Sn.half(S:Sn):Sn:=S.up (Rat.divInt 1 2)
def Mr(z:Int):Prop:=z= -1∨z=0∨z=1
theorem UZ{a b:Int}(ha:Mr a)(hb:Mr b):IntKind.i64.wrap (a*b)=a*b:=by
 rcases ha with rfl|rfl|rfl<;>rcases hb with rfl|rfl|rfl<;>rfl
theorem Qo(z:Int):Mr z.sign:=by
 unfold Mr;rcases Int.lt_trichotomy z 0 with h|h|h
 ·exact .inl (jM h)
 ·subst h;exact .inr (.inl rfl)
 ·exact .inr (.inr (f_ h))
theorem T3(a b:Rat):Mr (vM a b):=by unfold Mr vM;grind
theorem S7{a b:Int}(ha:Mr a)(hb:Mr b):Mr (a*b):=by
 rcases ha with rfl|rfl|rfl<;>rcases hb with rfl|rfl|rfl<;>unfold Mr<;>decide
theorem UQ(x y:Rat)(m:Int):Mr (BQ x y m):=by
 unfold BQ;have h1:=Qo x.num;have h2:=Qo y.num;have h3:=S7 h1 (T3 (x*x) (y*y*m));have h0:Mr 0:=.inr (.inl rfl);simp only
 (repeat' split)<;>assumption
section
variable{fin:VS→List aE→Prop}{Γ:List aE}{L M K:Nat}
theorem Br(x:Sw):
  au tb Tryz.prog 147 [sv x] Γ (js (.tuple #[zv x.u x.d,zv x.v x.e])):=by
 refine au.of_W aB Tryz.func147 rfl ?_;exact W.r [] (.tuple #[zv x.u x.d,zv x.v x.e]) ⟨rfl,rfl⟩ bU
theorem xr(x:Sw):
  au tb Tryz.prog 213 [sv x] Γ (js (ptv x)):=by
 refine au.of_W aB Tryz.func213 rfl ?_;exact W.r [] (ptv x) ⟨rfl,rfl⟩ bU
theorem Km(x:Sw){S:Sn} [aY (SF x) (L,S) Γ](y:Sw){T:Sn} [aY (SF y) (M,T) Γ](hm:S.m=T.m)(hn:S.n=T.n)(hL:L≤100000:=by omega)(hM:M≤100000:=by omega):
  au tb Tryz.prog 214 [sv x,sv y] Γ (js (.bool true)):=by
 refine au.of_W aB Tryz.func214 rfl ?_;refine ta x rfl ?_;refine ta y rfl ?_;refine aj [] (pr x.u x.d y.u y.d) ?_;rintro _ _ ⟨rfl,rfl⟩;refine bD [] 13 ((ni S.m T.m)==0) (by rw[ly,D3];exact hm) ?_;refine aj [13] (pr x.v x.e y.v y.e) ?_;rintro _ _ ⟨rfl,rfl⟩;exact W.r [13] (.bool ((ni S.n T.n)==0)) ⟨by rw[D3.2 hn];rfl,rfl⟩ bU
theorem EF(x:Sw){S:Sn} [aY (SF x) (L,S) Γ](hL:L≤100000:=by omega):
  au tb Tryz.prog 151 [sv x] Γ (Tz L S.neg):=by
 refine au.of_W aB Tryz.func151 rfl ?_;refine ta x rfl ?_;refine j1 [] 6 ?_;refine aj [8] (pj x.p.n x.p.a x.p.m x.p.b) ?_;rintro _ _ ⟨n1,a1,m1,b1,rfl,rfl⟩;refine aj [8] (pj x.q.n x.q.a x.q.m x.q.b) ?_;rintro _ _ ⟨n2,a2,m2,b2,rfl,rfl⟩;refine aj [8] (pj x.r.n x.r.a x.r.m x.r.b) ?_;rintro _ _ ⟨n3,a3,m3,b3,rfl,rfl⟩;refine aj [8] (pj x.s.n x.s.a x.s.m x.s.b) ?_;rintro _ _ ⟨n4,a4,m4,b4,rfl,rfl⟩;exact W.r [8] (sv ⟨x.u,x.d,x.v,x.e,⟨n1,a1,m1,b1⟩,⟨n2,a2,m2,b2⟩,⟨n3,a3,m3,b3⟩,⟨n4,a4,m4,b4⟩⟩) ⟨_,rfl,rfl⟩ (Lj rfl rfl rfl rfl rfl rfl (by omega))
theorem pq(x:Sw){S:Sn} [aY (SF x) (L,S) Γ](y:Sw){T:Sn} [aY (SF y) (M,T) Γ](hm:S.m=T.m)(hn:S.n=T.n)(hL:L≤100000:=by omega)(hM:M≤100000:=by omega):
  au tb Tryz.prog 152 [sv x,sv y] Γ (Ye (L+M+5) (S.add T)):=by
 refine au.of_W aB Tryz.func152 rfl ?_;refine ta x rfl ?_;refine ta y rfl ?_;refine aj [] (Km x y hm hn) ?_;rintro _ _ ⟨rfl,rfl⟩;refine j1 [11] 6 ?_;refine aj [16] (fw x.p.n x.p.a x.p.m x.p.b y.p.n y.p.a y.p.m y.p.b) ?_;rintro _ _ ⟨n2,a2,m2,b2,rfl,rfl⟩;refine aj [16] (fw x.q.n x.q.a x.q.m x.q.b y.q.n y.q.a y.q.m y.q.b) ?_;rintro _ _ ⟨n3,a3,m3,b3,rfl,rfl⟩;refine aj [16] (fw x.r.n x.r.a x.r.m x.r.b y.r.n y.r.a y.r.m y.r.b) ?_;rintro _ _ ⟨n4,a4,m4,b4,rfl,rfl⟩;refine aj [16] (fw x.s.n x.s.a x.s.m x.s.b y.s.n y.s.a y.s.m y.s.b) ?_;rintro _ _ ⟨n5,a5,m5,b5,rfl,rfl⟩;exact W.r [16] (.tuple #[sv ⟨x.u,x.d,x.v,x.e,⟨n2,a2,m2,b2⟩,⟨n3,a3,m3,b3⟩,⟨n4,a4,m4,b4⟩,⟨n5,a5,m5,b5⟩⟩,.int .i64 0]) ⟨_,rfl,rfl⟩ (Lj rfl rfl rfl rfl rfl rfl (by omega))
theorem Xs(x:Sw){S:Sn} [aY (SF x) (L,S) Γ](y:Sw){T:Sn} [aY (SF y) (M,T) Γ](hm:S.m=T.m)(hn:S.n=T.n)(hL:L≤100000:=by omega)(hM:M≤100000:=by omega):
  au tb Tryz.prog 210 [sv x,sv y] Γ (Ye (L+M+5) (S.sub T)):=by
 refine au.of_W aB Tryz.func210 rfl ?_;refine aj [] (EF y) ?_;rintro _ _ ⟨X1,rfl,rfl⟩;refine aj [] (pq x X1 (by exact hm) (by exact hn)) ?_;rintro _ _ ⟨X2,rfl,rfl⟩;exact W.r [] (.tuple #[sv X2,.int .i64 0]) ⟨_,rfl,rfl⟩ (pT (by omega) (KU _ _))
theorem PK(x:Sw){S:Sn} [aY (SF x) (L,S) Γ](y:Sw){T:Sn} [aY (SF y) (M,T) Γ](hm:S.m=T.m)(hn:S.n=T.n)(hL:L≤100000:=by omega)(hM:M≤100000:=by omega):
  au tb Tryz.prog 150 [sv x,sv y] Γ (Ye (4*L+4*M+8*max L 2+200) (S.mul T)):=by
 refine au.of_W aB Tryz.func150 rfl ?_;refine ta x rfl ?_;refine ta y rfl ?_;refine W.more rfl (kX (L':=0)) ?_;refine aj [] (Km x y hm hn) ?_;rintro _ _ ⟨rfl,rfl⟩;refine aj [17] (cg x.u x.d) ?_;rintro _ _ ⟨n2,a2,m2,b2,rfl,rfl⟩;refine aj [] (cg x.v x.e) ?_;rintro _ _ ⟨n3,a3,m3,b3,rfl,rfl⟩;refine aj [] (cV 1 (by omega) (by omega)) ?_;rintro _ _ ⟨u4,d4,rfl,rfl⟩;refine aj [] (cg u4 d4) ?_;rintro _ _ ⟨n5,a5,m5,b5,rfl,rfl⟩;refine aj [] (bR n2 a2 m2 b2 n3 a3 m3 b3) ?_;rintro _ _ ⟨n6,a6,m6,b6,rfl,rfl⟩;refine j1 [] 6 ?_;refine j1 [38] 6 ?_;refine aj [44] (bR x.p.n x.p.a x.p.m x.p.b y.p.n y.p.a y.p.m y.p.b) ?_;rintro _ _ ⟨n7,a7,m7,b7,rfl,rfl⟩;refine aj [] (bR n7 a7 m7 b7 n5 a5 m5 b5) ?_;rintro _ _ ⟨n8,a8,m8,b8,rfl,rfl⟩;refine aj [] (fw ⟨none,0,0⟩ false ⟨none,0,0⟩ false n8 a8 m8 b8) ?_;rintro _ _ ⟨n9,a9,m9,b9,rfl,rfl⟩;refine aj [44] (bR x.p.n x.p.a x.p.m x.p.b y.q.n y.q.a y.q.m y.q.b) ?_;rintro _ _ ⟨n10,Rw,m10,zp,rfl,rfl⟩;refine aj [] (bR n10 Rw m10 zp n5 a5 m5 b5) ?_;rintro _ _ ⟨n11,Vk,m11,sX,rfl,rfl⟩;refine aj [] (fw ⟨none,0,0⟩ false ⟨none,0,0⟩ false n11 Vk m11 sX) ?_;rintro _ _ ⟨WL,YZ,m12,TQ,rfl,rfl⟩;refine aj [44] (bR x.p.n x.p.a x.p.m x.p.b y.r.n y.r.a y.r.m y.r.b) ?_;rintro _ _ ⟨n13,Vl,m13,CA,rfl,rfl⟩;refine aj [] (bR n13 Vl m13 CA n5 a5 m5 b5) ?_;rintro _ _ ⟨n14,Vm,m14,Vy,rfl,rfl⟩
 refine aj [] (fw ⟨none,0,0⟩ false ⟨none,0,0⟩ false n14 Vm m14 Vy) ?_;rintro _ _ ⟨n15,a15,m15,b15,rfl,rfl⟩;refine aj [44] (bR x.p.n x.p.a x.p.m x.p.b y.s.n y.s.a y.s.m y.s.b) ?_;rintro _ _ ⟨n16,a16,m16,b16,rfl,rfl⟩;refine aj [] (bR n16 a16 m16 b16 n5 a5 m5 b5) ?_;rintro _ _ ⟨n17,a17,m17,b17,rfl,rfl⟩;refine aj [] (fw ⟨none,0,0⟩ false ⟨none,0,0⟩ false n17 a17 m17 b17) ?_;rintro _ _ ⟨Yy,Yf,Yv,Ms,rfl,rfl⟩;refine j1 [38,44] 6 ?_;refine aj [44] (bR x.q.n x.q.a x.q.m x.q.b y.p.n y.p.a y.p.m y.p.b) ?_;rintro _ _ ⟨Yz,Yg,Yw,RE,rfl,rfl⟩;refine aj [] (bR Yz Yg Yw RE n5 a5 m5 b5) ?_;rintro _ _ ⟨n20,a20,m20,b20,rfl,rfl⟩;refine aj [] (fw WL YZ m12 TQ n20 a20 m20 b20) ?_;rintro _ _ ⟨YA,Yh,Yx,Yi,rfl,rfl⟩;refine aj [44] (bR x.q.n x.q.a x.q.m x.q.b y.q.n y.q.a y.q.m y.q.b) ?_;rintro _ _ ⟨n22,a22,m22,Mt,rfl,rfl⟩;refine aj [] (bR n22 a22 m22 Mt n2 a2 m2 b2) ?_;rintro _ _ ⟨n23,a23,m23,b23,rfl,rfl⟩;refine aj [] (fw n9 a9 m9 b9 n23 a23 m23 b23) ?_;rintro _ _ ⟨n24,a24,m24,QS,rfl,rfl⟩;refine aj [44] (bR x.q.n x.q.a x.q.m x.q.b y.r.n y.r.a y.r.m y.r.b) ?_;rintro _ _ ⟨n25,a25,m25,b25,rfl,rfl⟩;refine aj [] (bR n25 a25 m25 b25 n5 a5 m5 b5) ?_;rintro _ _ ⟨n26,a26,m26,M9,rfl,rfl⟩;refine aj [] (fw Yy Yf Yv Ms n26 a26 m26 M9) ?_;rintro _ _ ⟨n27,Vn,m27,Vz,rfl,rfl⟩;refine aj [44] (bR x.q.n x.q.a x.q.m x.q.b y.s.n y.s.a y.s.m y.s.b) ?_
 rintro _ _ ⟨n28,Vo,m28,xO,rfl,rfl⟩;refine aj [] (bR n28 Vo m28 xO n2 a2 m2 b2) ?_;rintro _ _ ⟨n29,Vp,m29,VA,rfl,rfl⟩;refine aj [] (fw n15 a15 m15 b15 n29 Vp m29 VA) ?_;rintro _ _ ⟨n30,a30,m30,TR,rfl,rfl⟩;refine j1 [38,44] 6 ?_;refine aj [44] (bR x.r.n x.r.a x.r.m x.r.b y.p.n y.p.a y.p.m y.p.b) ?_;rintro _ _ ⟨n31,a31,m31,zB,rfl,rfl⟩;refine aj [] (bR n31 a31 m31 zB n5 a5 m5 b5) ?_;rintro _ _ ⟨n32,a32,m32,b32,rfl,rfl⟩;refine aj [] (fw n30 a30 m30 TR n32 a32 m32 b32) ?_;rintro _ _ ⟨n33,a33,m33,DR,rfl,rfl⟩;refine aj [44] (bR x.r.n x.r.a x.r.m x.r.b y.q.n y.q.a y.q.m y.q.b) ?_;rintro _ _ ⟨n34,a34,m34,b34,rfl,rfl⟩;refine aj [] (bR n34 a34 m34 b34 n5 a5 m5 b5) ?_;rintro _ _ ⟨n35,a35,m35,b35,rfl,rfl⟩;refine aj [] (fw n27 Vn m27 Vz n35 a35 m35 b35) ?_;rintro _ _ ⟨n36,a36,m36,b36,rfl,rfl⟩;refine aj [44] (bR x.r.n x.r.a x.r.m x.r.b y.r.n y.r.a y.r.m y.r.b) ?_;rintro _ _ ⟨n37,a37,m37,b37,rfl,rfl⟩;refine aj [] (bR n37 a37 m37 b37 n3 a3 m3 b3) ?_;rintro _ _ ⟨n38,a38,m38,b38,rfl,rfl⟩;refine aj [] (fw n24 a24 m24 QS n38 a38 m38 b38) ?_;rintro _ _ ⟨n39,a39,m39,b39,rfl,rfl⟩;refine aj [44] (bR x.r.n x.r.a x.r.m x.r.b y.s.n y.s.a y.s.m y.s.b) ?_;rintro _ _ ⟨n40,a40,m40,b40,rfl,rfl⟩;refine aj [] (bR n40 a40 m40 b40 n3 a3 m3 b3) ?_;rintro _ _ ⟨n41,a41,m41,b41,rfl,rfl⟩;refine aj [] (fw YA Yh Yx Yi n41 a41 m41 b41) ?_
 rintro _ _ ⟨n42,a42,m42,b42,rfl,rfl⟩;refine j1 [38,44] 6 ?_;refine aj [44] (bR x.s.n x.s.a x.s.m x.s.b y.p.n y.p.a y.p.m y.p.b) ?_;rintro _ _ ⟨n43,a43,m43,b43,rfl,rfl⟩;refine aj [] (bR n43 a43 m43 b43 n5 a5 m5 b5) ?_;rintro _ _ ⟨n44,a44,m44,b44,rfl,rfl⟩;refine aj [] (fw n36 a36 m36 b36 n44 a44 m44 b44) ?_;rintro _ _ ⟨n45,a45,m45,b45,rfl,rfl⟩;refine aj [44] (bR x.s.n x.s.a x.s.m x.s.b y.q.n y.q.a y.q.m y.q.b) ?_;rintro _ _ ⟨n46,a46,m46,b46,rfl,rfl⟩;refine aj [] (bR n46 a46 m46 b46 n2 a2 m2 b2) ?_;rintro _ _ ⟨n47,a47,m47,b47,rfl,rfl⟩;refine aj [] (fw n33 a33 m33 DR n47 a47 m47 b47) ?_;rintro _ _ ⟨n48,a48,m48,b48,rfl,rfl⟩;refine aj [44] (bR x.s.n x.s.a x.s.m x.s.b y.r.n y.r.a y.r.m y.r.b) ?_;rintro _ _ ⟨n49,a49,m49,K0,rfl,rfl⟩;refine aj [] (bR n49 a49 m49 K0 n3 a3 m3 b3) ?_;rintro _ _ ⟨n50,a50,m50,b50,rfl,rfl⟩;refine aj [] (fw n42 a42 m42 b42 n50 a50 m50 b50) ?_;rintro _ _ ⟨n51,a51,m51,K5,rfl,rfl⟩;refine aj [44] (bR x.s.n x.s.a x.s.m x.s.b y.s.n y.s.a y.s.m y.s.b) ?_;rintro _ _ ⟨n52,a52,m52,b52,rfl,rfl⟩;refine aj [] (bR n52 a52 m52 b52 n6 a6 m6 b6) ?_;rintro _ _ ⟨n53,a53,m53,b53,rfl,rfl⟩;refine aj [] (fw n39 a39 m39 b39 n53 a53 m53 b53) ?_;rintro _ _ ⟨n54,a54,m54,b54,rfl,rfl⟩;exact W.r [38,44] (.tuple #[sv ⟨x.u,x.d,x.v,x.e,⟨n54,a54,m54,b54⟩,⟨n51,a51,m51,K5⟩,⟨n48,a48,m48,b48⟩,⟨n45,a45,m45,b45⟩⟩,.int .i64 0]) ⟨_,rfl,rfl⟩ (Lj rfl rfl (by simp only[Sn.mul];grind) (by simp only[Sn.mul];grind) (by simp only[Sn.mul];grind) (by simp only[Sn.mul];grind) (by omega))
theorem IV(n:Sl)(a:Bool)(m:Sl)(b:Bool)(k:Sl)(c:Bool)(l:Sl)(d:Bool)(u:Sl)(e:Bool){x y:Rat}{z:Int} [aY (QF n a m b) (L,x) Γ] [aY (QF k c l d) (M,y) Γ] [aY (ZF u e) (K,z) Γ](hL:L≤400000:=by omega)(hM:M≤290000:=by omega)(hK:K≤400000:=by omega):
  au tb Tryz.prog 270 [qv n a m b,qv k c l d,zv u e] Γ (js (.int .i64 (BQ x y z))):=by
 refine au.of_W aB Tryz.func270 rfl ?_;refine aj [] (je n a m b) ?_;rintro _ _ ⟨rfl,rfl⟩;refine aj [] (je k c l d) ?_;rintro _ _ ⟨rfl,rfl⟩;refine aj [] (mY u e) ?_;rintro _ _ ⟨rfl,rfl⟩;refine W.d [] 15 ((z).sign==0) (fun hb=>?_) (fun hb=>?_)
 ·skip
  exact W.r [16,19,15] (.int .i64 x.num.sign) ⟨dz _ (by unfold BQ;grind),rfl⟩ bU
 ·skip
  refine W.d [15] 19 (y.num.sign==0) (fun hb=>?_) (fun hb=>?_)
  ·skip
   exact W.r [16,19] (.int .i64 x.num.sign) ⟨dz _ (by unfold BQ;grind),rfl⟩ bU
  ·skip
   refine W.d [19] 16 (x.num.sign==y.num.sign) (fun hb=>?_) (fun hb=>?_)
   ·skip
    exact W.r [16] (.int .i64 x.num.sign) ⟨dz _ (by unfold BQ;grind),rfl⟩ bU
   ·skip
    refine W.d [16] 25 (x.num.sign==0) (fun hb=>?_) (fun hb=>?_)
    ·skip
     exact W.r [25] (.int .i64 y.num.sign) ⟨dz _ (by unfold BQ;grind),rfl⟩ bU
    ·skip
     refine aj [25] (bR n a m b n a m b) ?_;rintro _ _ ⟨n4,a4,m4,b4,rfl,rfl⟩;refine aj [] (bR k c l d k c l d) ?_;rintro _ _ ⟨n5,a5,m5,b5,rfl,rfl⟩;refine aj [] (cg u e) ?_;rintro _ _ ⟨n6,a6,m6,b6,rfl,rfl⟩;refine aj [] (bR n5 a5 m5 b5 n6 a6 m6 b6) ?_;rintro _ _ ⟨n7,a7,m7,b7,rfl,rfl⟩;refine aj [] (Xj n4 a4 m4 b4 n7 a7 m7 b7) ?_;rintro _ _ ⟨rfl,rfl⟩;exact W.r [] (.int .i64 (IntKind.i64.wrap (x.num.sign*(vM (x*x) ((y*y)*(z:Rat)))))) ⟨dz _ (by rw[UZ (Qo _) (T3 _ _)];unfold BQ;grind),rfl⟩ bU
theorem Ko(x:Sw){S:Sn} [aY (SF x) (L,S) Γ](hL:L≤10000:=by omega):
  au tb Tryz.prog 256 [sv x] Γ (js (.int .i64 S.sg)):=by
 refine au.of_W aB Tryz.func256 rfl ?_;refine ta x rfl ?_;refine W.revp 1 ((sv x).cells.toList) ?_;intro b0;refine cr [] 4 b0 0 aB ?_;refine wB [] 4 4 b0 4 none (some (.int .i64 ((2:Nat):Int))) 0 2 aB (.inr ⟨rfl,rfl⟩) (.inl rfl) (by decide) (by decide) (by decide) ?_;refine cr [] 4 b0 0 aB ?_;refine wB [] 4 4 b0 4 (some (.int .i64 ((2:Nat):Int))) none 2 4 aB (.inl rfl) (.inr ⟨rfl,rfl⟩) (by decide) (by decide) (by decide) ?_;refine cA [] 4 b0 4 2 4 .i64 0 0 rfl aB (by decide) ?_;refine ju [] b0 4 [.slice x.p.n.ao x.p.n.n x.p.n.c,.bool x.p.a,.slice x.p.m.ao x.p.m.n x.p.m.c,.bool x.p.b] aB rfl ?_;refine cA [] 4 b0 4 2 4 .i64 1 1 rfl aB (by decide) ?_;refine ju [] b0 8 [.slice x.q.n.ao x.q.n.n x.q.n.c,.bool x.q.a,.slice x.q.m.ao x.q.m.n x.q.m.c,.bool x.q.b] aB rfl ?_;refine cr [] 0 b0 0 aB ?_;refine cr [] 0 b0 0 aB ?_;refine ju [] b0 0 [.slice x.u.ao x.u.n x.u.c,.bool x.d] aB rfl ?_;refine cA [] 4 b0 12 2 2 .i64 0 0 rfl aB (by decide) ?_;refine ju [] b0 12 [.slice x.r.n.ao x.r.n.n x.r.n.c,.bool x.r.a,.slice x.r.m.ao x.r.m.n x.r.m.c,.bool x.r.b] aB rfl ?_;refine cA [] 4 b0 12 2 2 .i64 1 1 rfl aB (by decide) ?_;refine ju [] b0 16 [.slice x.s.n.ao x.s.n.n x.s.n.c,.bool x.s.a,.slice x.s.m.ao x.s.m.n x.s.m.c,.bool x.s.b] aB rfl ?_;refine cr [] 0 b0 0 aB ?_;refine cr [] 0 b0 0 aB ?_;refine ju [] b0 0 [.slice x.u.ao x.u.n x.u.c,.bool x.d] aB rfl ?_;refine aj [] (IV x.p.n x.p.a x.p.m x.p.b x.q.n x.q.a x.q.m x.q.b x.u x.d) ?_
 rintro _ _ ⟨rfl,rfl⟩;refine aj [] (IV x.r.n x.r.a x.r.m x.r.b x.s.n x.s.a x.s.m x.s.b x.u x.d) ?_;rintro _ _ ⟨rfl,rfl⟩;refine cr [] 0 b0 0 aB ?_;refine cr [] 2 b0 0 aB ?_;refine ju [] b0 2 [.slice x.v.ao x.v.n x.v.c,.bool x.e] aB rfl ?_;refine aj [] (mY x.v x.e) ?_;rintro _ _ ⟨rfl,rfl⟩;refine W.d [] 40 ((S.n).sign==0) (fun hb=>?_) (fun hb=>?_)
 ·skip
  exact W.r [41,44,40] (.int .i64 (BQ S.p S.q S.m)) ⟨dz _ (by unfold Sn.sg;grind),rfl⟩ bU
 ·skip
  refine W.d [40] 44 ((BQ S.r S.s S.m)==0) (fun hb=>?_) (fun hb=>?_)
  ·skip
   exact W.r [41,44] (.int .i64 (BQ S.p S.q S.m)) ⟨dz _ (by unfold Sn.sg;grind),rfl⟩ bU
  ·skip
   refine W.d [44] 41 ((BQ S.p S.q S.m)==(BQ S.r S.s S.m)) (fun hb=>?_) (fun hb=>?_)
   ·skip
    exact W.r [41] (.int .i64 (BQ S.p S.q S.m)) ⟨dz _ (by unfold Sn.sg;grind),rfl⟩ bU
   ·skip
    refine W.d [41] 50 ((BQ S.p S.q S.m)==0) (fun hb=>?_) (fun hb=>?_)
    ·skip
     exact W.r [50] (.int .i64 (BQ S.r S.s S.m)) ⟨dz _ (by unfold Sn.sg;grind),rfl⟩ bU
    ·skip
     refine cr [50] 0 b0 0 aB ?_;refine cr [] 0 b0 0 aB ?_;refine ju [] b0 0 [.slice x.u.ao x.u.n x.u.c,.bool x.d] aB rfl ?_;refine cr [] 0 b0 0 aB ?_;refine cr [] 2 b0 0 aB ?_;refine ju [] b0 2 [.slice x.v.ao x.v.n x.v.c,.bool x.e] aB rfl ?_;refine aj [] (cg x.u x.d) ?_;rintro _ _ ⟨n4,a4,m4,b4,rfl,rfl⟩;refine aj [] (cg x.v x.e) ?_;rintro _ _ ⟨n5,a5,m5,b5,rfl,rfl⟩;refine aj [] (cV 2 (by omega) (by omega)) ?_;rintro _ _ ⟨u6,d6,rfl,rfl⟩;refine aj [] (cg u6 d6) ?_;rintro _ _ ⟨n7,a7,m7,b7,rfl,rfl⟩;refine cA [] 4 b0 4 2 4 .i64 0 0 rfl aB (by decide) ?_;refine ju [] b0 4 [.slice x.p.n.ao x.p.n.n x.p.n.c,.bool x.p.a,.slice x.p.m.ao x.p.m.n x.p.m.c,.bool x.p.b] aB rfl ?_;refine cA [] 4 b0 4 2 4 .i64 0 0 rfl aB (by decide) ?_;refine ju [] b0 4 [.slice x.p.n.ao x.p.n.n x.p.n.c,.bool x.p.a,.slice x.p.m.ao x.p.m.n x.p.m.c,.bool x.p.b] aB rfl ?_;refine cA [] 4 b0 4 2 4 .i64 1 1 rfl aB (by decide) ?_;refine ju [] b0 8 [.slice x.q.n.ao x.q.n.n x.q.n.c,.bool x.q.a,.slice x.q.m.ao x.q.m.n x.q.m.c,.bool x.q.b] aB rfl ?_;refine cA [] 4 b0 4 2 4 .i64 1 1 rfl aB (by decide) ?_;refine ju [] b0 8 [.slice x.q.n.ao x.q.n.n x.q.n.c,.bool x.q.a,.slice x.q.m.ao x.q.m.n x.q.m.c,.bool x.q.b] aB rfl ?_;refine cA [] 4 b0 12 2 2 .i64 0 0 rfl aB (by decide) ?_;refine ju [] b0 12 [.slice x.r.n.ao x.r.n.n x.r.n.c,.bool x.r.a,.slice x.r.m.ao x.r.m.n x.r.m.c,.bool x.r.b] aB rfl ?_
     refine cA [] 4 b0 12 2 2 .i64 0 0 rfl aB (by decide) ?_;refine ju [] b0 12 [.slice x.r.n.ao x.r.n.n x.r.n.c,.bool x.r.a,.slice x.r.m.ao x.r.m.n x.r.m.c,.bool x.r.b] aB rfl ?_;refine cA [] 4 b0 12 2 2 .i64 1 1 rfl aB (by decide) ?_;refine ju [] b0 16 [.slice x.s.n.ao x.s.n.n x.s.n.c,.bool x.s.a,.slice x.s.m.ao x.s.m.n x.s.m.c,.bool x.s.b] aB rfl ?_;refine cA [] 4 b0 12 2 2 .i64 1 1 rfl aB (by decide) ?_;refine ju [] b0 16 [.slice x.s.n.ao x.s.n.n x.s.n.c,.bool x.s.a,.slice x.s.m.ao x.s.m.n x.s.m.c,.bool x.s.b] aB rfl ?_;refine aj [] (bR x.p.n x.p.a x.p.m x.p.b x.p.n x.p.a x.p.m x.p.b) ?_;rintro _ _ ⟨n8,a8,m8,b8,rfl,rfl⟩;refine aj [] (bR n4 a4 m4 b4 x.q.n x.q.a x.q.m x.q.b) ?_;rintro _ _ ⟨n9,a9,m9,b9,rfl,rfl⟩;refine aj [] (bR n9 a9 m9 b9 x.q.n x.q.a x.q.m x.q.b) ?_;rintro _ _ ⟨n10,Rw,m10,zp,rfl,rfl⟩;refine aj [] (fw n8 a8 m8 b8 n10 Rw m10 zp) ?_;rintro _ _ ⟨n11,Vk,m11,sX,rfl,rfl⟩;refine aj [] (bR x.r.n x.r.a x.r.m x.r.b x.r.n x.r.a x.r.m x.r.b) ?_;rintro _ _ ⟨WL,YZ,m12,TQ,rfl,rfl⟩;refine aj [] (bR n4 a4 m4 b4 x.s.n x.s.a x.s.m x.s.b) ?_;rintro _ _ ⟨n13,Vl,m13,CA,rfl,rfl⟩;refine aj [] (bR n13 Vl m13 CA x.s.n x.s.a x.s.m x.s.b) ?_;rintro _ _ ⟨n14,Vm,m14,Vy,rfl,rfl⟩;refine aj [] (fw WL YZ m12 TQ n14 Vm m14 Vy) ?_;rintro _ _ ⟨n15,a15,m15,b15,rfl,rfl⟩;refine aj [] (bR n5 a5 m5 b5 n15 a15 m15 b15) ?_;rintro _ _ ⟨n16,a16,m16,b16,rfl,rfl⟩
     refine aj [] (EA n11 Vk m11 sX n16 a16 m16 b16) ?_;rintro _ _ ⟨n17,a17,m17,b17,rfl,rfl⟩;refine cA [] 4 b0 4 2 4 .i64 0 0 rfl aB (by decide) ?_;refine ju [] b0 4 [.slice x.p.n.ao x.p.n.n x.p.n.c,.bool x.p.a,.slice x.p.m.ao x.p.m.n x.p.m.c,.bool x.p.b] aB rfl ?_;refine cA [] 4 b0 4 2 4 .i64 1 1 rfl aB (by decide) ?_;refine ju [] b0 8 [.slice x.q.n.ao x.q.n.n x.q.n.c,.bool x.q.a,.slice x.q.m.ao x.q.m.n x.q.m.c,.bool x.q.b] aB rfl ?_;refine cA [] 4 b0 12 2 2 .i64 0 0 rfl aB (by decide) ?_;refine ju [] b0 12 [.slice x.r.n.ao x.r.n.n x.r.n.c,.bool x.r.a,.slice x.r.m.ao x.r.m.n x.r.m.c,.bool x.r.b] aB rfl ?_;refine cA [] 4 b0 12 2 2 .i64 1 1 rfl aB (by decide) ?_;refine ju [] b0 16 [.slice x.s.n.ao x.s.n.n x.s.n.c,.bool x.s.a,.slice x.s.m.ao x.s.m.n x.s.m.c,.bool x.s.b] aB rfl ?_;refine aj [] (bR x.p.n x.p.a x.p.m x.p.b x.q.n x.q.a x.q.m x.q.b) ?_;rintro _ _ ⟨Yy,Yf,Yv,Ms,rfl,rfl⟩;refine aj [] (bR n5 a5 m5 b5 x.r.n x.r.a x.r.m x.r.b) ?_;rintro _ _ ⟨Yz,Yg,Yw,RE,rfl,rfl⟩;refine aj [] (bR Yz Yg Yw RE x.s.n x.s.a x.s.m x.s.b) ?_;rintro _ _ ⟨n20,a20,m20,b20,rfl,rfl⟩;refine aj [] (EA Yy Yf Yv Ms n20 a20 m20 b20) ?_;rintro _ _ ⟨YA,Yh,Yx,Yi,rfl,rfl⟩;refine aj [] (bR n7 a7 m7 b7 YA Yh Yx Yi) ?_;rintro _ _ ⟨n22,a22,m22,Mt,rfl,rfl⟩;refine cr [] 0 b0 0 aB ?_;refine cr [] 0 b0 0 aB ?_;refine ju [] b0 0 [.slice x.u.ao x.u.n x.u.c,.bool x.d] aB rfl ?_
     refine aj [] (IV n17 a17 m17 b17 n22 a22 m22 Mt x.u x.d) ?_;rintro _ _ ⟨rfl,rfl⟩;exact W.r [] (.int .i64 (IntKind.i64.wrap ((BQ S.p S.q S.m)*(BQ (((S.p*S.p)+(((S.m:Rat)*S.q)*S.q))-((S.n:Rat)*((S.r*S.r)+(((S.m:Rat)*S.s)*S.s)))) ((2:Rat)*((S.p*S.q)-(((S.n:Rat)*S.r)*S.s))) S.m)))) ⟨dz _ (by rw[UZ (UQ _ _ _) (UQ _ _ _)];unfold Sn.sg;grind),rfl⟩ bU
theorem uP(x:Sw){S:Sn} [aY (SF x) (L,S) Γ](u:Sl)(e:Bool){q:Int} [aY (ZF u e) (M,q) Γ](hL:L≤4000:=by omega)(hM:M≤4000:=by omega):
  au tb Tryz.prog 269 [sv x,zv u e] Γ (js (.bool (decide ((S.lessq q).sg<0)))):=by
 refine au.of_W aB Tryz.func269 rfl ?_;refine ta x rfl ?_;refine aj [] (cg u e) ?_;rintro _ _ ⟨n1,a1,m1,b1,rfl,rfl⟩;refine aj [] (EA x.p.n x.p.a x.p.m x.p.b n1 a1 m1 b1) ?_;rintro _ _ ⟨n2,a2,m2,b2,rfl,rfl⟩;refine gF [] (Lj (x:=⟨x.u,x.d,x.v,x.e,⟨n2,a2,m2,b2⟩,x.q,x.r,x.s⟩) (L':=L+max M 2+10) (S:=(S.lessq q)) rfl rfl rfl rfl rfl rfl (by omega)) (Ko ⟨x.u,x.d,x.v,x.e,⟨n2,a2,m2,b2⟩,x.q,x.r,x.s⟩) ?_;rintro _ _ ⟨rfl,rfl⟩;exact W.r [] (.bool (decide ((S.lessq q).sg<0))) ⟨rfl,rfl⟩ bU
theorem xq(n:Sl)(a:Bool)(m:Sl)(b:Bool)(u:Sl)(e:Bool)(k:Int)(hk:k=8){x:Rat}{r:Int} [aY (QF n a m b) (L,x) Γ] [hr:aY (ZF u e) (M,r) Γ](hL:L≤600:=by omega)(hM:M≤700:=by omega):
  au tb Tryz.prog 268 [qv n a m b,zv u e,.int .i64 k] Γ (oS (2*L+M+10) (kT x r 8)):=by
 subst hk;refine au.of_W aB Tryz.func268 rfl ?_;refine aj [] (PC n a m b) ?_;rintro _ _ ⟨u1,d1,rfl,rfl⟩;refine aj [] (Bt u1 d1) ?_;rintro _ _ ⟨rfl,rfl⟩;refine aj [] (PC n a m b) ?_;rintro _ _ ⟨u3,d3,rfl,rfl⟩;refine aj [] (Bt u3 d3) ?_;rintro _ _ ⟨rfl,rfl⟩;refine aj [] (Pt u1 u3) ?_;rintro _ _ ⟨u5,rfl,rfl⟩;refine aj [] (Bt u e) ?_;rintro _ _ ⟨rfl,rfl⟩;refine aj [] (Pt u5 u) ?_;rintro _ _ ⟨u7,rfl,rfl⟩;refine aj [] (aaK u7 16 (by omega)) ?_;rintro _ _ ⟨u8,rfl,rfl⟩;refine aj [] (Xn u8) ?_;rintro _ _ ⟨u9,t9,rfl,rfl⟩;refine aj [] (vY u9) ?_;rintro _ _ ⟨BW,d10,rfl,rfl⟩;refine aj [] (jy n a m b) ?_;rintro _ _ ⟨u11,d11,rfl,rfl⟩;refine aj [] (jf BW d10 u11 d11 (by have:=gK x;omega)) ?_;rintro _ _ ⟨u12,d12,v12,e12,rfl,rfl⟩;refine aj [] (je n a m b) ?_;rintro _ _ ⟨rfl,rfl⟩;refine W.d [] 46 (decide (x.num.sign<0)) (fun hb=>?_) (fun hb=>?_)
 ·refine aj [46] (rY u12 d12) ?_;rintro _ _ ⟨u14,d14,rfl,rfl⟩;exact W.r [] (zv u14 d14) ⟨_,_,rfl,rfl⟩ (kY (by omega) (by unfold kT;simp only;rw[if_pos (kt hb)]))
 ·exact W.r [46] (zv u12 d12) ⟨_,_,rfl,rfl⟩ (kY (by omega) (by unfold kT;simp only;rw[if_neg (eL hb)]))
end
def Kr(l:List QE)(i:Nat):Qw:=match l[i]? with
 |some e=>⟨e.n,e.nb,e.d,e.db⟩
 |none=>bV
def YC(l:List QE)(i:Nat):Rat:=match l[i]? with
 |some e=>e.q
 |none=>0
theorem xz{l:List QE}{L L':Nat}{I:fZ}{w:World}(hd:bB tb I w)(h:∀e∈l,(QR.fact L e).p I w)(hL:L≤L')(i:Nat):(QG (Kr l i) (L',YC l i)).p I w:=by
 unfold Kr YC;cases hi:l[i]? with
 |none=>exact(kX (Γ:=[]) (L':=L') I w hd (aG.nil _ _)).h0'
 |some e=>
  have:=h e (aO hi);exact QF.up2 this hL
section
variable{fin:VS→List aE→Prop}{Γ:List aE}{L M K:Nat}
theorem PL(u:Sl)(d:Bool)(v:Sl)(e:Bool)(ao:Option Addr)(n c:Nat){l:List QE}{p q:Int} [hu:aY (ZF u d) (L,p) Γ] [hv:aY (ZF v e) (M,q) Γ] [h:aY (OL QR ao) (K,l) Γ](hn:n=l.length)(hl:n≤4)(hp:0≤p)(hq:0≤q)
  (hL:L≤100000:=by omega)(hM:M≤100000:=by omega):
  au tb Tryz.prog 148 [zv u d,zv v e,.slice ao n c] Γ (Ye (max (max L M) K) ⟨p,q,YC l 0,YC l 1,YC l 2,YC l 3⟩):=by
 subst hn;refine au.of_W aB Tryz.func148 rfl ?_;refine W.more (Δ:=[RA ao (l.flatMap QR.cells)]) rfl (fun I w _ hh=>aU (h.p hh).2) ?_;refine qz (l.flatMap QR.cells≠ []→∃b off,ao=some ⟨b,off,none⟩) rfl (fun I w _ hh hne=>by
  obtain⟨b,off,ha,_⟩:=(h.p (fun F hF=>hh F (by simp[hF]))).2 hne;exact⟨b,off,ha⟩) (fun hao=>?_)
 refine aj [] (mY u d) ?_;rintro _ _ ⟨rfl,rfl⟩;refine aS [] 12 (decide ((p).sign<0)) (by rw[aX,Int.sign_neg_iff];omega) ?_;refine aj [12] (mY v e) ?_;rintro _ _ ⟨rfl,rfl⟩;refine aS [12] 17 (decide ((q).sign<0)) (by rw[aX,Int.sign_neg_iff];omega) ?_;refine aS [17] 21 (decide (((l.length:Nat):Int)>4)) (by rw[aX];omega) ?_;refine vl 8 (fun b=>?_);refine cr [] 4 b 0 aB ?_;refine wB [] 4 4 b 4 none none 0 4 aB (.inr ⟨rfl,rfl⟩) (.inr ⟨rfl,rfl⟩) (by decide) (by decide) (by decide) ?_;have Ix:∀z∈l.flatMap QR.cells,z.oneCell'=true:=by
  intro z hz;obtain⟨e,_,hz⟩:=List.mem_flatMap.1 hz;simp[QR]at hz;rcases hz with rfl|rfl|rfl|rfl<;>rfl
 have hlen:=qg QR l;have hz:QR.z=4:=rfl;refine YU [] [(b,(sv ⟨u,d,v,e,bV,bV,bV,bV⟩).cells.toList)] [] [] 4 b 4 4 4 l.length (sv ⟨u,d,v,e,bV,bV,bV,bV⟩).cells.toList (.slice ao l.length c) (l.flatMap QR.cells) aB rfl
  (Hg ao _ l.length 4 c hlen (fun h0=>hao (by intro e;have h2:=dz List.length e;rw[hlen,hz]at h2;simp only[bE]at h2;omega))) Ix hl (by rw[hlen,hz];show _≤20;omega) ?_
 have key:∀(X:Sw),X=⟨u,d,v,e,Kr l 0,Kr l 1,Kr l 2,Kr l 3⟩→((((sv ⟨u,d,v,e,bV,bV,bV,bV⟩).cells.toList.take 4++l.flatMap QR.cells++(sv ⟨u,d,v,e,bV,bV,bV,bV⟩).cells.toList.drop (4+(l.flatMap QR.cells).length)).drop 0).take 20=(sv X).cells.toList):=by
  rintro X rfl;rcases l with _|⟨e0,_|⟨e1,_|⟨e2,_|⟨e3,_|⟨e4,l⟩⟩⟩⟩⟩
  ·rfl
  ·rfl
  ·rfl
  ·rfl
  ·rfl
  ·simp at hl
 refine wz [] ([]++(b,(sv ⟨u,d,v,e,bV,bV,bV,bV⟩).cells.toList.take 4++l.flatMap QR.cells++(sv ⟨u,d,v,e,bV,bV,bV,bV⟩).cells.toList.drop (4+(l.flatMap QR.cells).length))::[]) b 0 20 _ (sv ⟨u,d,v,e,Kr l 0,Kr l 1,Kr l 2,Kr l 3⟩).cells.toList aB (by simp) (key _ rfl) rfl ?_;exact W.r [] (.tuple #[sv ⟨u,d,v,e,Kr l 0,Kr l 1,Kr l 2,Kr l 3⟩,.int .i64 0]) ⟨_,rfl,rfl⟩ (fun I w hd hh=>by
  have f1:=aY.p (k:=ZF u d) (a:=(L,p)) inferInstance hh;have f2:=aY.p (k:=ZF v e) (a:=(M,q)) inferInstance hh;have f3:=(aY.p (k:=OL QR ao) (a:=(K,l)) inferInstance hh).1;exact aU ⟨ZF.up2 f1 (by omega),ZF.up2 f2 (by omega),xz hd f3 (by omega) 0,xz hd f3 (by omega) 1,xz hd f3 (by omega) 2,xz hd f3 (by omega) 3⟩)
end
section
variable{fin:VS→List aE→Prop}{Γ:List aE}{L M K:Nat}
theorem au.entH{f:FuncId}{args:List Value}{Γ:List aE}{post post':Value→List aE→Prop}(h:au tb Tryz.prog f args Γ post)(hp:∀v Δ,post v Δ→∃Δ',post' v Δ'∧∀I w,aG Δ I w→aG Δ' I w):au tb Tryz.prog f args Γ post':=
 ⟨h.1,fun I w hd hh=>(h.2 I w hd hh).mono fun _ _ ⟨v,Δ,h1,h2,h3,h4⟩=>by
  obtain⟨Δ',g1,g2⟩:=hp v Δ h2;exact⟨v,Δ',h1,g1,h3,g2 _ _ h4⟩⟩
end
open Go.RowKit
def P7(e:Ev):Option (TypeId×Value×Value):=
 match e with
 | .read o c=>match o.op with
  | .binOp .eql t x y _=>match c.s.ev x,c.s.ev y with
   | .val a,.val b=>some (t,a,b)
   |_,_=>none
  |_=>none
 |_=>none
section
variable{T:Tb}{P:Program}{fin:VS→List aE→Prop}{c:fJ}{Γ:List aE}
theorem W.rem(D:List Nat)(a b r:Int)(hb:b≠0)(hr:a.tmod b=r)
  (hk:W T P fin (gp (aJ T (a_ T D 999 c)) (.int .i64 r)) Γ)(h:mZ (aJ T (a_ T D 999 c))=some (.rem,.int .i64 a,.int .i64 b):=by kernel_rfl):W T P fin c Γ:=by
 subst hr;refine eF D 999 ?_;generalize a_ T D 999 c=c1 at*;unfold mZ at h;split at h
 ·rename_i o c' he;rw[he]at hk;split at h
  ·rename_i op ty u v yt hop;split at h
   ·rename_i x y hx hy;simp only[aq,aI]at h;obtain⟨rfl,rfl,rfl⟩:=h;refine W.read _ he (.any ?_) hk;intro w;simp[execOp,hop,cE hx,cE hy,eqGuard,binOp,Op.intDiv,hb]
   ·simp at h
  ·simp at h
 ·simp at h
end
structure Ow where
 f:Bool
 o:Int
 g:Qw
 a:Qw
 b:Qw
 c:Qw
 d:Qw
structure On where
 f:Bool
 o:Int
 g:Rat
 a:Rat
 b:Rat
 c:Rat
 d:Rat
structure Q5 where
 g:Qw
 a:Qw
 b:Qw
 c:Qw
 d:Qw
abbrev vt(a b:Qw):Value:=.agg #[.slice a.n.ao a.n.n a.n.c,.bool a.a,.slice a.m.ao a.m.n a.m.c,.bool a.b,.slice b.n.ao b.n.n b.n.c,.bool b.a,.slice b.m.ao b.m.n b.m.c,.bool b.b]
abbrev UT(f:Bool)(o:Int)(g a b c d:Qw):Value:=.agg #[.bool f,.int .i64 o,.slice g.n.ao g.n.n g.n.c,.bool g.a,.slice g.m.ao g.m.n g.m.c,.bool g.b,.slice a.n.ao a.n.n a.n.c,.bool a.a,.slice a.m.ao a.m.n a.m.c,.bool a.b,
 .slice b.n.ao b.n.n b.n.c,.bool b.a,.slice b.m.ao b.m.n b.m.c,.bool b.b,.slice c.n.ao c.n.n c.n.c,.bool c.a,.slice c.m.ao c.m.n c.m.c,.bool c.b,.slice d.n.ao d.n.n d.n.c,.bool d.a,.slice d.m.ao d.m.n d.m.c,.bool d.b]
abbrev BD(x y:Sw):Value:=.agg ((sv x).cells++(sv y).cells)
abbrev HJ(V:On)(x:Q5):Value:=UT V.f V.o x.g x.a x.b x.c x.d
def OF(x:Q5)(a:Nat×On):aE where
 p I w:=(QG x.g (a.1,a.2.g)).p I w∧(QG x.a (a.1,a.2.a)).p I w∧(QG x.b (a.1,a.2.b)).p I w∧(QG x.c (a.1,a.2.c)).p I w∧(QG x.d (a.1,a.2.d)).p I w
 up:=by
  rintro I I' w w' ⟨g2,g3,g4,g5,g6⟩ h1 h2 h3;exact⟨(QG x.g _).up g2 h1 h2 h3,(QG x.a _).up g3 h1 h2 h3,(QG x.b _).up g4 h1 h2 h3,(QG x.c _).up g5 h1 h2 h3,(QG x.d _).up g6 h1 h2 h3⟩
section
variable{fin:VS→List aE→Prop}{Γ:List aE}{L:Nat}
theorem Cu{P:Program}{c:fJ}(x:Q5){V:On} [h:aY (OF x) (L,V) Γ](hm:dG c.k=false)
  (hk:W tb P fin c (QG x.g (L,V.g)::QG x.a (L,V.a)::QG x.b (L,V.b)::QG x.c (L,V.c)::QG x.d (L,V.d)::Γ)):W tb P fin c Γ:=
 W.more (Δ:=[QG x.g (L,V.g),QG x.a (L,V.a),QG x.b (L,V.b),QG x.c (L,V.c),QG x.d (L,V.d)]) hm (fun I w _ hh=>by
  obtain⟨g2,g3,g4,g5,g6⟩:=h.p hh;exact aG.cons g2 (aG.cons g3 (aG.cons g4 (aG.cons g5 (aU g6))))) hk
theorem V5{x:Q5}{L' L1 L2 L3 L4 L5:Nat}{V:On}{g a b c d:Rat} [h1:aY (QG x.g) (L1,g) Γ] [h2:aY (QG x.a) (L2,a) Γ] [h3:aY (QG x.b) (L3,b) Γ] [h4:aY (QG x.c) (L4,c) Γ] [h5:aY (QG x.d) (L5,d) Γ]
  (e1:g=V.g)(e2:a=V.a)(e3:b=V.b)(e4:c=V.c)(e5:d=V.d)(hL:L1≤L'∧L2≤L'∧L3≤L'∧L4≤L'∧L5≤L'):∀(I:fZ) (w:World),bB tb I w→aG Γ I w→aG [OF x (L',V)] I w:=fun I w _ hh=>by
 subst e1 e2 e3 e4 e5;obtain⟨l1,l2,l3,l4,l5⟩:=hL;exact aU ⟨QF.up2 (h1.p hh) l1,QF.up2 (h2.p hh) l2,QF.up2 (h3.p hh) l3,QF.up2 (h4.p hh) l4,QF.up2 (h5.p hh) l5⟩
end
def tm1(x y:Rat)(c d:Int):Rat:=x*c+y*d
def tm2(x y:Rat)(c d:Int):Rat:=y*c+x*Rat.divInt d 2
def pc(o:Int):Int:=if o=0 then 1 else if o=4 then-1 else 0
def ps(o:Int):Int:=if o=2 then 1 else if o=6 then-1 else 0
def G6(o:Int):Int:=if o=1∨o=7 then 1 else if o=3∨o=5 then-1 else 0
def Hd(o:Int):Int:=if o=1∨o=3 then 1 else if o=5∨o=7 then-1 else 0
def On.mag(V:On):Rat:=if V.g.num.sign=0 then 1 else V.g
def On.sg(V:On)(z:Rat):Rat:=if V.f then-z else z
def On.u0(V:On)(x y z w:Rat):Rat:=tm1 (x*V.mag) (y*V.mag) (pc V.o) (G6 V.o)+ -(tm1 (V.sg z*V.mag) (V.sg w*V.mag) (ps V.o) (Hd V.o))+V.a
def On.u1(V:On)(x y z w:Rat):Rat:=tm2 (x*V.mag) (y*V.mag) (pc V.o) (G6 V.o)+ -(tm2 (V.sg z*V.mag) (V.sg w*V.mag) (ps V.o) (Hd V.o))+V.b
def On.v0(V:On)(x y z w:Rat):Rat:=tm1 (x*V.mag) (y*V.mag) (ps V.o) (Hd V.o)+tm1 (V.sg z*V.mag) (V.sg w*V.mag) (pc V.o) (G6 V.o)+V.c
def On.v1(V:On)(x y z w:Rat):Rat:=tm2 (x*V.mag) (y*V.mag) (ps V.o) (Hd V.o)+tm2 (V.sg z*V.mag) (V.sg w*V.mag) (pc V.o) (G6 V.o)+V.d
def r2(x y:Rat):Sn:=⟨2,0,x,y,0,0⟩
def DK(L:Nat)(x y:Rat)(v:Value)(Δ:List aE):Prop:=∃a b:Qw,v=vt a b∧Δ=[QG a (L,x),QG b (L,y)]
def vH(L:Nat)(X Y:Sn)(v:Value)(Δ:List aE):Prop:=∃x y:Sw,v=BD x y∧Δ=[SF x (L,X),SF y (L,Y)]
def On.then(V U:On):On:=⟨!(V.f==U.f),if U.f then(-V.o+U.o) % 8 else(V.o+U.o) % 8,V.mag*U.mag,U.u0 V.a V.b V.c V.d,U.u1 V.a V.b V.c V.d,U.v0 V.a V.b V.c V.d,U.v1 V.a V.b V.c V.d⟩
theorem VC:∀n m:_root_.Fin 8,bits BinOp.and .i64 (IntKind.i64.wrap ((n:Int)+m)) 7=((n:Int)+m) % 8:=by decide+kernel
theorem VD:∀n m:_root_.Fin 8,bits BinOp.and .i64 (IntKind.i64.wrap (IntKind.i64.wrap (0-(n:Int))+m)) 7=(-(n:Int)+m) % 8:=by decide+kernel
theorem RP{o:Int}(h:0≤o∧o≤7):∃n:_root_.Fin 8,o=(n:Int):=⟨⟨o.toNat,by omega⟩,by simp only;omega⟩
theorem Ze{o u:Int}(h:0≤o∧o≤7)(h':0≤u∧u≤7):bits BinOp.and .i64 (IntKind.i64.wrap (o+u)) 7=(o+u) % 8:=by
 obtain⟨n,rfl⟩:=RP h;obtain⟨m,rfl⟩:=RP h';exact VC n m
theorem Zf{o u:Int}(h:0≤o∧o≤7)(h':0≤u∧u≤7):bits BinOp.and .i64 (IntKind.i64.wrap (IntKind.i64.wrap (0-o)+u)) 7=(-o+u) % 8:=by
 obtain⟨n,rfl⟩:=RP h;obtain⟨m,rfl⟩:=RP h';exact VD n m
theorem KT(V U:On):0≤(V.then U).o∧(V.then U).o≤7:=by
 unfold On.then
 simp only;split<;>omega
theorem Xv(o:Int): -1≤pc o∧pc o≤1:=by unfold pc;(repeat' split)<;>omega
theorem Xw(o:Int): -1≤ps o∧ps o≤1:=by unfold ps;(repeat' split)<;>omega
theorem PQ(o:Int): -1≤G6 o∧G6 o≤1:=by unfold G6;(repeat' split)<;>omega
theorem PU(o:Int): -1≤Hd o∧Hd o≤1:=by unfold Hd;(repeat' split)<;>omega
section
variable{fin:VS→List aE→Prop}{Γ:List aE}{L M K:Nat}
theorem acr{a:Qw}{L':Nat}{q q':Rat} [h:aY (QG a) (L,q) Γ](hL:L≤L')(hq:q=q'):∀(I:fZ) (w:World),bB tb I w→aG Γ I w→aG [QG a (L',q')] I w:=fun I w _ hh=>by
 subst hq;exact aU (QF.up2 (h.p hh) hL)
theorem AH{a b:Qw}{L1 L2 L':Nat}{q q' r r':Rat} [h:aY (QG a) (L1,q) Γ] [h':aY (QG b) (L2,r) Γ](hL:L1≤L'∧L2≤L')(hq:q=q')(hr:r=r'):∀(I:fZ) (w:World),bB tb I w→aG Γ I w→aG [QG a (L',q'),QG b (L',r')] I w:=fun I w _ hh=>by
 subst hq hr;exact aG.cons (QF.up2 (h.p hh) hL.1) (aU (QF.up2 (h'.p hh) hL.2))
theorem adV{z:Int}(h:(z==0)=true):z=0:=eq_of_beq h
theorem Kh(o:Int)(h:0≤o∧o≤7):au tb Tryz.prog 206 [.int .i64 o] Γ (js (.agg #[.int .i64 (pc o),.int .i64 (ps o),.int .i64 (G6 o),.int .i64 (Hd o)])):=by
 obtain rfl|rfl|rfl|rfl|rfl|rfl|rfl|rfl:o=0∨o=1∨o=2∨o=3∨o=4∨o=5∨o=6∨o=7:=by omega
 ·exact au.of_W aB Tryz.func206 rfl (W.r [] (.agg #[.int .i64 1,.int .i64 0,.int .i64 0,.int .i64 0]) ⟨rfl,rfl⟩ bU)
 ·exact au.of_W aB Tryz.func206 rfl (W.r [] (.agg #[.int .i64 0,.int .i64 0,.int .i64 1,.int .i64 1]) ⟨rfl,rfl⟩ bU)
 ·exact au.of_W aB Tryz.func206 rfl (W.r [] (.agg #[.int .i64 0,.int .i64 1,.int .i64 0,.int .i64 0]) ⟨rfl,rfl⟩ bU)
 ·exact au.of_W aB Tryz.func206 rfl (W.r [] (.agg #[.int .i64 0,.int .i64 0,.int .i64 (-1),.int .i64 1]) ⟨rfl,rfl⟩ bU)
 ·exact au.of_W aB Tryz.func206 rfl (W.r [] (.agg #[.int .i64 (-1),.int .i64 0,.int .i64 0,.int .i64 0]) ⟨rfl,rfl⟩ bU)
 ·exact au.of_W aB Tryz.func206 rfl (W.r [] (.agg #[.int .i64 0,.int .i64 0,.int .i64 (-1),.int .i64 (-1)]) ⟨rfl,rfl⟩ bU)
 ·exact au.of_W aB Tryz.func206 rfl (W.r [] (.agg #[.int .i64 0,.int .i64 (-1),.int .i64 0,.int .i64 0]) ⟨rfl,rfl⟩ bU)
 ·exact au.of_W aB Tryz.func206 rfl (W.r [] (.agg #[.int .i64 0,.int .i64 0,.int .i64 1,.int .i64 (-1)]) ⟨rfl,rfl⟩ bU)
theorem lF(u:Sl)(d:Bool)(v:Sl)(e:Bool)(a b:Qw){m n:Int}{x y:Rat}{L1 L2:Nat} [h1:aY (ZF u d) (L,m) Γ] [h2:aY (ZF v e) (M,n) Γ] [ha:aY (QG a) (L1,x) Γ] [hb:aY (QG b) (L2,y) Γ](hm:0≤m)(hn:0≤n)
  (hL:L≤100000:=by omega)(hM:M≤100000:=by omega):
  au tb Tryz.prog 143 [zv u d,zv v e,vt a b] Γ (Tz (max (max L M) (max L1 L2)) ⟨m,n,x,y,0,0⟩):=by
 refine au.of_W aB Tryz.func143 rfl ?_;refine cI [] 2 ([(⟨a.n,a.a,a.m,a.b,x⟩:QE),⟨b.n,b.a,b.m,b.b,y⟩].flatMap QR.cells) aB (fun B=>?_);refine aj [] ((PL (Γ:=OL QR (some ⟨B,0,none⟩) (max L1 L2,[(⟨a.n,a.a,a.m,a.b,x⟩:QE),⟨b.n,b.a,b.m,b.b,y⟩])::_) u d v e (some ⟨B,0,none⟩) 2 2 rfl (by omega) hm hn).weak (fun I w hd hh=>aG.cons ⟨fun q hq=>?_,?_⟩ hh) (fun _ _ h=>h)) ?_
 ·simp at hq;rcases hq with rfl|rfl
  ·exact QF.up2 (aY.p (k:=QG a) (a:=(L1,x)) inferInstance hh) (by omega)
  ·exact QF.up2 (aY.p (k:=QG b) (a:=(L2,y)) inferInstance hh) (by omega)
 ·exact RA.of_row (aY.p (k:=dY B) (a:=[(⟨a.n,a.a,a.m,a.b,x⟩:QE),⟨b.n,b.a,b.m,b.b,y⟩].flatMap QR.cells) inferInstance hh) (fun _ _ h=>h)
 rintro _ _ ⟨X,rfl,rfl⟩;exact W.r [] (sv X) ⟨X,rfl,rfl⟩ (pT (by omega) rfl)
theorem k7(n:Int)(h1: -9223372036854775808≤n)(h2:n<9223372036854775808):
  au tb Tryz.prog 141 [.int .i64 n] Γ (s9 2 (n:Rat)):=by
 refine au.of_W aB Tryz.func141 rfl ?_;refine aj [] (cV n (by omega) (by omega)) ?_;rintro _ _ ⟨u1,d1,rfl,rfl⟩;refine aj [] (cg u1 d1) ?_;rintro _ _ ⟨n2,a2,m2,b2,rfl,rfl⟩;exact W.r [] (qv n2 a2 m2 b2) ⟨_,_,_,_,rfl,rfl⟩ (j9 (by omega) rfl)
theorem Py:
  au tb Tryz.prog 142 [] Γ (fun v Δ=>∃(u:Sl) (d:Bool),v=.tuple #[zv u d,zv ⟨none,0,0⟩ false]∧Δ=[ZF u d (2,2),ZF ⟨none,0,0⟩ false (2,0)]):=by
 refine au.of_W aB Tryz.func142 rfl ?_;refine aj [] (cV 2 (by omega) (by omega)) ?_;rintro _ _ ⟨u1,d1,rfl,rfl⟩;exact W.r [] (.tuple #[zv u1 d1,zv ⟨none,0,0⟩ false]) ⟨_,_,rfl,rfl⟩ (lU (Δ:=[_]) (Δ':=[_]) (kY (by omega) rfl) zM)
theorem nC(a b:Qw)(c d:Int){x y:Rat} [aY (QG a) (L,x) Γ] [aY (QG b) (M,y) Γ](hc: -9223372036854775808≤c∧c<9223372036854775808)(hd: -9223372036854775808≤d∧d<9223372036854775808)(hL:L≤400000:=by omega)(hM:M≤400000:=by omega):
  au tb Tryz.prog 208 [vt a b,.int .i64 c,.int .i64 d] Γ (DK (L+M+30) (tm1 x y c d) (tm2 x y c d)):=by
 refine au.of_W aB Tryz.func208 rfl ?_;refine aj [] (Bo d 2 (by omega) (by omega) (by omega) (by omega) (by omega)) ?_;rintro _ _ ⟨n1,a1,m1,b1,rfl,rfl⟩;refine aj [] (k7 c (by omega) (by omega)) ?_;rintro _ _ ⟨n2,a2,m2,b2,rfl,rfl⟩;refine aj [] (bR a.n a.a a.m a.b n2 a2 m2 b2) ?_;rintro _ _ ⟨n3,a3,m3,b3,rfl,rfl⟩;refine aj [] (k7 d (by omega) (by omega)) ?_;rintro _ _ ⟨n4,a4,m4,b4,rfl,rfl⟩;refine aj [] (bR b.n b.a b.m b.b n4 a4 m4 b4) ?_;rintro _ _ ⟨n5,a5,m5,b5,rfl,rfl⟩;refine aj [] (fw n3 a3 m3 b3 n5 a5 m5 b5) ?_;rintro _ _ ⟨n6,a6,m6,b6,rfl,rfl⟩;refine aj [] (k7 c (by omega) (by omega)) ?_;rintro _ _ ⟨n7,a7,m7,b7,rfl,rfl⟩;refine aj [] (bR b.n b.a b.m b.b n7 a7 m7 b7) ?_;rintro _ _ ⟨n8,a8,m8,b8,rfl,rfl⟩;refine aj [] (bR a.n a.a a.m a.b n1 a1 m1 b1) ?_;rintro _ _ ⟨n9,a9,m9,b9,rfl,rfl⟩;refine aj [] (fw n8 a8 m8 b8 n9 a9 m9 b9) ?_;rintro _ _ ⟨n10,Rw,m10,zp,rfl,rfl⟩;exact W.r [] (vt ⟨n6,a6,m6,b6⟩ ⟨n10,Rw,m10,zp⟩) ⟨⟨_,_,_,_⟩,⟨_,_,_,_⟩,rfl,rfl⟩ (AH (by omega) rfl rfl)
theorem nQ(a b c d:Qw){x y z w:Rat}{L1 L2 L3 L4:Nat} [aY (QG a) (L1,x) Γ] [aY (QG b) (L2,y) Γ] [aY (QG c) (L3,z) Γ] [aY (QG d) (L4,w) Γ](hL:L1≤1000000∧L2≤1000000∧L3≤1000000∧L4≤1000000:=by omega):
  au tb Tryz.prog 207 [vt a b,vt c d] Γ (DK (max L1 L2+max L3 L4+5) (x+z) (y+w)):=by
 refine au.of_W aB Tryz.func207 rfl ?_;refine aj [] (fw a.n a.a a.m a.b c.n c.a c.m c.b) ?_;rintro _ _ ⟨n1,a1,m1,b1,rfl,rfl⟩;refine aj [] (fw b.n b.a b.m b.b d.n d.a d.m d.b) ?_;rintro _ _ ⟨n2,a2,m2,b2,rfl,rfl⟩;exact W.r [] (vt ⟨n1,a1,m1,b1⟩ ⟨n2,a2,m2,b2⟩) ⟨⟨_,_,_,_⟩,⟨_,_,_,_⟩,rfl,rfl⟩ (AH (by omega) rfl rfl)
theorem Bl(a b:Qw){x y:Rat}{L1 L2:Nat} [aY (QG a) (L1,x) Γ] [aY (QG b) (L2,y) Γ](hL:L1≤1000000∧L2≤1000000:=by omega):
  au tb Tryz.prog 205 [vt a b] Γ (DK (max L1 L2) (-x) (-y)):=by
 refine au.of_W aB Tryz.func205 rfl ?_;refine aj [] (pj a.n a.a a.m a.b) ?_;rintro _ _ ⟨n1,a1,m1,b1,rfl,rfl⟩;refine aj [] (pj b.n b.a b.m b.b) ?_;rintro _ _ ⟨n2,a2,m2,b2,rfl,rfl⟩;exact W.r [] (vt ⟨n1,a1,m1,b1⟩ ⟨n2,a2,m2,b2⟩) ⟨⟨_,_,_,_⟩,⟨_,_,_,_⟩,rfl,rfl⟩ (AH (by omega) rfl rfl)
theorem T5{a b c d:Qw}{L1 L2 L3 L4 L':Nat}{p p' q q' r r' s s':Rat} [h1:aY (QG a) (L1,p) Γ] [h2:aY (QG b) (L2,q) Γ] [h3:aY (QG c) (L3,r) Γ] [h4:aY (QG d) (L4,s) Γ](hL:L1≤L'∧L2≤L'∧L3≤L'∧L4≤L')(e1:p=p')(e2:q=q')(e3:r=r')(e4:s=s'):
  ∀(I:fZ) (w:World),bB tb I w→aG Γ I w→aG [QG a (L',p'),QG b (L',q'),QG c (L',r'),QG d (L',s')] I w:=fun I w _ hh=>by
 subst e1 e2 e3 e4;exact aG.cons (QF.up2 (h1.p hh) hL.1) (aG.cons (QF.up2 (h2.p hh) hL.2.1) (aG.cons (QF.up2 (h3.p hh) hL.2.2.1) (aU (QF.up2 (h4.p hh) hL.2.2.2))))
theorem JC{x y:Sw}{L1 L2 L':Nat}{X X' Y Y':Sn} [h1:aY (SF x) (L1,X) Γ] [h2:aY (SF y) (L2,Y) Γ](hL:L1≤L'∧L2≤L')(e1:X=X')(e2:Y=Y'):∀(I:fZ) (w:World),bB tb I w→aG Γ I w→aG [SF x (L',X'),SF y (L',Y')] I w:=fun I w hd hh=>by
 exact aG.cons ((pT (Γ:=Γ) (x:=x) hL.1 e1) I w hd hh).h0' (pT (Γ:=Γ) (x:=y) hL.2 e2 I w hd hh)
theorem vX(f:Bool)(o:Int)(g a b c d:Qw){V:On} [aY (QG g) (L,V.g) Γ](hL:L≤1000000:=by omega):
  au tb Tryz.prog 149 [UT f o g a b c d] Γ (fun v Δ=>∃g:Qw,v=qv g.n g.a g.m g.b∧Δ=[QG g (max L 2,V.mag)]):=by
 refine au.of_W aB Tryz.func149 rfl ?_;refine aj [] (je g.n g.a g.m g.b) ?_;rintro _ _ ⟨rfl,rfl⟩;refine W.d [] 6 (V.g.num.sign==0) (fun hb=>?_) (fun hb=>?_)
 ·skip
  refine aj [6] (k7 1 (by omega) (by omega)) ?_;rintro _ _ ⟨n2,a2,m2,b2,rfl,rfl⟩;exact W.r [] (qv n2 a2 m2 b2) ⟨⟨_,_,_,_⟩,rfl,rfl⟩ (j9 (by omega) (by unfold On.mag;rw[if_pos (adV hb)];rfl))
 ·skip
  exact W.r [6] (qv g.n g.a g.m g.b) ⟨g,rfl,rfl⟩ (acr (by omega) (by unfold On.mag;rw[if_neg (kn hb)]))
theorem Ey(V:On)(x:Q5)(p q r s:Qw){X Y Z U:Rat}{L1 L2 L3 L4:Nat} [aY (OF x) (L,V) Γ] [aY (QG p) (L1,X) Γ] [aY (QG q) (L2,Y) Γ] [aY (QG r) (L3,Z) Γ] [aY (QG s) (L4,U) Γ](ho:0≤V.o∧V.o≤7)(hL:L≤10000∧L1≤10000∧L2≤10000∧L3≤10000∧L4≤10000:=by omega):
  au tb Tryz.prog 140 [HJ V x,vt p q,vt r s] Γ (fun v Δ=>∃a b c d:Qw,v=.tuple #[vt a b,vt c d]∧Δ=[QG a (5*L+4*max (max L1 L2) (max L3 L4)+200,V.u0 X Y Z U),QG b (5*L+4*max (max L1 L2) (max L3 L4)+200,V.u1 X Y Z U),QG c (5*L+4*max (max L1 L2) (max L3 L4)+200,V.v0 X Y Z U),QG d (5*L+4*max (max L1 L2) (max L3 L4)+200,V.v1 X Y Z U)]):=by
 refine au.of_W aB Tryz.func140 rfl ?_;have b1:=Xv V.o;have b2:=Xw V.o;have b3:=PQ V.o;have b4:=PU V.o;refine Cu x rfl ?_;refine W.d [] 14 (V.f) (fun hb=>?_) (fun hb=>?_)
 ·skip
  refine aj [14] (Bl r s) ?_;rintro _ _ ⟨a1,b1,rfl,rfl⟩;refine aj [] (vX V.f V.o x.g x.a x.b x.c x.d (V:=V)) ?_;rintro _ _ ⟨g2,rfl,rfl⟩;refine j1 [] 4 ?_;refine aj [20] (bR p.n p.a p.m p.b g2.n g2.a g2.m g2.b) ?_;rintro _ _ ⟨n3,a3,m3,b3,rfl,rfl⟩;refine aj [] (bR a1.n a1.a a1.m a1.b g2.n g2.a g2.m g2.b) ?_;rintro _ _ ⟨n4,a4,m4,b4,rfl,rfl⟩;refine aj [20] (bR q.n q.a q.m q.b g2.n g2.a g2.m g2.b) ?_;rintro _ _ ⟨n5,a5,m5,b5,rfl,rfl⟩;refine aj [] (bR b1.n b1.a b1.m b1.b g2.n g2.a g2.m g2.b) ?_;rintro _ _ ⟨n6,a6,m6,b6,rfl,rfl⟩;refine aj [20] (Kh V.o ho) ?_;rintro _ _ ⟨rfl,rfl⟩;refine aj [] (nC ⟨n3,a3,m3,b3⟩ ⟨n5,a5,m5,b5⟩ ((pc V.o)) ((G6 V.o)) (by omega) (by omega)) ?_;rintro _ _ ⟨a8,b8,rfl,rfl⟩;refine aj [] (nC ⟨n4,a4,m4,b4⟩ ⟨n6,a6,m6,b6⟩ ((ps V.o)) ((Hd V.o)) (by omega) (by omega)) ?_;rintro _ _ ⟨a9,b9,rfl,rfl⟩;refine aj [] (Bl a9 b9) ?_;rintro _ _ ⟨Rw,zp,rfl,rfl⟩;refine aj [] (nQ a8 b8 Rw zp) ?_;rintro _ _ ⟨Vk,sX,rfl,rfl⟩;refine aj [] (nC ⟨n3,a3,m3,b3⟩ ⟨n5,a5,m5,b5⟩ ((ps V.o)) ((Hd V.o)) (by omega) (by omega)) ?_;rintro _ _ ⟨YZ,TQ,rfl,rfl⟩;refine aj [] (nC ⟨n4,a4,m4,b4⟩ ⟨n6,a6,m6,b6⟩ ((pc V.o)) ((G6 V.o)) (by omega) (by omega)) ?_;rintro _ _ ⟨Vl,CA,rfl,rfl⟩;refine aj [] (nQ YZ TQ Vl CA) ?_;rintro _ _ ⟨Vm,Vy,rfl,rfl⟩;refine aj [] (nQ Vk sX x.a x.b) ?_
  rintro _ _ ⟨a15,b15,rfl,rfl⟩;refine aj [] (nQ Vm Vy x.c x.d) ?_;rintro _ _ ⟨a16,b16,rfl,rfl⟩;exact W.r [] (.tuple #[vt a15 b15,vt a16 b16]) ⟨_,_,_,_,rfl,rfl⟩ (T5 (by omega) (by unfold On.u0 On.sg;rw[hb];rfl) (by unfold On.u1 On.sg;rw[hb];rfl) (by unfold On.v0 On.sg;rw[hb];rfl) (by unfold On.v1 On.sg;rw[hb];rfl))
 ·skip
  refine aj [14] (vX V.f V.o x.g x.a x.b x.c x.d (V:=V)) ?_;rintro _ _ ⟨HB,rfl,rfl⟩;refine j1 [] 4 ?_;refine aj [20] (bR p.n p.a p.m p.b HB.n HB.a HB.m HB.b) ?_;rintro _ _ ⟨Yy,Yf,Yv,Ms,rfl,rfl⟩;refine aj [] (bR r.n r.a r.m r.b HB.n HB.a HB.m HB.b) ?_;rintro _ _ ⟨Yz,Yg,Yw,RE,rfl,rfl⟩;refine aj [20] (bR q.n q.a q.m q.b HB.n HB.a HB.m HB.b) ?_;rintro _ _ ⟨n20,a20,m20,b20,rfl,rfl⟩;refine aj [] (bR s.n s.a s.m s.b HB.n HB.a HB.m HB.b) ?_;rintro _ _ ⟨YA,Yh,Yx,Yi,rfl,rfl⟩;refine aj [20] (Kh V.o ho) ?_;rintro _ _ ⟨rfl,rfl⟩;refine aj [] (nC ⟨Yy,Yf,Yv,Ms⟩ ⟨n20,a20,m20,b20⟩ ((pc V.o)) ((G6 V.o)) (by omega) (by omega)) ?_;rintro _ _ ⟨a23,b23,rfl,rfl⟩;refine aj [] (nC ⟨Yz,Yg,Yw,RE⟩ ⟨YA,Yh,Yx,Yi⟩ ((ps V.o)) ((Hd V.o)) (by omega) (by omega)) ?_;rintro _ _ ⟨a24,QS,rfl,rfl⟩;refine aj [] (Bl a24 QS) ?_;rintro _ _ ⟨a25,b25,rfl,rfl⟩;refine aj [] (nQ a23 b23 a25 b25) ?_;rintro _ _ ⟨a26,M9,rfl,rfl⟩;refine aj [] (nC ⟨Yy,Yf,Yv,Ms⟩ ⟨n20,a20,m20,b20⟩ ((ps V.o)) ((Hd V.o)) (by omega) (by omega)) ?_;rintro _ _ ⟨Vn,Vz,rfl,rfl⟩;refine aj [] (nC ⟨Yz,Yg,Yw,RE⟩ ⟨YA,Yh,Yx,Yi⟩ ((pc V.o)) ((G6 V.o)) (by omega) (by omega)) ?_;rintro _ _ ⟨Vo,xO,rfl,rfl⟩;refine aj [] (nQ Vn Vz Vo xO) ?_;rintro _ _ ⟨Vp,VA,rfl,rfl⟩;refine aj [] (nQ a26 M9 x.a x.b) ?_
  rintro _ _ ⟨a30,TR,rfl,rfl⟩;refine aj [] (nQ Vp VA x.c x.d) ?_;rintro _ _ ⟨a31,zB,rfl,rfl⟩;exact W.r [] (.tuple #[vt a30 TR,vt a31 zB]) ⟨_,_,_,_,rfl,rfl⟩ (T5 (by omega) (by unfold On.u0 On.sg;rw[hb];rfl) (by unfold On.u1 On.sg;rw[hb];rfl) (by unfold On.v0 On.sg;rw[hb];rfl) (by unfold On.v1 On.sg;rw[hb];rfl))
theorem aaJ(V:On)(x:Q5)(a b:Int) [aY (OF x) (L,V) Γ](ho:0≤V.o∧V.o≤7)(ha: -9223372036854775808≤a∧a<9223372036854775808)(hb: -9223372036854775808≤b∧b<9223372036854775808)(hL:L≤10000:=by omega):
  au tb Tryz.prog 86 [HJ V x,.agg #[.int .i64 a,.int .i64 b]] Γ (vH (5*L+208) (r2 (V.u0 a 0 b 0) (V.u1 a 0 b 0)) (r2 (V.v0 a 0 b 0) (V.v1 a 0 b 0))):=by
 refine au.of_W aB Tryz.func86 rfl ?_;refine W.more rfl (kX (L':=0)) ?_;refine aj [] (k7 a (by omega) (by omega)) ?_;rintro _ _ ⟨n1,a1,m1,b1,rfl,rfl⟩;refine aj [] (k7 b (by omega) (by omega)) ?_;rintro _ _ ⟨n2,a2,m2,b2,rfl,rfl⟩;refine aj [] (Ey V x ⟨n1,a1,m1,b1⟩ bV ⟨n2,a2,m2,b2⟩ bV ho) ?_;rintro _ _ ⟨a3,b3,c3,d3,rfl,rfl⟩;refine aj [] (Py) ?_;rintro _ _ ⟨u4,d4,rfl,rfl⟩;refine aj [] (lF u4 d4 ⟨none,0,0⟩ false a3 b3 (by omega) (by omega)) ?_;rintro _ _ ⟨X5,rfl,rfl⟩;refine aj [] (lF u4 d4 ⟨none,0,0⟩ false c3 d3 (by omega) (by omega)) ?_;rintro _ _ ⟨X6,rfl,rfl⟩;exact W.r [] (BD X5 X6) ⟨_,_,rfl,rfl⟩ (JC (by omega) rfl rfl)
theorem SG(f:Bool)(g:Qw)(o:Int)(a c:Qw){X Y Z:Rat}{L1 L2 L3:Nat} [aY (QG g) (L1,X) Γ] [aY (QG a) (L2,Y) Γ] [aY (QG c) (L3,Z) Γ](ho:0≤o∧o≤7)(hX:0<X.num.sign)(hL:L1≤1000000:=by omega):
  au tb Tryz.prog 156 [.bool f,qv g.n g.a g.m g.b,.int .i64 o,qv a.n a.a a.m a.b,qv c.n c.a c.m c.b] Γ (fun v Δ=>v=.tuple #[UT f o g a bV c bV,.int .i64 0]∧Δ=[OF ⟨g,a,bV,c,bV⟩ (max L1 (max L2 L3),⟨f,o,X,Y,0,Z,0⟩)]):=by
 refine au.of_W aB Tryz.func156 rfl ?_;refine W.more rfl (kX (L':=0)) ?_;refine aS [] 15 (decide (o<0)) (by rw[aX];omega) ?_;refine aS [15] 12 (decide (o>7)) (by rw[aX];omega) ?_;refine aj [12] (je g.n g.a g.m g.b) ?_;rintro _ _ ⟨rfl,rfl⟩;refine aS [] 20 (decide (X.num.sign≤0)) (by rw[aX];omega) ?_;exact W.r [20] (.tuple #[UT f o g a ⟨⟨none,0,0⟩,false,⟨none,0,0⟩,false⟩ c ⟨⟨none,0,0⟩,false,⟨none,0,0⟩,false⟩,.int .i64 0]) ⟨rfl,rfl⟩ (V5 rfl rfl rfl rfl rfl (by omega))
theorem SH(V U:On)(x y:Q5) [aY (OF x) (L,V) Γ] [aY (OF y) (M,U) Γ](ho:0≤V.o∧V.o≤7)(hu:0≤U.o∧U.o≤7)(hL:L≤10000∧M≤10000:=by omega):
  au tb Tryz.prog 159 [HJ V x,HJ U y] Γ (fun v Δ=>∃q:Q5,v=HJ (V.then U) q∧Δ=[OF q (5*M+4*L+300,V.then U)]):=by
 refine au.of_W aB Tryz.func159 rfl ?_;refine W.more (Δ:=[QG y.g (M,U.g)]) rfl (fun I w _ hh=>aU (aY.p (k:=OF y) (a:=(M,U)) inferInstance hh).1) ?_;refine Cu x rfl ?_;refine aj [] (Ey U y x.a x.b x.c x.d hu) ?_;rintro _ _ ⟨a1,b1,c1,d1,rfl,rfl⟩;refine W.d [] 20 (U.f) (fun hb=>?_) (fun hb=>?_)
 ·skip
  refine aj [20] (vX V.f V.o x.g x.a x.b x.c x.d (V:=V)) ?_;rintro _ _ ⟨g2,rfl,rfl⟩;refine aj [] (vX U.f U.o y.g y.a y.b y.c y.d (V:=U)) ?_;rintro _ _ ⟨g3,rfl,rfl⟩;refine aj [] (bR g2.n g2.a g2.m g2.b g3.n g3.a g3.m g3.b) ?_;rintro _ _ ⟨n4,a4,m4,b4,rfl,rfl⟩;exact W.r [] (UT (!V.f==U.f) (bits BinOp.and .i64 (IntKind.i64.wrap (IntKind.i64.wrap (0-V.o)+U.o)) 7) ⟨n4,a4,m4,b4⟩ a1 b1 c1 d1) ⟨⟨⟨_,_,_,_⟩,_,_,_,_⟩,dz (fun z=>UT (!(V.f==U.f)) z _ _ _ _ _) (by rw[Zf ho hu];unfold On.then;simp only;rw[hb,if_pos rfl]),rfl⟩ (V5 rfl rfl rfl rfl rfl (by omega))
 ·skip
  refine aj [20] (vX V.f V.o x.g x.a x.b x.c x.d (V:=V)) ?_;rintro _ _ ⟨g5,rfl,rfl⟩;refine aj [] (vX U.f U.o y.g y.a y.b y.c y.d (V:=U)) ?_;rintro _ _ ⟨g6,rfl,rfl⟩;refine aj [] (bR g5.n g5.a g5.m g5.b g6.n g6.a g6.m g6.b) ?_;rintro _ _ ⟨n7,a7,m7,b7,rfl,rfl⟩;exact W.r [] (UT (!V.f==U.f) (bits BinOp.and .i64 (IntKind.i64.wrap (V.o+U.o)) 7) ⟨n7,a7,m7,b7⟩ a1 b1 c1 d1) ⟨⟨⟨_,_,_,_⟩,_,_,_,_⟩,dz (fun z=>UT (!(V.f==U.f)) z _ _ _ _ _) (by rw[Ze ho hu];unfold On.then;simp only;rw[hb,if_neg (by simp)]),rfl⟩ (V5 rfl rfl rfl rfl rfl (by omega))
end
section
variable{fin:VS→List aE→Prop}{Γ:List aE}{L M K:Nat}
theorem jz(s:Sl)(b:Bool){x:Int} [aY (ZF s b) (L,x) Γ](h:iw x=true)(hL:L≤1000000000000:=by omega):au tb Tryz.prog 136 [zv s b] Γ (js (.tuple #[.int .i64 x,.bool true])):=by
 have g:=xt (Γ:=Γ) s b (x:=x);simpa only[h,eV]using g
end
section
variable{fin:VS→List aE→Prop}{Γ:List aE}{L M K:Nat}
end
section
variable{fin:VS→List aE→Prop}{Γ:List aE}{L M K:Nat}
end
end Go.Proofs.YtgaaopjagcaojaaGreat
