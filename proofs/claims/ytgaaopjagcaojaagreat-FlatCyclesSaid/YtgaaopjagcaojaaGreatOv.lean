import Derived.Test.YtgaaopjagcaojaaGreatVm
import Derived.DeepKeys
import Derived.Test.YtgaaopjagcaojaaGreatSu
import Derived.Test.YtgaaopjagcaojaaGreatNatU
set_option linter.unusedSimpArgs false
set_option linter.unusedVariables false
set_option maxHeartbeats 8000000
namespace Go.Proofs.YtgaaopjagcaojaaGreat
open Go.RowKit
def P5(e:Ev):Option (TypeId×Value×Value):=
 match e with
 | .read o c=>match o.op with
  | .binOp .eql t x y _=>match c.s.ev x,c.s.ev y with
   | .val a,.val b=>some (t,a,b)
   |_,_=>none
  |_=>none
 |_=>none
section
variable{T:Tb}{P:Program}{fin:VS→List aD→Prop}{c:fG}{Γ:List aD}
theorem W.rem(D:List Nat)(a b r:Int)(hb:b≠0)(hr:a.tmod b=r)
  (hk:W T P fin (gg (aL T (bh T D 999 c)) (.int .i64 r)) Γ)(h:nu (aL T (bh T D 999 c))=some (.rem,.int .i64 a,.int .i64 b):=by kernel_rfl):W T P fin c Γ:=by
 subst hr;refine eD D 999 ?_;generalize bh T D 999 c=c1 at*;unfold nu at h;split at h
 ·rename_i o c' he;rw[he]at hk;split at h
  ·rename_i op ty u v yt hop;split at h
   ·rename_i x y hx hy;simp only[ar,aH]at h;obtain⟨rfl,rfl,rfl⟩:=h;refine W.read _ he (.any ?_) hk;intro w;simp[execOp,hop,cC hx,cC hy,eqGuard,binOp,Op.intDiv,hb]
   ·simp at h
  ·simp at h
 ·simp at h
end
open Go.RowKit Go.IntWalk
structure Ow where
 f:Bool
 o:Int
 g:Qw
 a:Qw
 b:Qw
 c:Qw
 d:Qw
structure On where
 f:Bool
 o:Int
 g:Rat
 a:Rat
 b:Rat
 c:Rat
 d:Rat
structure Q5 where
 g:Qw
 a:Qw
 b:Qw
 c:Qw
 d:Qw
abbrev vy(a b:Qw):Value:=.agg #[.slice a.n.ao a.n.n a.n.c,.bool a.a,.slice a.m.ao a.m.n a.m.c,.bool a.b,.slice b.n.ao b.n.n b.n.c,.bool b.a,.slice b.m.ao b.m.n b.m.c,.bool b.b]
abbrev Uq(f:Bool)(o:Int)(g a b c d:Qw):Value:=.agg #[.bool f,.int .i64 o,.slice g.n.ao g.n.n g.n.c,.bool g.a,.slice g.m.ao g.m.n g.m.c,.bool g.b,.slice a.n.ao a.n.n a.n.c,.bool a.a,.slice a.m.ao a.m.n a.m.c,.bool a.b,
 .slice b.n.ao b.n.n b.n.c,.bool b.a,.slice b.m.ao b.m.n b.m.c,.bool b.b,.slice c.n.ao c.n.n c.n.c,.bool c.a,.slice c.m.ao c.m.n c.m.c,.bool c.b,.slice d.n.ao d.n.n d.n.c,.bool d.a,.slice d.m.ao d.m.n d.m.c,.bool d.b]
abbrev Bn(x y:Sw):Value:=.agg ((sv x).cells++(sv y).cells)
abbrev Hs(V:On)(x:Q5):Value:=Uq V.f V.o x.g x.a x.b x.c x.d
def OF(x:Q5)(a:Nat×On):aD where
 p I w:=(QG x.g (a.1,a.2.g)).p I w∧(QG x.a (a.1,a.2.a)).p I w∧(QG x.b (a.1,a.2.b)).p I w∧(QG x.c (a.1,a.2.c)).p I w∧(QG x.d (a.1,a.2.d)).p I w
 up:=by
  rintro I I' w w' ⟨g2,g3,g4,g5,g6⟩ h1 h2 h3;exact⟨(QG x.g _).up g2 h1 h2 h3,(QG x.a _).up g3 h1 h2 h3,(QG x.b _).up g4 h1 h2 h3,(QG x.c _).up g5 h1 h2 h3,(QG x.d _).up g6 h1 h2 h3⟩
section
variable{fin:VS→List aD→Prop}{Γ:List aD}{L:Nat}
theorem Cg{P:Program}{c:fG}(x:Q5){V:On} [h:aW (OF x) (L,V) Γ](hm:dD c.k=false)
  (hk:W tb P fin c (QG x.g (L,V.g)::QG x.a (L,V.a)::QG x.b (L,V.b)::QG x.c (L,V.c)::QG x.d (L,V.d)::Γ)):W tb P fin c Γ:=
 W.more (Δ:=[QG x.g (L,V.g),QG x.a (L,V.a),QG x.b (L,V.b),QG x.c (L,V.c),QG x.d (L,V.d)]) hm (fun I w _ hh=>by
  obtain⟨g2,g3,g4,g5,g6⟩:=h.p hh;exact aG.cons g2 (aG.cons g3 (aG.cons g4 (aG.cons g5 (aS g6))))) hk
theorem Vo{x:Q5}{L' L1 L2 L3 L4 L5:Nat}{V:On}{g a b c d:Rat} [h1:aW (QG x.g) (L1,g) Γ] [h2:aW (QG x.a) (L2,a) Γ] [h3:aW (QG x.b) (L3,b) Γ] [h4:aW (QG x.c) (L4,c) Γ] [h5:aW (QG x.d) (L5,d) Γ]
  (e1:g=V.g)(e2:a=V.a)(e3:b=V.b)(e4:c=V.c)(e5:d=V.d)(hL:L1≤L'∧L2≤L'∧L3≤L'∧L4≤L'∧L5≤L'):∀(I:fQ) (w:World),br tb I w→aG Γ I w→aG [OF x (L',V)] I w:=fun I w _ hh=>by
 subst e1 e2 e3 e4 e5;obtain⟨l1,l2,l3,l4,l5⟩:=hL;exact aS ⟨QF.up2 (h1.p hh) l1,QF.up2 (h2.p hh) l2,QF.up2 (h3.p hh) l3,QF.up2 (h4.p hh) l4,QF.up2 (h5.p hh) l5⟩
end
def tm1(x y:Rat)(c d:Int):Rat:=x*c+y*d
def tm2(x y:Rat)(c d:Int):Rat:=y*c+x*Rat.divInt d 2
def pc(o:Int):Int:=if o=0 then 1 else if o=4 then-1 else 0
def ps(o:Int):Int:=if o=2 then 1 else if o=6 then-1 else 0
def Mr(o:Int):Int:=if o=1∨o=7 then 1 else if o=3∨o=5 then-1 else 0
def Ms(o:Int):Int:=if o=1∨o=3 then 1 else if o=5∨o=7 then-1 else 0
def On.mag(V:On):Rat:=if V.g.num.sign=0 then 1 else V.g
def On.sg(V:On)(z:Rat):Rat:=if V.f then-z else z
def On.u0(V:On)(x y z w:Rat):Rat:=tm1 (x*V.mag) (y*V.mag) (pc V.o) (Mr V.o)+ -(tm1 (V.sg z*V.mag) (V.sg w*V.mag) (ps V.o) (Ms V.o))+V.a
def On.u1(V:On)(x y z w:Rat):Rat:=tm2 (x*V.mag) (y*V.mag) (pc V.o) (Mr V.o)+ -(tm2 (V.sg z*V.mag) (V.sg w*V.mag) (ps V.o) (Ms V.o))+V.b
def On.v0(V:On)(x y z w:Rat):Rat:=tm1 (x*V.mag) (y*V.mag) (ps V.o) (Ms V.o)+tm1 (V.sg z*V.mag) (V.sg w*V.mag) (pc V.o) (Mr V.o)+V.c
def On.v1(V:On)(x y z w:Rat):Rat:=tm2 (x*V.mag) (y*V.mag) (ps V.o) (Ms V.o)+tm2 (V.sg z*V.mag) (V.sg w*V.mag) (pc V.o) (Mr V.o)+V.d
def r2(x y:Rat):Sn:=⟨2,0,x,y,0,0⟩
def DC(L:Nat)(x y:Rat)(v:Value)(Δ:List aD):Prop:=∃a b:Qw,v=vy a b∧Δ=[QG a (L,x),QG b (L,y)]
def vJ(L:Nat)(X Y:Sn)(v:Value)(Δ:List aD):Prop:=∃x y:Sw,v=Bn x y∧Δ=[SF x (L,X),SF y (L,Y)]
def On.then(V U:On):On:=⟨!(V.f==U.f),if U.f then(-V.o+U.o) % 8 else(V.o+U.o) % 8,V.mag*U.mag,U.u0 V.a V.b V.c V.d,U.u1 V.a V.b V.c V.d,U.v0 V.a V.b V.c V.d,U.v1 V.a V.b V.c V.d⟩
theorem U2:∀n m:_root_.Fin 8,bits BinOp.and .i64 (IntKind.i64.wrap ((n:Int)+m)) 7=((n:Int)+m) % 8:=by decide+kernel
theorem U3:∀n m:_root_.Fin 8,bits BinOp.and .i64 (IntKind.i64.wrap (IntKind.i64.wrap (0-(n:Int))+m)) 7=(-(n:Int)+m) % 8:=by decide+kernel
theorem RG{o:Int}(h:0≤o∧o≤7):∃n:_root_.Fin 8,o=(n:Int):=⟨⟨o.toNat,by omega⟩,by simp only;omega⟩
theorem Yi{o u:Int}(h:0≤o∧o≤7)(h':0≤u∧u≤7):bits BinOp.and .i64 (IntKind.i64.wrap (o+u)) 7=(o+u) % 8:=by
 obtain⟨n,rfl⟩:=RG h;obtain⟨m,rfl⟩:=RG h';exact U2 n m
theorem Yj{o u:Int}(h:0≤o∧o≤7)(h':0≤u∧u≤7):bits BinOp.and .i64 (IntKind.i64.wrap (IntKind.i64.wrap (0-o)+u)) 7=(-o+u) % 8:=by
 obtain⟨n,rfl⟩:=RG h;obtain⟨m,rfl⟩:=RG h';exact U3 n m
theorem KP(V U:On):0≤(V.then U).o∧(V.then U).o≤7:=by
 unfold On.then
 simp only;split<;>omega
theorem WQ(o:Int): -1≤pc o∧pc o≤1:=by unfold pc;(repeat' split)<;>omega
theorem WR(o:Int): -1≤ps o∧ps o≤1:=by unfold ps;(repeat' split)<;>omega
theorem PM(o:Int): -1≤Mr o∧Mr o≤1:=by unfold Mr;(repeat' split)<;>omega
theorem PS(o:Int): -1≤Ms o∧Ms o≤1:=by unfold Ms;(repeat' split)<;>omega
section
variable{fin:VS→List aD→Prop}{Γ:List aD}{L M K:Nat}
theorem abi{a:Qw}{L':Nat}{q q':Rat} [h:aW (QG a) (L,q) Γ](hL:L≤L')(hq:q=q'):∀(I:fQ) (w:World),br tb I w→aG Γ I w→aG [QG a (L',q')] I w:=fun I w _ hh=>by
 subst hq;exact aS (QF.up2 (h.p hh) hL)
theorem Ar{a b:Qw}{L1 L2 L':Nat}{q q' r r':Rat} [h:aW (QG a) (L1,q) Γ] [h':aW (QG b) (L2,r) Γ](hL:L1≤L'∧L2≤L')(hq:q=q')(hr:r=r'):∀(I:fQ) (w:World),br tb I w→aG Γ I w→aG [QG a (L',q'),QG b (L',r')] I w:=fun I w _ hh=>by
 subst hq hr;exact aG.cons (QF.up2 (h.p hh) hL.1) (aS (QF.up2 (h'.p hh) hL.2))
theorem acA{z:Int}(h:(z==0)=true):z=0:=eq_of_beq h
theorem Kc(o:Int)(h:0≤o∧o≤7):aw tb Tryz.prog 206 [.int .i64 o] Γ (jq (.agg #[.int .i64 (pc o),.int .i64 (ps o),.int .i64 (Mr o),.int .i64 (Ms o)])):=by
 obtain rfl|rfl|rfl|rfl|rfl|rfl|rfl|rfl:o=0∨o=1∨o=2∨o=3∨o=4∨o=5∨o=6∨o=7:=by omega
 ·exact aw.of_W aB Tryz.func206 rfl (W.r [] (.agg #[.int .i64 1,.int .i64 0,.int .i64 0,.int .i64 0]) ⟨rfl,rfl⟩ bT)
 ·exact aw.of_W aB Tryz.func206 rfl (W.r [] (.agg #[.int .i64 0,.int .i64 0,.int .i64 1,.int .i64 1]) ⟨rfl,rfl⟩ bT)
 ·exact aw.of_W aB Tryz.func206 rfl (W.r [] (.agg #[.int .i64 0,.int .i64 1,.int .i64 0,.int .i64 0]) ⟨rfl,rfl⟩ bT)
 ·exact aw.of_W aB Tryz.func206 rfl (W.r [] (.agg #[.int .i64 0,.int .i64 0,.int .i64 (-1),.int .i64 1]) ⟨rfl,rfl⟩ bT)
 ·exact aw.of_W aB Tryz.func206 rfl (W.r [] (.agg #[.int .i64 (-1),.int .i64 0,.int .i64 0,.int .i64 0]) ⟨rfl,rfl⟩ bT)
 ·exact aw.of_W aB Tryz.func206 rfl (W.r [] (.agg #[.int .i64 0,.int .i64 0,.int .i64 (-1),.int .i64 (-1)]) ⟨rfl,rfl⟩ bT)
 ·exact aw.of_W aB Tryz.func206 rfl (W.r [] (.agg #[.int .i64 0,.int .i64 (-1),.int .i64 0,.int .i64 0]) ⟨rfl,rfl⟩ bT)
 ·exact aw.of_W aB Tryz.func206 rfl (W.r [] (.agg #[.int .i64 0,.int .i64 0,.int .i64 1,.int .i64 (-1)]) ⟨rfl,rfl⟩ bT)
theorem lQ(u:Sl)(d:Bool)(v:Sl)(e:Bool)(a b:Qw){m n:Int}{x y:Rat}{L1 L2:Nat} [h1:aW (ZF u d) (L,m) Γ] [h2:aW (ZF v e) (M,n) Γ] [ha:aW (QG a) (L1,x) Γ] [hb:aW (QG b) (L2,y) Γ](hm:0≤m)(hn:0≤n)
  (hL:L≤100000:=by omega)(hM:M≤100000:=by omega):
  aw tb Tryz.prog 143 [zv u d,zv v e,vy a b] Γ (Td (max (max L M) (max L1 L2)) ⟨m,n,x,y,0,0⟩):=by
 refine aw.of_W aB Tryz.func143 rfl ?_;refine cH [] 2 ([(⟨a.n,a.a,a.m,a.b,x⟩:QE),⟨b.n,b.a,b.m,b.b,y⟩].flatMap QR.cells) aB (fun B=>?_);refine aq [] ((PJ (Γ:=OL QR (some ⟨B,0,none⟩) (max L1 L2,[(⟨a.n,a.a,a.m,a.b,x⟩:QE),⟨b.n,b.a,b.m,b.b,y⟩])::_) u d v e (some ⟨B,0,none⟩) 2 2 rfl (by omega) hm hn).weak (fun I w hd hh=>aG.cons ⟨fun q hq=>?_,?_⟩ hh) (fun _ _ h=>h)) ?_
 ·simp at hq;rcases hq with rfl|rfl
  ·exact QF.up2 (aW.p (k:=QG a) (a:=(L1,x)) inferInstance hh) (by omega)
  ·exact QF.up2 (aW.p (k:=QG b) (a:=(L2,y)) inferInstance hh) (by omega)
 ·exact RA.of_row (aW.p (k:=ek B) (a:=[(⟨a.n,a.a,a.m,a.b,x⟩:QE),⟨b.n,b.a,b.m,b.b,y⟩].flatMap QR.cells) inferInstance hh) (fun _ _ h=>h)
 rintro _ _ ⟨X,rfl,rfl⟩;exact W.r [] (sv X) ⟨X,rfl,rfl⟩ (qg (by omega) rfl)
theorem lx(n:Int)(h1: -9223372036854775808≤n)(h2:n<9223372036854775808):
  aw tb Tryz.prog 141 [.int .i64 n] Γ (s9 2 (n:Rat)):=by
 refine aw.of_W aB Tryz.func141 rfl ?_;refine aq [] (cU n (by omega) (by omega)) ?_;rintro _ _ ⟨u1,d1,rfl,rfl⟩;refine aq [] (cr u1 d1) ?_;rintro _ _ ⟨n2,a2,m2,b2,rfl,rfl⟩;exact W.r [] (qv n2 a2 m2 b2) ⟨_,_,_,_,rfl,rfl⟩ (kg (by omega) rfl)
theorem Pv:
  aw tb Tryz.prog 142 [] Γ (fun v Δ=>∃(u:Sl) (d:Bool),v=.tuple #[zv u d,zv ⟨none,0,0⟩ false]∧Δ=[ZF u d (2,2),ZF ⟨none,0,0⟩ false (2,0)]):=by
 refine aw.of_W aB Tryz.func142 rfl ?_;refine aq [] (cU 2 (by omega) (by omega)) ?_;rintro _ _ ⟨u1,d1,rfl,rfl⟩;exact W.r [] (.tuple #[zv u1 d1,zv ⟨none,0,0⟩ false]) ⟨_,_,rfl,rfl⟩ (mh (Δ:=[_]) (Δ':=[_]) (lq (by omega) rfl) zx)
theorem nU(a b:Qw)(c d:Int){x y:Rat} [aW (QG a) (L,x) Γ] [aW (QG b) (M,y) Γ](hc: -9223372036854775808≤c∧c<9223372036854775808)(hd: -9223372036854775808≤d∧d<9223372036854775808)(hL:L≤400000:=by omega)(hM:M≤400000:=by omega):
  aw tb Tryz.prog 208 [vy a b,.int .i64 c,.int .i64 d] Γ (DC (L+M+30) (tm1 x y c d) (tm2 x y c d)):=by
 refine aw.of_W aB Tryz.func208 rfl ?_;refine aq [] (Bb d 2 (by omega) (by omega) (by omega) (by omega) (by omega)) ?_;rintro _ _ ⟨n1,a1,m1,b1,rfl,rfl⟩;refine aq [] (lx c (by omega) (by omega)) ?_;rintro _ _ ⟨n2,a2,m2,b2,rfl,rfl⟩;refine aq [] (bU a.n a.a a.m a.b n2 a2 m2 b2) ?_;rintro _ _ ⟨n3,a3,m3,b3,rfl,rfl⟩;refine aq [] (lx d (by omega) (by omega)) ?_;rintro _ _ ⟨n4,a4,m4,b4,rfl,rfl⟩;refine aq [] (bU b.n b.a b.m b.b n4 a4 m4 b4) ?_;rintro _ _ ⟨n5,a5,m5,b5,rfl,rfl⟩;refine aq [] (ft n3 a3 m3 b3 n5 a5 m5 b5) ?_;rintro _ _ ⟨n6,a6,m6,b6,rfl,rfl⟩;refine aq [] (lx c (by omega) (by omega)) ?_;rintro _ _ ⟨n7,a7,m7,b7,rfl,rfl⟩;refine aq [] (bU b.n b.a b.m b.b n7 a7 m7 b7) ?_;rintro _ _ ⟨n8,a8,m8,b8,rfl,rfl⟩;refine aq [] (bU a.n a.a a.m a.b n1 a1 m1 b1) ?_;rintro _ _ ⟨n9,a9,m9,b9,rfl,rfl⟩;refine aq [] (ft n8 a8 m8 b8 n9 a9 m9 b9) ?_;rintro _ _ ⟨n10,a10,m10,b10,rfl,rfl⟩;exact W.r [] (vy ⟨n6,a6,m6,b6⟩ ⟨n10,a10,m10,b10⟩) ⟨⟨_,_,_,_⟩,⟨_,_,_,_⟩,rfl,rfl⟩ (Ar (by omega) rfl rfl)
theorem oq(a b c d:Qw){x y z w:Rat}{L1 L2 L3 L4:Nat} [aW (QG a) (L1,x) Γ] [aW (QG b) (L2,y) Γ] [aW (QG c) (L3,z) Γ] [aW (QG d) (L4,w) Γ](hL:L1≤1000000∧L2≤1000000∧L3≤1000000∧L4≤1000000:=by omega):
  aw tb Tryz.prog 207 [vy a b,vy c d] Γ (DC (max L1 L2+max L3 L4+5) (x+z) (y+w)):=by
 refine aw.of_W aB Tryz.func207 rfl ?_;refine aq [] (ft a.n a.a a.m a.b c.n c.a c.m c.b) ?_;rintro _ _ ⟨n1,a1,m1,b1,rfl,rfl⟩;refine aq [] (ft b.n b.a b.m b.b d.n d.a d.m d.b) ?_;rintro _ _ ⟨n2,a2,m2,b2,rfl,rfl⟩;exact W.r [] (vy ⟨n1,a1,m1,b1⟩ ⟨n2,a2,m2,b2⟩) ⟨⟨_,_,_,_⟩,⟨_,_,_,_⟩,rfl,rfl⟩ (Ar (by omega) rfl rfl)
theorem A9(a b:Qw){x y:Rat}{L1 L2:Nat} [aW (QG a) (L1,x) Γ] [aW (QG b) (L2,y) Γ](hL:L1≤1000000∧L2≤1000000:=by omega):
  aw tb Tryz.prog 205 [vy a b] Γ (DC (max L1 L2) (-x) (-y)):=by
 refine aw.of_W aB Tryz.func205 rfl ?_;refine aq [] (pG a.n a.a a.m a.b) ?_;rintro _ _ ⟨n1,a1,m1,b1,rfl,rfl⟩;refine aq [] (pG b.n b.a b.m b.b) ?_;rintro _ _ ⟨n2,a2,m2,b2,rfl,rfl⟩;exact W.r [] (vy ⟨n1,a1,m1,b1⟩ ⟨n2,a2,m2,b2⟩) ⟨⟨_,_,_,_⟩,⟨_,_,_,_⟩,rfl,rfl⟩ (Ar (by omega) rfl rfl)
theorem TD{a b c d:Qw}{L1 L2 L3 L4 L':Nat}{p p' q q' r r' s s':Rat} [h1:aW (QG a) (L1,p) Γ] [h2:aW (QG b) (L2,q) Γ] [h3:aW (QG c) (L3,r) Γ] [h4:aW (QG d) (L4,s) Γ](hL:L1≤L'∧L2≤L'∧L3≤L'∧L4≤L')(e1:p=p')(e2:q=q')(e3:r=r')(e4:s=s'):
  ∀(I:fQ) (w:World),br tb I w→aG Γ I w→aG [QG a (L',p'),QG b (L',q'),QG c (L',r'),QG d (L',s')] I w:=fun I w _ hh=>by
 subst e1 e2 e3 e4;exact aG.cons (QF.up2 (h1.p hh) hL.1) (aG.cons (QF.up2 (h2.p hh) hL.2.1) (aG.cons (QF.up2 (h3.p hh) hL.2.2.1) (aS (QF.up2 (h4.p hh) hL.2.2.2))))
theorem Jx{x y:Sw}{L1 L2 L':Nat}{X X' Y Y':Sn} [h1:aW (SF x) (L1,X) Γ] [h2:aW (SF y) (L2,Y) Γ](hL:L1≤L'∧L2≤L')(e1:X=X')(e2:Y=Y'):∀(I:fQ) (w:World),br tb I w→aG Γ I w→aG [SF x (L',X'),SF y (L',Y')] I w:=fun I w hd hh=>by
 exact aG.cons ((qg (Γ:=Γ) (x:=x) hL.1 e1) I w hd hh).h0' (qg (Γ:=Γ) (x:=y) hL.2 e2 I w hd hh)
theorem vX(f:Bool)(o:Int)(g a b c d:Qw){V:On} [aW (QG g) (L,V.g) Γ](hL:L≤1000000:=by omega):
  aw tb Tryz.prog 149 [Uq f o g a b c d] Γ (fun v Δ=>∃g:Qw,v=qv g.n g.a g.m g.b∧Δ=[QG g (max L 2,V.mag)]):=by
 refine aw.of_W aB Tryz.func149 rfl ?_;refine aq [] (iZ g.n g.a g.m g.b) ?_;rintro _ _ ⟨rfl,rfl⟩;refine W.d [] 6 (V.g.num.sign==0) (fun hb=>?_) (fun hb=>?_)
 ·skip
  refine aq [6] (lx 1 (by omega) (by omega)) ?_;rintro _ _ ⟨n2,a2,m2,b2,rfl,rfl⟩;exact W.r [] (qv n2 a2 m2 b2) ⟨⟨_,_,_,_⟩,rfl,rfl⟩ (kg (by omega) (by unfold On.mag;rw[if_pos (acA hb)];rfl))
 ·skip
  exact W.r [6] (qv g.n g.a g.m g.b) ⟨g,rfl,rfl⟩ (abi (by omega) (by unfold On.mag;rw[if_neg (kB hb)]))
theorem El(V:On)(x:Q5)(p q r s:Qw){X Y Z U:Rat}{L1 L2 L3 L4:Nat} [aW (OF x) (L,V) Γ] [aW (QG p) (L1,X) Γ] [aW (QG q) (L2,Y) Γ] [aW (QG r) (L3,Z) Γ] [aW (QG s) (L4,U) Γ](ho:0≤V.o∧V.o≤7)(hL:L≤10000∧L1≤10000∧L2≤10000∧L3≤10000∧L4≤10000:=by omega):
  aw tb Tryz.prog 140 [Hs V x,vy p q,vy r s] Γ (fun v Δ=>∃a b c d:Qw,v=.tuple #[vy a b,vy c d]∧Δ=[QG a (5*L+4*max (max L1 L2) (max L3 L4)+200,V.u0 X Y Z U),QG b (5*L+4*max (max L1 L2) (max L3 L4)+200,V.u1 X Y Z U),QG c (5*L+4*max (max L1 L2) (max L3 L4)+200,V.v0 X Y Z U),QG d (5*L+4*max (max L1 L2) (max L3 L4)+200,V.v1 X Y Z U)]):=by
 refine aw.of_W aB Tryz.func140 rfl ?_;have b1:=WQ V.o;have b2:=WR V.o;have b3:=PM V.o;have b4:=PS V.o;refine Cg x rfl ?_;refine W.d [] 14 (V.f) (fun hb=>?_) (fun hb=>?_)
 ·skip
  refine aq [14] (A9 r s) ?_;rintro _ _ ⟨a1,b1,rfl,rfl⟩;refine aq [] (vX V.f V.o x.g x.a x.b x.c x.d (V:=V)) ?_;rintro _ _ ⟨g2,rfl,rfl⟩;refine j2 [] 4 ?_;refine aq [20] (bU p.n p.a p.m p.b g2.n g2.a g2.m g2.b) ?_;rintro _ _ ⟨n3,a3,m3,b3,rfl,rfl⟩;refine aq [] (bU a1.n a1.a a1.m a1.b g2.n g2.a g2.m g2.b) ?_;rintro _ _ ⟨n4,a4,m4,b4,rfl,rfl⟩;refine aq [20] (bU q.n q.a q.m q.b g2.n g2.a g2.m g2.b) ?_;rintro _ _ ⟨n5,a5,m5,b5,rfl,rfl⟩;refine aq [] (bU b1.n b1.a b1.m b1.b g2.n g2.a g2.m g2.b) ?_;rintro _ _ ⟨n6,a6,m6,b6,rfl,rfl⟩;refine aq [20] (Kc V.o ho) ?_;rintro _ _ ⟨rfl,rfl⟩;refine aq [] (nU ⟨n3,a3,m3,b3⟩ ⟨n5,a5,m5,b5⟩ ((pc V.o)) ((Mr V.o)) (by omega) (by omega)) ?_;rintro _ _ ⟨a8,b8,rfl,rfl⟩;refine aq [] (nU ⟨n4,a4,m4,b4⟩ ⟨n6,a6,m6,b6⟩ ((ps V.o)) ((Ms V.o)) (by omega) (by omega)) ?_;rintro _ _ ⟨a9,b9,rfl,rfl⟩;refine aq [] (A9 a9 b9) ?_;rintro _ _ ⟨a10,b10,rfl,rfl⟩;refine aq [] (oq a8 b8 a10 b10) ?_;rintro _ _ ⟨a11,b11,rfl,rfl⟩;refine aq [] (nU ⟨n3,a3,m3,b3⟩ ⟨n5,a5,m5,b5⟩ ((ps V.o)) ((Ms V.o)) (by omega) (by omega)) ?_;rintro _ _ ⟨a12,b12,rfl,rfl⟩;refine aq [] (nU ⟨n4,a4,m4,b4⟩ ⟨n6,a6,m6,b6⟩ ((pc V.o)) ((Mr V.o)) (by omega) (by omega)) ?_;rintro _ _ ⟨a13,b13,rfl,rfl⟩;refine aq [] (oq a12 b12 a13 b13) ?_;rintro _ _ ⟨a14,b14,rfl,rfl⟩;refine aq [] (oq a11 b11 x.a x.b) ?_
  rintro _ _ ⟨a15,b15,rfl,rfl⟩;refine aq [] (oq a14 b14 x.c x.d) ?_;rintro _ _ ⟨a16,b16,rfl,rfl⟩;exact W.r [] (.tuple #[vy a15 b15,vy a16 b16]) ⟨_,_,_,_,rfl,rfl⟩ (TD (by omega) (by unfold On.u0 On.sg;rw[hb];rfl) (by unfold On.u1 On.sg;rw[hb];rfl) (by unfold On.v0 On.sg;rw[hb];rfl) (by unfold On.v1 On.sg;rw[hb];rfl))
 ·skip
  refine aq [14] (vX V.f V.o x.g x.a x.b x.c x.d (V:=V)) ?_;rintro _ _ ⟨Hm,rfl,rfl⟩;refine j2 [] 4 ?_;refine aq [20] (bU p.n p.a p.m p.b Hm.n Hm.a Hm.m Hm.b) ?_;rintro _ _ ⟨n18,a18,m18,b18,rfl,rfl⟩;refine aq [] (bU r.n r.a r.m r.b Hm.n Hm.a Hm.m Hm.b) ?_;rintro _ _ ⟨n19,a19,m19,b19,rfl,rfl⟩;refine aq [20] (bU q.n q.a q.m q.b Hm.n Hm.a Hm.m Hm.b) ?_;rintro _ _ ⟨n20,a20,m20,b20,rfl,rfl⟩;refine aq [] (bU s.n s.a s.m s.b Hm.n Hm.a Hm.m Hm.b) ?_;rintro _ _ ⟨n21,a21,m21,b21,rfl,rfl⟩;refine aq [20] (Kc V.o ho) ?_;rintro _ _ ⟨rfl,rfl⟩;refine aq [] (nU ⟨n18,a18,m18,b18⟩ ⟨n20,a20,m20,b20⟩ ((pc V.o)) ((Mr V.o)) (by omega) (by omega)) ?_;rintro _ _ ⟨a23,b23,rfl,rfl⟩;refine aq [] (nU ⟨n19,a19,m19,b19⟩ ⟨n21,a21,m21,b21⟩ ((ps V.o)) ((Ms V.o)) (by omega) (by omega)) ?_;rintro _ _ ⟨a24,b24,rfl,rfl⟩;refine aq [] (A9 a24 b24) ?_;rintro _ _ ⟨a25,b25,rfl,rfl⟩;refine aq [] (oq a23 b23 a25 b25) ?_;rintro _ _ ⟨a26,b26,rfl,rfl⟩;refine aq [] (nU ⟨n18,a18,m18,b18⟩ ⟨n20,a20,m20,b20⟩ ((ps V.o)) ((Ms V.o)) (by omega) (by omega)) ?_;rintro _ _ ⟨a27,b27,rfl,rfl⟩;refine aq [] (nU ⟨n19,a19,m19,b19⟩ ⟨n21,a21,m21,b21⟩ ((pc V.o)) ((Mr V.o)) (by omega) (by omega)) ?_;rintro _ _ ⟨a28,b28,rfl,rfl⟩;refine aq [] (oq a27 b27 a28 b28) ?_;rintro _ _ ⟨a29,b29,rfl,rfl⟩;refine aq [] (oq a26 b26 x.a x.b) ?_
  rintro _ _ ⟨a30,b30,rfl,rfl⟩;refine aq [] (oq a29 b29 x.c x.d) ?_;rintro _ _ ⟨a31,b31,rfl,rfl⟩;exact W.r [] (.tuple #[vy a30 b30,vy a31 b31]) ⟨_,_,_,_,rfl,rfl⟩ (TD (by omega) (by unfold On.u0 On.sg;rw[hb];rfl) (by unfold On.u1 On.sg;rw[hb];rfl) (by unfold On.v0 On.sg;rw[hb];rfl) (by unfold On.v1 On.sg;rw[hb];rfl))
theorem ZJ(V:On)(x:Q5)(a b:Int) [aW (OF x) (L,V) Γ](ho:0≤V.o∧V.o≤7)(ha: -9223372036854775808≤a∧a<9223372036854775808)(hb: -9223372036854775808≤b∧b<9223372036854775808)(hL:L≤10000:=by omega):
  aw tb Tryz.prog 86 [Hs V x,.agg #[.int .i64 a,.int .i64 b]] Γ (vJ (5*L+208) (r2 (V.u0 a 0 b 0) (V.u1 a 0 b 0)) (r2 (V.v0 a 0 b 0) (V.v1 a 0 b 0))):=by
 refine aw.of_W aB Tryz.func86 rfl ?_;refine W.more rfl (ln (L':=0)) ?_;refine aq [] (lx a (by omega) (by omega)) ?_;rintro _ _ ⟨n1,a1,m1,b1,rfl,rfl⟩;refine aq [] (lx b (by omega) (by omega)) ?_;rintro _ _ ⟨n2,a2,m2,b2,rfl,rfl⟩;refine aq [] (El V x ⟨n1,a1,m1,b1⟩ b_ ⟨n2,a2,m2,b2⟩ b_ ho) ?_;rintro _ _ ⟨a3,b3,c3,d3,rfl,rfl⟩;refine aq [] (Pv) ?_;rintro _ _ ⟨u4,d4,rfl,rfl⟩;refine aq [] (lQ u4 d4 ⟨none,0,0⟩ false a3 b3 (by omega) (by omega)) ?_;rintro _ _ ⟨X5,rfl,rfl⟩;refine aq [] (lQ u4 d4 ⟨none,0,0⟩ false c3 d3 (by omega) (by omega)) ?_;rintro _ _ ⟨X6,rfl,rfl⟩;exact W.r [] (Bn X5 X6) ⟨_,_,rfl,rfl⟩ (Jx (by omega) rfl rfl)
theorem Sx(f:Bool)(g:Qw)(o:Int)(a c:Qw){X Y Z:Rat}{L1 L2 L3:Nat} [aW (QG g) (L1,X) Γ] [aW (QG a) (L2,Y) Γ] [aW (QG c) (L3,Z) Γ](ho:0≤o∧o≤7)(hX:0<X.num.sign)(hL:L1≤1000000:=by omega):
  aw tb Tryz.prog 156 [.bool f,qv g.n g.a g.m g.b,.int .i64 o,qv a.n a.a a.m a.b,qv c.n c.a c.m c.b] Γ (fun v Δ=>v=.tuple #[Uq f o g a b_ c b_,.int .i64 0]∧Δ=[OF ⟨g,a,b_,c,b_⟩ (max L1 (max L2 L3),⟨f,o,X,Y,0,Z,0⟩)]):=by
 refine aw.of_W aB Tryz.func156 rfl ?_;refine W.more rfl (ln (L':=0)) ?_;refine aQ [] 15 (decide (o<0)) (by rw[aX];omega) ?_;refine aQ [15] 12 (decide (o>7)) (by rw[aX];omega) ?_;refine aq [12] (iZ g.n g.a g.m g.b) ?_;rintro _ _ ⟨rfl,rfl⟩;refine aQ [] 20 (decide (X.num.sign≤0)) (by rw[aX];omega) ?_;exact W.r [20] (.tuple #[Uq f o g a ⟨⟨none,0,0⟩,false,⟨none,0,0⟩,false⟩ c ⟨⟨none,0,0⟩,false,⟨none,0,0⟩,false⟩,.int .i64 0]) ⟨rfl,rfl⟩ (Vo rfl rfl rfl rfl rfl (by omega))
theorem Sy(V U:On)(x y:Q5) [aW (OF x) (L,V) Γ] [aW (OF y) (M,U) Γ](ho:0≤V.o∧V.o≤7)(hu:0≤U.o∧U.o≤7)(hL:L≤10000∧M≤10000:=by omega):
  aw tb Tryz.prog 159 [Hs V x,Hs U y] Γ (fun v Δ=>∃q:Q5,v=Hs (V.then U) q∧Δ=[OF q (5*M+4*L+300,V.then U)]):=by
 refine aw.of_W aB Tryz.func159 rfl ?_;refine W.more (Δ:=[QG y.g (M,U.g)]) rfl (fun I w _ hh=>aS (aW.p (k:=OF y) (a:=(M,U)) inferInstance hh).1) ?_;refine Cg x rfl ?_;refine aq [] (El U y x.a x.b x.c x.d hu) ?_;rintro _ _ ⟨a1,b1,c1,d1,rfl,rfl⟩;refine W.d [] 20 (U.f) (fun hb=>?_) (fun hb=>?_)
 ·skip
  refine aq [20] (vX V.f V.o x.g x.a x.b x.c x.d (V:=V)) ?_;rintro _ _ ⟨g2,rfl,rfl⟩;refine aq [] (vX U.f U.o y.g y.a y.b y.c y.d (V:=U)) ?_;rintro _ _ ⟨g3,rfl,rfl⟩;refine aq [] (bU g2.n g2.a g2.m g2.b g3.n g3.a g3.m g3.b) ?_;rintro _ _ ⟨n4,a4,m4,b4,rfl,rfl⟩;exact W.r [] (Uq (!V.f==U.f) (bits BinOp.and .i64 (IntKind.i64.wrap (IntKind.i64.wrap (0-V.o)+U.o)) 7) ⟨n4,a4,m4,b4⟩ a1 b1 c1 d1) ⟨⟨⟨_,_,_,_⟩,_,_,_,_⟩,dH (fun z=>Uq (!(V.f==U.f)) z _ _ _ _ _) (by rw[Yj ho hu];unfold On.then;simp only;rw[hb,if_pos rfl]),rfl⟩ (Vo rfl rfl rfl rfl rfl (by omega))
 ·skip
  refine aq [20] (vX V.f V.o x.g x.a x.b x.c x.d (V:=V)) ?_;rintro _ _ ⟨g5,rfl,rfl⟩;refine aq [] (vX U.f U.o y.g y.a y.b y.c y.d (V:=U)) ?_;rintro _ _ ⟨g6,rfl,rfl⟩;refine aq [] (bU g5.n g5.a g5.m g5.b g6.n g6.a g6.m g6.b) ?_;rintro _ _ ⟨n7,a7,m7,b7,rfl,rfl⟩;exact W.r [] (Uq (!V.f==U.f) (bits BinOp.and .i64 (IntKind.i64.wrap (V.o+U.o)) 7) ⟨n7,a7,m7,b7⟩ a1 b1 c1 d1) ⟨⟨⟨_,_,_,_⟩,_,_,_,_⟩,dH (fun z=>Uq (!(V.f==U.f)) z _ _ _ _ _) (by rw[Yi ho hu];unfold On.then;simp only;rw[hb,if_neg (by simp)]),rfl⟩ (Vo rfl rfl rfl rfl rfl (by omega))
end
section
variable{fin:VS→List aD→Prop}{Γ:List aD}{L M K:Nat}
theorem jz(s:Sl)(b:Bool){x:Int} [aW (ZF s b) (L,x) Γ](h:g_ x=true)(hL:L≤1000000000000:=by omega):aw tb Tryz.prog 136 [zv s b] Γ (jq (.tuple #[.int .i64 x,.bool true])):=by
 have g:=xh (Γ:=Γ) s b (x:=x);simpa only[h,e8]using g
end
section
variable{fin:VS→List aD→Prop}{Γ:List aD}{L M K:Nat}
end
section
variable{fin:VS→List aD→Prop}{Γ:List aD}{L M K:Nat}
end
def xD(f:Nat→Rat):Prop:=∃e:Rat,0<e∧∃K,∀k,K≤k→e≤f k
def wg(f:Nat→Rat):Prop:=∀e:Rat,0<e→∃K,∀k,K≤k→ -e≤f k∧f k≤e
def vk(f:Nat→Rat):Prop:=∃C:Rat,0<C∧∀k,-C≤f k∧f k≤C
def oO(f:Nat→Rat)(s:Int):Prop:=(s=1∧xD f)∨(s=0∧wg f)∨(s= -1∧xD (fun k=> -f k))
theorem Ax{e:Rat}(h:0<e):0<e*Rat.divInt 1 2∧e*Rat.divInt 1 2+e*Rat.divInt 1 2=e:=by
 have h2:Rat.divInt 1 2+Rat.divInt 1 2=1:=by decide+kernel
 have h3:(0:Rat)<Rat.divInt 1 2:=by decide+kernel
 exact⟨fL h h3,by rw[←Rat.mul_add,h2,sS]⟩
theorem xD.congr{f g:Nat→Rat}(h:xD f)(e:∀k,f k=g k):xD g:=by rwa [funext e]at h
theorem wg.congr{f g:Nat→Rat}(h:wg f)(e:∀k,f k=g k):wg g:=by rwa [funext e]at h
theorem oO.eqf{f g:Nat→Rat}{s:Int}(h:oO f s)(e:∀k,f k=g k):oO g s:=by rwa [funext e]at h
theorem xD.add_nul{f g:Nat→Rat}(h:xD f)(h':wg g):xD (fun k=>f k+g k):=by
 obtain⟨e,he,K,hK⟩:=h;obtain⟨h1,h2⟩:=Ax he;obtain⟨K',hK'⟩:=h' _ h1;refine⟨_,h1,max K K',fun k hk=>?_⟩;have a:=hK k (by omega);have b:=(hK' k (by omega)).1;grind
theorem xD.add{f g:Nat→Rat}(h:xD f)(h':xD g):xD (fun k=>f k+g k):=by
 obtain⟨e,he,K,hK⟩:=h;obtain⟨e',he',K',hK'⟩:=h';refine⟨e,he,max K K',fun k hk=>?_⟩;have a:=hK k (by omega);have b:=hK' k (by omega);grind
theorem xD.mul{f g:Nat→Rat}(h:xD f)(h':xD g):xD (fun k=>f k*g k):=by
 obtain⟨e,he,K,hK⟩:=h;obtain⟨e',he',K',hK'⟩:=h';refine⟨e*e',fL he he',max K K',fun k hk=>?_⟩;have a:=hK k (by omega);have b:=hK' k (by omega);have h1:0≤(f k-e)*g k:=bE (by grind) (by grind);have h2:0≤e*(g k-e'):=bE (by grind) (by grind);grind
theorem wg.neg{f:Nat→Rat}(h:wg f):wg (fun k=> -f k):=by
 intro e he;obtain⟨K,hK⟩:=h e he;exact⟨K,fun k hk=>by have:=hK k hk;grind⟩
theorem wg.add{f g:Nat→Rat}(h:wg f)(h':wg g):wg (fun k=>f k+g k):=by
 intro e he;obtain⟨h1,h2⟩:=Ax he;obtain⟨K,hK⟩:=h _ h1;obtain⟨K',hK'⟩:=h' _ h1;refine⟨max K K',fun k hk=>?_⟩;have a:=hK k (by omega);have b:=hK' k (by omega);grind
theorem AL{c:Rat}(h:0<c):∃d:Rat,0<d∧d*c=1:=by
 refine⟨c⁻¹,Rat.inv_pos.2 h,Rat.inv_mul_cancel _ (by grind)⟩
theorem wg.mul{f g:Nat→Rat}(h:wg f)(h':vk g):wg (fun k=>f k*g k):=by
 intro e he;obtain⟨C,hC,hg⟩:=h';obtain⟨d,hd,hdc⟩:=AL hC;obtain⟨K,hK⟩:=h (e*d) (fL he hd);refine⟨K,fun k hk=>?_⟩;obtain⟨a1,a2⟩:=hK k hk;obtain⟨b1,b2⟩:=hg k;have hb:e*d*C=e:=by rw[Rat.mul_assoc,hdc,sS]
 have h1:0≤(e*d-f k)*(C-g k):=bE (by grind) (by grind);have h2:0≤(e*d-f k)*(C+g k):=bE (by grind) (by grind);have h3:0≤(e*d+f k)*(C-g k):=bE (by grind) (by grind);have h4:0≤(e*d+f k)*(C+g k):=bE (by grind) (by grind);constructor<;>grind
theorem vk.const(x:Rat):vk (fun _=>x):=by
 by_cases h:0≤x
 ·exact⟨x+1,by grind,fun k=>by constructor<;>grind⟩
 ·exact⟨1-x,by grind,fun k=>by constructor<;>grind⟩
theorem vk.add{f g:Nat→Rat}(h:vk f)(h':vk g):vk (fun k=>f k+g k):=by
 obtain⟨C,hC,hf⟩:=h;obtain⟨D,hD,hg⟩:=h';exact⟨C+D,by grind,fun k=>by have:=hf k;have:=hg k;constructor<;>grind⟩
theorem vk.neg{f:Nat→Rat}(h:vk f):vk (fun k=> -f k):=by
 obtain⟨C,hC,hf⟩:=h;exact⟨C,hC,fun k=>by have:=hf k;constructor<;>grind⟩
theorem vk.mul{f g:Nat→Rat}(h:vk f)(h':vk g):vk (fun k=>f k*g k):=by
 obtain⟨C,hC,hf⟩:=h;obtain⟨D,hD,hg⟩:=h';refine⟨C*D,fL hC hD,fun k=>?_⟩;obtain⟨a1,a2⟩:=hf k;obtain⟨b1,b2⟩:=hg k;have h1:0≤(C-f k)*(D-g k):=bE (by grind) (by grind);have h2:0≤(C-f k)*(D+g k):=bE (by grind) (by grind);have h3:0≤(C+f k)*(D-g k):=bE (by grind) (by grind);have h4:0≤(C+f k)*(D+g k):=bE (by grind) (by grind);constructor<;>grind
theorem xD.not_nul{f:Nat→Rat}(h:xD f)(h':wg f):False:=by
 obtain⟨e,he,K,hK⟩:=h;obtain⟨h1,h2⟩:=Ax he;obtain⟨K',hK'⟩:=h' _ h1;have a:=hK (max K K') (by omega);have b:=(hK' (max K K') (by omega)).2;grind
theorem xD.not_neg{f:Nat→Rat}(h:xD f)(h':xD (fun k=> -f k)):False:=by
 obtain⟨e,he,K,hK⟩:=h;obtain⟨e',he',K',hK'⟩:=h';have a:=hK (max K K') (by omega);have b:=hK' (max K K') (by omega);grind
theorem oO.unique{f:Nat→Rat}{s t:Int}(h:oO f s)(h':oO f t):s=t:=by
 have nn:∀{g:Nat→Rat},wg (fun k=> -g k)→wg g:=fun{g} h=>h.neg.congr (fun k=>by grind);rcases h with⟨rfl,h⟩|⟨rfl,h⟩|⟨rfl,h⟩<;>rcases h' with⟨rfl,h'⟩|⟨rfl,h'⟩|⟨rfl,h'⟩
 ·rfl
 ·exact(h.not_nul h').elim
 ·exact(h.not_neg h').elim
 ·exact(h'.not_nul h).elim
 ·rfl
 ·exact(h'.not_nul h.neg).elim
 ·exact(h'.not_neg h).elim
 ·exact(h.not_nul h'.neg).elim
 ·rfl
theorem oO.neg{f:Nat→Rat}{s:Int}(h:oO f s):oO (fun k=> -f k) (-s):=by
 rcases h with⟨rfl,h⟩|⟨rfl,h⟩|⟨rfl,h⟩
 ·exact .inr (.inr ⟨rfl,h.congr (fun k=>by grind)⟩)
 ·exact .inr (.inl ⟨rfl,h.neg⟩)
 ·exact .inl ⟨rfl,h⟩
theorem oO.add_nul{f g:Nat→Rat}{s:Int}(h:oO f s)(h':wg g):oO (fun k=>f k+g k) s:=by
 rcases h with⟨rfl,h⟩|⟨rfl,h⟩|⟨rfl,h⟩
 ·exact .inl ⟨rfl,h.add_nul h'⟩
 ·exact .inr (.inl ⟨rfl,h.add h'⟩)
 ·exact .inr (.inr ⟨rfl,(h.add_nul h'.neg).congr (fun k=>by grind)⟩)
theorem oO.add{f g:Nat→Rat}{s t:Int}(h:oO f s)(h':oO g t)(hst:t=0∨s=t):oO (fun k=>f k+g k) s:=by
 rcases h' with⟨rfl,h'⟩|⟨rfl,h'⟩|⟨rfl,h'⟩
 ·rcases h with⟨rfl,h⟩|⟨rfl,h⟩|⟨rfl,h⟩
  ·exact .inl ⟨rfl,h.add h'⟩
  ·simp at hst
  ·simp at hst
 ·exact h.add_nul h'
 ·rcases h with⟨rfl,h⟩|⟨rfl,h⟩|⟨rfl,h⟩
  ·simp at hst
  ·simp at hst
  ·exact .inr (.inr ⟨rfl,(h.add h').congr (fun k=>by grind)⟩)
theorem oO.mul{f g:Nat→Rat}{s t:Int}(h:oO f s)(h':oO g t)(bf:vk f)(bg:vk g):oO (fun k=>f k*g k) (s*t):=by
 rcases h with⟨rfl,h⟩|⟨rfl,h⟩|⟨rfl,h⟩<;>rcases h' with⟨rfl,h'⟩|⟨rfl,h'⟩|⟨rfl,h'⟩
 ·exact .inl ⟨rfl,h.mul h'⟩
 ·exact .inr (.inl ⟨rfl,(h'.mul bf).congr (fun k=>by grind)⟩)
 ·exact .inr (.inr ⟨rfl,(h.mul h').congr (fun k=>by grind)⟩)
 ·exact .inr (.inl ⟨rfl,h.mul bg⟩)
 ·exact .inr (.inl ⟨rfl,h.mul bg⟩)
 ·exact .inr (.inl ⟨rfl,h.mul bg⟩)
 ·exact .inr (.inr ⟨rfl,(h.mul h').congr (fun k=>by grind)⟩)
 ·exact .inr (.inl ⟨rfl,(h'.mul bf).congr (fun k=>by grind)⟩)
 ·exact .inl ⟨rfl,(h.mul h').congr (fun k=>by grind)⟩
theorem oO.congr{f g:Nat→Rat}{s:Int}(h:oO f s)(hn:wg (fun k=>g k-f k)):oO g s:=(h.add_nul hn).eqf (fun k=>by grind)
theorem xD.div{f g:Nat→Rat}(hg:xD g)(bg:vk g)(h:xD (fun k=>f k*g k)):xD f:=by
 obtain⟨e,he,K,hK⟩:=hg;obtain⟨C,hC,hb⟩:=bg;obtain⟨d,hd,K',hK'⟩:=h;obtain⟨i,hi,hic⟩:=AL hC;refine⟨d*i,fL hd hi,max K K',fun k hk=>?_⟩;have a:=hK k (by omega);have b:=hK' k (by omega);have c:=(hb k).2;have hg0:0<g k:=by grind
 have hf0:0≤f k:=by
  by_cases h:0≤f k
  ·exact h
  ·have:0≤ -f k*g k:=bE (by grind) (by grind);grind
 have h1:0≤f k*(C-g k):=bE hf0 (by grind);have h2:0≤(f k*C-d)*i:=bE (by grind) (by grind);have h3:f k*C*i=f k:=by rw[Rat.mul_assoc,Rat.mul_comm C i,hic,sS]
 grind
theorem wg.div{f g:Nat→Rat}(hg:xD g)(h:wg (fun k=>f k*g k)):wg f:=by
 intro δ hδ;obtain⟨e,he,K,hK⟩:=hg;obtain⟨K',hK'⟩:=h (δ*e) (fL hδ he);refine⟨max K K',fun k hk=>?_⟩;have a:=hK k (by omega);obtain⟨b1,b2⟩:=hK' k (by omega);constructor
 ·by_cases hh: -δ≤f k
  ·exact hh
  ·have h1:0<(-δ-f k)*g k:=fL (by grind) (by grind);have h2:0≤δ*(g k-e):=bE (by grind) (by grind);grind
 ·by_cases hh:f k≤δ
  ·exact hh
  ·have h1:0<(f k-δ)*g k:=fL (by grind) (by grind);have h2:0≤δ*(g k-e):=bE (by grind) (by grind);grind
theorem oO.div{f g:Nat→Rat}{s c:Int}(hg:oO g s)(hs:s≠0)(bg:vk g)(h:oO (fun k=>f k*g k) c):oO f (s*c):=by
 have pos:∀{g:Nat→Rat} {c:Int},xD g→vk g→oO (fun k=>f k*g k) c→oO f c:=by
  intro g c hg bg h;rcases h with⟨rfl,h⟩|⟨rfl,h⟩|⟨rfl,h⟩
  ·exact .inl ⟨rfl,hg.div bg h⟩
  ·exact .inr (.inl ⟨rfl,wg.div hg h⟩)
  ·exact .inr (.inr ⟨rfl,hg.div bg (h.congr (fun k=>by grind))⟩)
 rcases hg with⟨rfl,hg⟩|⟨rfl,hg⟩|⟨rfl,hg⟩
 ·rw[Int.one_mul];exact pos hg bg h
 ·simp at hs
 ·rw[Int.neg_one_mul];exact pos hg bg.neg (h.neg.eqf (fun k=>by grind))
theorem oO.const(x:Rat):oO (fun _=>x) x.num.sign:=by
 rw[Hc];unfold vM;by_cases h:x<0
 ·rw[if_pos h];exact .inr (.inr ⟨rfl,-x,by grind,0,fun _ _=>by grind⟩)
 ·rw[if_neg h];by_cases h0:x=0
  ·rw[if_pos h0];exact .inr (.inl ⟨rfl,fun e he=>⟨0,fun _ _=>by constructor<;>grind⟩⟩)
  ·rw[if_neg h0];exact .inl ⟨rfl,x,by grind,0,fun _ _=>by grind⟩
theorem wg.zero:wg (fun _=>0):=fun e he=>⟨0,fun _ _=>by constructor<;>grind⟩
theorem Rj(x y:Rat):oO (fun _=>x-y) (vM x y):=by
 have e:vM x y=(x-y).num.sign:=by
  rw[Hc];unfold vM;grind
 rw[e];exact oO.const _
def tk(k:Nat):Rat:=Rat.divInt 1 (2^k)
theorem BE(k:Nat):tk k*((2^k:Int):Rat)=1:=by
 have hp:(2:Int)^k≠0:=by have:=Int.pow_pos (n:=(2:Int)) (m:=k) (by decide);omega
 unfold tk;rw[←oT,l9,show(1:Rat)=Rat.divInt 1 1 from rfl,Rat.divInt_eq_divInt_iff (by simpa using hp) (by decide)];grind
theorem EJ(k:Nat):(0:Rat)<((2^k:Int):Rat):=by
 have:=Int.pow_pos (n:=(2:Int)) (m:=k) (by decide);exact Rat.intCast_pos.2 this
theorem ov(k:Nat):0<tk k:=by
 have h:=BE k;have h2:=EJ k;by_cases hh:0<tk k
 ·exact hh
 ·have:0≤ -tk k*((2^k:Int):Rat):=bE (by grind) (by grind);grind
theorem BG:wg tk:=by
 intro e he;refine⟨e.den,fun k hk=>⟨by have:=ov k;grind,?_⟩⟩;by_cases hh:tk k≤e
 ·exact hh
 ·exfalso
  have h1:0<(tk k-e)*((2^k:Int):Rat):=fL (by grind) (EJ k);have h2:=BE k;have hlt:(e.den:Int)≤2^k:=by
   have:e.den<2^e.den:=Nat.lt_two_pow_self;have h3:(2:Nat)^e.den≤2^k:=cY (by decide) hk;have:e.den≤2^k:=by omega
   exact_mod_cast this
  have h3:((e.den:Int):Rat)≤((2^k:Int):Rat):=Rat.intCast_le_intCast.2 hlt;have h4:0≤e*(((2^k:Int):Rat)-((e.den:Int):Rat)):=bE (by grind) (by grind);have h5:e*((e.den:Int):Rat)=((e.num:Int):Rat):=by
   rw[←oT,←oT]
   conv=>lhs;rw[←lJ e]
   rw[l9,Rat.divInt_eq_divInt_iff (by have:=e.den_pos;simp;omega) (by decide)];simp
  have h6:(1:Rat)≤((e.num:Int):Rat):=by
   have:0<e.num:=by rw[Rat.lt_iff]at he;simpa using he
   exact_mod_cast (show(1:Int)≤e.num by omega)
  grind
def lX(m:Int)(k:Nat):Rat:=((xS (m.natAbs*4^k):Int):Rat)*tk k
theorem MX(k:Nat):lX 0 k=0:=by
 unfold lX;rw[show(0:Int).natAbs*4^k=0 by simp,show xS 0=0 by decide];exact Rat.zero_mul _
theorem nG{m:Int}(hm:0≤m)(k:Nat):0≤lX m k∧lX m k*lX m k≤m∧(m:Rat)<(lX m k+tk k)*(lX m k+tk k):=by
 obtain⟨h1,h2⟩:=wS (m.natAbs*4^k);unfold lX;generalize xS (m.natAbs*4^k)=R at*;have ht:=ov k;have hm2:=BE k;have e4:(4:Nat)^k=2^k*2^k:=by rw[←Nat.mul_pow]
 have z1:(R:Int)*R≤m*(2^k*2^k):=by
  have:((R*R:Nat):Int)≤((m.natAbs*4^k:Nat):Int):=by exact_mod_cast h1
  rw[e4]at this
  push_cast at this
  rwa [show((m.natAbs:Int))=m by omega]at this
 have z2:m*(2^k*2^k)<((R:Int)+1)*(R+1):=by
  have:((m.natAbs*4^k:Nat):Int)<(((R+1)*(R+1):Nat):Int):=by exact_mod_cast h2
  rw[e4]at this
  push_cast at this
  rwa [show((m.natAbs:Int))=m by omega]at this
 have q1:((R:Int):Rat)*((R:Int):Rat)≤(m:Rat)*(((2^k:Int):Rat)*((2^k:Int):Rat)):=by
  rw[←dQ,←dQ,←dQ];exact Rat.intCast_le_intCast.2 z1
 have q2:(m:Rat)*(((2^k:Int):Rat)*((2^k:Int):Rat))<(((R:Int):Rat)+1)*(((R:Int):Rat)+1):=by
  have:((R:Int):Rat)+1=(((R:Int)+1:Int):Rat):=by rw[lT];rfl
  rw[this,←dQ,←dQ,←dQ];exact Rat.intCast_lt_intCast.2 z2
 have hR:(0:Rat)≤((R:Int):Rat):=by exact_mod_cast Int.natCast_nonneg R
 generalize((R:Int):Rat)=r at*;generalize((2^k:Int):Rat)=w at*;generalize tk k=t at*;have htt:0<t*t:=fL ht ht;have one:t*t*(w*w)=1:=by
  have:t*t*(w*w)=(t*w)*(t*w):=by grind
  rw[this,hm2];grind
 refine⟨bE hR (by grind),?_,?_⟩
 ·have h:=bE (show 0≤(m:Rat)*(w*w)-r*r by grind) (show 0≤t*t by grind);have e:((m:Rat)*(w*w)-r*r)*(t*t)=m*(t*t*(w*w))-r*t*(r*t):=by grind
  rw[e,one]at h;grind
 ·have h:=fL (show 0<(r+1)*(r+1)-(m:Rat)*(w*w)by grind) htt;have e:((r+1)*(r+1)-(m:Rat)*(w*w))*(t*t)=(r*t+t)*(r*t+t)-m*(t*t*(w*w)):=by grind
  rw[e,one]at h;grind
theorem uA{m:Int}(hm:0≤m):vk (lX m):=by
 refine⟨(m:Rat)+1,?_,fun k=>?_⟩
 ·have:(0:Rat)≤(m:Rat):=by exact_mod_cast hm
  grind
 ·obtain⟨h1,h2,_⟩:=nG hm k;have:(0:Rat)≤(m:Rat):=by exact_mod_cast hm
  refine⟨by grind,?_⟩;by_cases h:lX m k≤(m:Rat)+1
  ·exact h
  ·have h3:0≤(lX m k-1)*lX m k:=bE (by grind) h1;grind
theorem Qr(k:Nat):tk k≤1:=by
 by_cases h:tk k≤1
 ·exact h
 ·have h1:=BE k;have h2:(1:Rat)≤((2^k:Int):Rat):=by
   have:=Int.pow_pos (n:=(2:Int)) (m:=k) (by decide)
   exact_mod_cast (show(1:Int)≤2^k by omega)
  have h3:0≤(tk k-1)*(((2^k:Int):Rat)-1):=bE (by grind) (by grind);grind
theorem DH{m:Int}(hm:0≤m):wg (fun k=>lX m k*lX m k-m):=by
 intro e he;have hm':(0:Rat)≤(m:Rat):=by exact_mod_cast hm
 obtain⟨d,hd,hdc⟩:=AL (c:=2*((m:Rat)+1)+1) (by grind);obtain⟨K,hK⟩:=BG (e*d) (fL he hd);refine⟨K,fun k hk=>?_⟩;obtain⟨h1,h2,h3⟩:=nG hm k;have ht:=ov k;have ht1:=Qr k;have hle:=(hK k hk).2;refine⟨?_,by grind⟩;have ha:lX m k≤(m:Rat)+1:=by
  by_cases h:lX m k≤(m:Rat)+1
  ·exact h
  ·have h3:0≤(lX m k-1)*lX m k:=bE (by grind) h1;grind
 show-e≤lX m k*lX m k-(m:Rat);generalize lX m k=a at*;generalize tk k=t at*;have g1:0≤(m+1-a)*t:=bE (by grind) (by grind);have g2:0≤t*(1-t):=bE (by grind) (by grind);have s1:(m:Rat)-a*a≤(2*((m:Rat)+1)+1)*t:=by grind
 have s2:(2*((m:Rat)+1)+1)*t≤e:=by
  have g3:0≤(e*d-t)*(2*((m:Rat)+1)+1):=bE (by grind) (by grind);have g4:e*d*(2*((m:Rat)+1)+1)=e:=by rw[Rat.mul_assoc,hdc,sS]
  generalize 2*((m:Rat)+1)+1=c at*;clear g1 g2 h3 h2 ha s1 hK;have g5:(e*d-t)*c=e*d*c-c*t:=by grind
  rw[g5,g4]at g3;grind
 clear g1 g2 h3 hdc;grind
theorem Rq{m:Int}(hm:0<m):xD (lX m):=by
 refine⟨1,by decide+kernel,0,fun k _=>?_⟩;obtain⟨h1,h2⟩:=wS (m.natAbs*4^k);unfold lX;have e4:(4:Nat)^k=2^k*2^k:=by rw[←Nat.mul_pow]
 have hge:2^k≤xS (m.natAbs*4^k):=by
  by_cases h:2^k≤xS (m.natAbs*4^k)
  ·exact h
  ·have g1:(xS (m.natAbs*4^k)+1)*(xS (m.natAbs*4^k)+1)≤2^k*2^k:=aY (by omega) (by omega);have g2:1*4^k≤m.natAbs*4^k:=cf _ (by omega);omega
 have h3:((2^k:Int):Rat)≤((xS (m.natAbs*4^k):Int):Rat):=Rat.intCast_le_intCast.2 (by exact_mod_cast hge);have h4:0≤(((xS (m.natAbs*4^k):Int):Rat)-((2^k:Int):Rat))*tk k:=bE (by grind) (by have:=ov k;grind);have h5:=BE k;grind
theorem Dk{m:Int}(hm:0≤m){f:Nat→Rat}{t:Int}(h:oO f t)(bf:vk f):oO (fun k=>f k*lX m k) (if m.sign=0 then 0 else t):=by
 by_cases h0:m=0
 ·subst h0;rw[if_pos (by rfl)];exact .inr (.inl ⟨rfl,wg.zero.congr (fun k=>by rw[MX,Rat.mul_zero])⟩)
 ·rw[if_neg (by rw[fV (by omega)];decide)];have:=h.mul (.inl ⟨rfl,Rq (m:=m) (by omega)⟩) bf (uA hm)
  rwa [Int.mul_one]at this
theorem oO.tri{f:Nat→Rat}{s:Int}(h:oO f s):s=1∨s=0∨s= -1:=by
 rcases h with⟨h,_⟩|⟨h,_⟩|⟨h,_⟩<;>omega
theorem KB{f g:Nat→Rat}{s t c:Int}(hf:oO f s)(hg:oO g t)(bf:vk f)(bg:vk g)(hc:oO (fun k=>f k*f k-g k*g k) c):
  oO (fun k=>f k+g k) (if t=0∨s=t then s else if s=0 then t else s*c):=by
 by_cases h1:t=0∨s=t
 ·rw[if_pos h1];exact hf.add hg h1
 ·rw[if_neg h1];by_cases h2:s=0
  ·rw[if_pos h2];exact(hg.add hf (.inl h2)).eqf (fun k=>by grind)
  ·rw[if_neg h2];have h3: -t=s:=by
    have:=hf.tri;have:=hg.tri;omega
   have hd:oO (fun k=>f k+ -g k) s:=hf.add hg.neg (.inr h3.symm);exact hd.div h2 (bf.add bg.neg) (hc.eqf (fun k=>by grind))
def v1(x y:Rat)(m:Int)(k:Nat):Rat:=x+y*lX m k
theorem BH{m:Int}(hm:0≤m)(x y:Rat):vk (v1 x y m):=(vk.const x).add ((vk.const y).mul (uA hm))
theorem W8{m:Int}(hm:0≤m)(x y:Rat):oO (v1 x y m) (BB x y m):=by
 have hy:=Dk hm (oO.const y) (vk.const y);refine(KB (oO.const x) hy (vk.const x) ((vk.const y).mul (uA hm)) (c:=vM (x*x) (y*y*m)) ?_);refine(Rj (x*x) (y*y*m)).congr ?_;exact((DH hm).mul (vk.const (-(y*y)))).congr (fun k=>by grind)
def Sn.v(S:Sn)(k:Nat):Rat:=v1 S.p S.q S.m k+v1 S.r S.s S.m k*lX S.n k
theorem ZW(S:Sn)(hm:0≤S.m)(hn:0≤S.n):oO S.v S.sg:=by
 have hg:=Dk hn (W8 hm S.r S.s) (BH hm _ _);refine(KB (W8 hm S.p S.q) hg (BH hm _ _) ((BH hm _ _).mul (uA hn)) (c:=BB (S.p*S.p+S.m*S.q*S.q-S.n*(S.r*S.r+S.m*S.s*S.s)) (2*(S.p*S.q-S.n*S.r*S.s)) S.m) ?_);refine(W8 hm _ _).congr ?_;have n1:=(DH hm).mul (vk.const (S.q*S.q-S.n*S.s*S.s));have n2:=(DH hn).mul (((BH hm S.r S.s).mul (BH hm S.r S.s)).neg);exact(n1.add n2).congr (fun k=>by unfold v1;grind)
theorem SE(e:Rat):e*((e.den:Int):Rat)=((e.num:Int):Rat):=by
 rw[←oT,←oT]
 conv=>lhs;rw[←lJ e]
 rw[l9,Rat.divInt_eq_divInt_iff (by have:=e.den_pos;simp;omega) (by decide)];simp
theorem Gb{a b:Rat}(hb:0≤b)(h:a*a≤b*b):a≤b:=by
 by_cases hh:a≤b
 ·exact hh
 ·have:0<(a-b)*(a+b):=fL (by grind) (by grind);grind
theorem vx{a d:Rat}(hd:0<d)(h:0≤a*d):0≤a:=by
 by_cases hh:0≤a
 ·exact hh
 ·have:=fL (show 0< -a by grind) hd;grind
theorem PX{y N D A T R g e:Rat}(hD:0<D)(hy:y*D=N)(hN:0≤N)(hA1:A*D≤T)(hA2:T+1≤(A+1)*D)(hT:0≤T)(t1:T*T≤N*N*R*65536)(t2:N*N*R*65536<(T+1)*(T+1))
  (hg:0≤g)(g1:g*g≤R)(g2:R<(g+e)*(g+e))(he:0≤e):A≤256*(y*g)+256*(y*e)∧256*(y*g)≤A+1:=by
 have hNN:0≤N*N:=bE hN hN;have a1:256*N*g≤T+1:=Gb (by grind) (by
  have:=bE hNN (show 0≤R-g*g by grind);grind)
 have a2:T≤256*N*(g+e):=Gb (bE (by grind) (by grind)) (by
  have:=bE hNN (show 0≤(g+e)*(g+e)-R by grind);grind)
 constructor
 ·have:=vx hD (show 0≤(256*(y*g)+256*(y*e)-A)*D by
   rw[show(256*(y*g)+256*(y*e)-A)*D=256*(y*D)*(g+e)-A*D by grind,hy];grind)
  grind
 ·have:=vx hD (show 0≤(A+1-256*(y*g))*D by
   rw[show(A+1-256*(y*g))*D=(A+1)*D-256*(y*D)*g by grind,hy];grind)
  grind
theorem wY(a b:Nat):(((a*b:Nat):Int):Rat)=((a:Int):Rat)*((b:Int):Rat):=by
 rw[dP,dQ]
theorem pB{a b:Nat}(h:a≤b):((a:Int):Rat)≤((b:Int):Rat):=Rat.intCast_le_intCast.2 (by exact_mod_cast h)
theorem IE{a b:Nat}(h:a<b):((a:Int):Rat)<((b:Int):Rat):=Rat.intCast_lt_intCast.2 (by exact_mod_cast h)
theorem Eb(a:Nat):(((a+1:Nat):Int):Rat)=((a:Int):Rat)+1:=by
 rw[Int.natCast_add,lT];rfl
theorem xo(x:Rat){R:Int}(hR:0≤R){g e:Nat→Rat}(hg:∀k,0≤g k∧g k*g k≤(R:Rat)∧(R:Rat)<(g k+e k)*(g k+e k))(Vy:∀k,0≤e k)(he:wg e):
  ∃K,∀k,K≤k→ -1≤((lg x R 8:Int):Rat)-256*(x*g k)∧((lg x R 8:Int):Rat)-256*(x*g k)≤1:=by
 obtain⟨h1,h2⟩:=wS (x.num.natAbs*x.num.natAbs*R.natAbs*2^(2*8));unfold lg;generalize xS (x.num.natAbs*x.num.natAbs*R.natAbs*2^(2*8))=T at*;have aby:=x.den_pos;have hdiv:=fP T x.den;have aeG:=fB T aby;have e1:((T:Nat):Int)/(x.den:Int)=((T/x.den:Nat):Int):=by omega
 simp only[e1];generalize T/x.den=A at*;have hA1:A*x.den≤T:=by rw[fg];omega
 have hA2:T+1≤(A+1)*x.den:=by rw[dM,fg A];omega
 have q1:=pB hA1;have q2:=pB hA2;have ep:(((2^(2*8):Nat):Int):Rat)=65536:=by decide+kernel
 generalize 2^(2*8)=P at*;have q3:=pB h1;have q4:=IE h2;simp only[wY,Eb]at q1 q2 q3 q4;have eR:((R.natAbs:Int):Rat)=(R:Rat):=by rw[show(R.natAbs:Int)=R by omega]
 rw[eR,ep]at q3 q4;have hD:(0:Rat)<((x.den:Int):Rat):=by exact_mod_cast (show(0:Int)<x.den by omega)
 have hN:(0:Rat)≤((x.num.natAbs:Int):Rat):=by exact_mod_cast (show(0:Int)≤x.num.natAbs by omega)
 have hT:(0:Rat)≤((T:Int):Rat):=by exact_mod_cast (show(0:Int)≤T by omega)
 have hrd:=SE x;have key:∀y:Rat,y*((x.den:Int):Rat)=((x.num.natAbs:Int):Rat)→∃K,∀k,K≤k→ -1≤((A:Int):Rat)-256*(y*g k)∧((A:Int):Rat)-256*(y*g k)≤1:=by
  intro y hy;obtain⟨K,hK⟩:=(he.mul (vk.const (256*y))) 1 (by decide+kernel);refine⟨K,fun k hk=>?_⟩;obtain⟨g1,g2,g3⟩:=hg k;have:=PX hD hy hN q1 q2 hT q3 q4 g1 g2 g3 (Vy k);have h3:=hK k hk;constructor<;>grind
 by_cases hs:x.num.sign<0
 ·rw[if_pos hs];have hneg:x.num<0:=Int.sign_neg_iff.1 hs;obtain⟨K,hK⟩:=key (-x) (by
   rw[Rat.neg_mul,hrd,←s_];exact dH (fun z:Int=>(z:Rat)) (show-x.num=(x.num.natAbs:Int)by omega))
  refine⟨K,fun k hk=>?_⟩;have:=hK k hk;rw[s_];constructor<;>grind
 ·rw[if_neg hs];have hpos:¬x.num<0:=fun h=>hs (Int.sign_neg_iff.2 h);exact key x (by rw[hrd];exact dH (fun z:Int=>(z:Rat)) (show x.num=(x.num.natAbs:Int)by omega))
theorem Rr{m n:Int}(hm:0≤m)(hn:0≤n)(k:Nat):0≤lX m k*lX n k∧(lX m k*lX n k)*(lX m k*lX n k)≤((m*n:Int):Rat)∧((m*n:Int):Rat)<(lX m k*lX n k+tk k*(lX m k+lX n k+tk k))*(lX m k*lX n k+tk k*(lX m k+lX n k+tk k)):=by
 obtain⟨a1,a2,a3⟩:=nG hm k;obtain⟨b1,b2,b3⟩:=nG hn k;have ht:=ov k;have hm':(0:Rat)≤(m:Rat):=by exact_mod_cast hm
 have Ob:(0:Rat)≤(n:Rat):=by exact_mod_cast hn
 rw[dQ];generalize lX m k=u at*;generalize lX n k=v at*;generalize tk k=t at*;generalize(m:Rat)=m' at*;generalize(n:Rat)=n' at*;refine⟨bE a1 b1,?_,?_⟩
 ·have h1:=bE (show 0≤m'-u*u by grind) Ob;have h2:=bE (bE a1 a1) (show 0≤n'-v*v by grind);grind
 ·have h1:=bE (show 0≤(u+t)*(u+t)-m' by grind) Ob;have h2:0<(u+t)*(u+t)*((v+t)*(v+t)-n'):=fL (fL (by grind) (by grind)) (by grind);have e:u*v+t*(u+v+t)=(u+t)*(v+t):=by grind
  rw[e];grind
theorem OX(k:Nat):(0:Rat)≤1∧(1:Rat)*1≤((1:Int):Rat)∧((1:Int):Rat)<(1+tk k)*(1+tk k):=by
 have ht:=ov k;have e:((1:Int):Rat)=1:=rfl;rw[e];have:=fL ht ht;refine⟨by decide+kernel,by grind,by grind⟩
theorem Gk(S:Sn)(hm:0≤S.m)(hn:0≤S.n):∃K,∀k,K≤k→256*((S.low:Int):Rat)-4≤256*S.v k∧256*S.v k≤256*((S.low:Int):Rat)+259:=by
 have hmn:0≤S.m*S.n:=eT hm hn;obtain⟨K1,h1⟩:=xo S.p (R:=1) (by decide) (g:=fun _=>1) (e:=tk) OX (fun k=>Rat.le_of_lt (ov k)) BG;obtain⟨K2,h2⟩:=xo S.q hm (g:=lX S.m) (e:=tk) (nG hm) (fun k=>Rat.le_of_lt (ov k)) BG;obtain⟨K3,h3⟩:=xo S.r hn (g:=lX S.n) (e:=tk) (nG hn) (fun k=>Rat.le_of_lt (ov k)) BG;obtain⟨K4,h4⟩:=xo S.s hmn (g:=fun k=>lX S.m k*lX S.n k) (e:=fun k=>tk k*(lX S.m k+lX S.n k+tk k)) (Rr hm hn)
  (fun k=>bE (Rat.le_of_lt (ov k)) (by
   have:=ov k;have:=(nG hm k).1;have:=(nG hn k).1;grind))
  (BG.mul (((uA hm).add (uA hn)).add ⟨1,by decide+kernel,fun k=>by
   have:=ov k;have:=Qr k;constructor<;>grind⟩))
 refine⟨max (max K1 K2) (max K3 K4),fun k hk=>?_⟩;have g1:=h1 k (by omega);have g2:=h2 k (by omega);have g3:=h3 k (by omega);have g4:=h4 k (by omega);have hz:256*S.low≤0+lg S.p 1 8+lg S.q S.m 8+lg S.r S.n 8+lg S.s (S.m*S.n) 8∧0+lg S.p 1 8+lg S.q S.m 8+lg S.r S.n 8+lg S.s (S.m*S.n) 8≤256*S.low+255:=by
  unfold Sn.low;omega
 have z1:((256*S.low:Int):Rat)≤((0+lg S.p 1 8+lg S.q S.m 8+lg S.r S.n 8+lg S.s (S.m*S.n) 8:Int):Rat):=Rat.intCast_le_intCast.2 hz.1;have z2:((0+lg S.p 1 8+lg S.q S.m 8+lg S.r S.n 8+lg S.s (S.m*S.n) 8:Int):Rat)≤((256*S.low+255:Int):Rat):=Rat.intCast_le_intCast.2 hz.2;simp only[lT,dQ]at z1 z2;have c0:((0:Int):Rat)=0:=rfl;have c1:((256:Int):Rat)=256:=rfl;have c2:((255:Int):Rat)=255:=rfl;rw[c0,c1]at z1;rw[c0,c1,c2]at z2;have ev:S.v k=S.p*1+S.q*lX S.m k+S.r*lX S.n k+S.s*(lX S.m k*lX S.n k):=by
  unfold Sn.v v1;grind
 rw[ev];generalize((lg S.p 1 8:Int):Rat)=a at*;generalize((lg S.q S.m 8:Int):Rat)=b at*;generalize((lg S.r S.n 8:Int):Rat)=c at*;generalize((lg S.s (S.m*S.n) 8:Int):Rat)=d at*;generalize((S.low:Int):Rat)=l at*;generalize S.p*1=x at*;generalize S.q*lX S.m k=y at*;generalize S.r*lX S.n k=z at*;generalize S.s*(lX S.m k*lX S.n k)=w at*;constructor<;>grind
theorem z9(S:Sn)(q:Int)(k:Nat):(S.lessq q).v k=S.v k-(q:Rat):=by
 unfold Sn.v v1 Sn.lessq;grind
theorem Yy(S:Sn)(hm:0≤S.m)(hn:0≤S.n):(S.lessq (S.low-1)).sg=1:=by
 obtain⟨K,hK⟩:=Gk S hm hn;refine(ZW (S.lessq (S.low-1)) hm hn).unique (.inl ⟨rfl,Rat.divInt 1 2,by decide+kernel,K,fun k hk=>?_⟩);have:=hK k hk;rw[z9,Rat.intCast_sub];have e:((1:Int):Rat)=1:=rfl;have h2:Rat.divInt 1 2+Rat.divInt 1 2=1:=by decide+kernel
 rw[e];grind
theorem Yx(S:Sn)(hm:0≤S.m)(hn:0≤S.n):(S.lessq (S.low+2)).sg= -1:=by
 obtain⟨K,hK⟩:=Gk S hm hn;refine(ZW (S.lessq (S.low+2)) hm hn).unique (.inr (.inr ⟨rfl,Rat.divInt 1 2,by decide+kernel,K,fun k hk=>?_⟩));have:=hK k hk;simp only;rw[z9,lT];have e:((2:Int):Rat)=2:=rfl;have h2:Rat.divInt 1 2+Rat.divInt 1 2=1:=by decide+kernel
 rw[e];grind
def Sn.fl(S:Sn):Int:=if(S.lessq S.low).sg<0 then S.low-1 else if(S.lessq (S.low+1)).sg<0 then S.low else S.low+1
def Sn.nr(S:Sn):Int:=if(S.half.lessq S.half.fl).sg=0∧(S.half.fl % 2).sign≠0 then S.half.fl-1 else S.half.fl
section
variable{fin:VS→List aD→Prop}{Γ:List aD}{L M K:Nat}
theorem ZL(x:Sw){S:Sn} [aW (SF x) (L,S) Γ](hm:0≤S.m)(hn:0≤S.n)(hL:L≤300:=by omega):
  aw tb Tryz.prog 254 [sv x] Γ (o0 (10*L+210) S.fl):=by
 refine aw.of_W aB Tryz.func254 rfl ?_;have z1:=Yy S hm hn;have z2:=Yx S hm hn;have AA:S.low=((((0+(lg S.p 1 8))+(lg S.q S.m 8))+(lg S.r S.n 8))+(lg S.s (S.m*S.n) 8))/256:=rfl;refine W.more rfl (zx (L':=0)) ?_;refine td x rfl ?_;refine aq [] (cU 1 (by omega) (by omega)) ?_;rintro _ _ ⟨u1,d1,rfl,rfl⟩;refine aq [] (mw x.u x.d x.v x.e) ?_;rintro _ _ ⟨u2,d2,rfl,rfl⟩;refine j2 [] 6 ?_;refine aq [30] (xe x.p.n x.p.a x.p.m x.p.b u1 d1 8 rfl) ?_;rintro _ _ ⟨u3,d3,rfl,rfl⟩;refine aq [] (mu ⟨none,0,0⟩ false u3 d3) ?_;rintro _ _ ⟨u4,d4,rfl,rfl⟩;refine aq [30] (xe x.q.n x.q.a x.q.m x.q.b x.u x.d 8 rfl) ?_;rintro _ _ ⟨u5,d5,rfl,rfl⟩;refine aq [] (mu u4 d4 u5 d5) ?_;rintro _ _ ⟨u6,d6,rfl,rfl⟩;refine aq [30] (xe x.r.n x.r.a x.r.m x.r.b x.v x.e 8 rfl) ?_;rintro _ _ ⟨u7,d7,rfl,rfl⟩;refine aq [] (mu u6 d6 u7 d7) ?_;rintro _ _ ⟨u8,d8,rfl,rfl⟩;refine aq [30] (xe x.s.n x.s.a x.s.m x.s.b u2 d2 8 rfl) ?_;rintro _ _ ⟨u9,d9,rfl,rfl⟩;refine aq [] (mu u8 d8 u9 d9) ?_;rintro _ _ ⟨u10,d10,rfl,rfl⟩;refine aq [30] (cU 256 (by omega) (by omega)) ?_;rintro _ _ ⟨u11,d11,rfl,rfl⟩;refine aq [] (i_ u10 d10 u11 d11 (by omega)) ?_;rintro _ _ ⟨u12,d12,v12,e12,rfl,rfl⟩;refine j2 [] 6 ?_;refine aq [] (uQ x u12 d12) ?_;rintro _ _ ⟨rfl,rfl⟩;by_cases h1:(S.lessq S.low).sg<0
 ·refine bj [] 50 ((decide ((S.lessq (((((0+(lg S.p 1 8))+(lg S.q S.m 8))+(lg S.r S.n 8))+(lg S.s (S.m*S.n) 8))/256)).sg<0))) (by rw[fM,←AA];exact h1) ?_;refine aq [50] (IS u12 d12 u1 d1) ?_;rintro _ _ ⟨u14,d14,rfl,rfl⟩;refine aq [] (uQ x u14 d14) ?_;rintro _ _ ⟨rfl,rfl⟩;refine aQ [] 50 ((decide ((S.lessq ((((((0+(lg S.p 1 8))+(lg S.q S.m 8))+(lg S.r S.n 8))+(lg S.s (S.m*S.n) 8))/256)-1)).sg<0))) (by rw[aX,←AA];omega) ?_;refine j2 [50] 6 ?_;refine aq [] (mu u14 d14 u1 d1) ?_;rintro _ _ ⟨u16,d16,rfl,rfl⟩;refine aq [] (uQ x u16 d16) ?_;rintro _ _ ⟨rfl,rfl⟩;refine aQ [] 59 (!(decide ((S.lessq (((((((0+(lg S.p 1 8))+(lg S.q S.m 8))+(lg S.r S.n 8))+(lg S.s (S.m*S.n) 8))/256)-1)+1)).sg<0))) (by rw[vE,dp,←AA,show S.low-1+1=S.low by omega];exact h1) ?_;exact W.r [59] (zv u14 d14) ⟨_,_,rfl,rfl⟩ (lq (by omega) (by unfold Sn.fl;rw[if_pos h1,AA]))
 ·by_cases h2:(S.lessq (S.low+1)).sg<0
  ·refine aQ [] 50 ((decide ((S.lessq (((((0+(lg S.p 1 8))+(lg S.q S.m 8))+(lg S.r S.n 8))+(lg S.s (S.m*S.n) 8))/256)).sg<0))) (by rw[aX,←AA];exact h1) ?_;refine j2 [50] 6 ?_;refine aq [] (mu u12 d12 u1 d1) ?_;rintro _ _ ⟨u14,d14,rfl,rfl⟩;refine aq [] (uQ x u14 d14) ?_;rintro _ _ ⟨rfl,rfl⟩;refine aQ [] 59 (!(decide ((S.lessq ((((((0+(lg S.p 1 8))+(lg S.q S.m 8))+(lg S.r S.n 8))+(lg S.s (S.m*S.n) 8))/256)+1)).sg<0))) (by rw[vE,dp,←AA];exact h2) ?_;exact W.r [59] (zv u12 d12) ⟨_,_,rfl,rfl⟩ (lq (by omega) (by unfold Sn.fl;rw[if_neg h1,if_pos h2,AA]))
  ·refine aQ [] 50 ((decide ((S.lessq (((((0+(lg S.p 1 8))+(lg S.q S.m 8))+(lg S.r S.n 8))+(lg S.s (S.m*S.n) 8))/256)).sg<0))) (by rw[aX,←AA];exact h1) ?_;refine j2 [50] 6 ?_;refine aq [] (mu u12 d12 u1 d1) ?_;rintro _ _ ⟨u14,d14,rfl,rfl⟩;refine aq [] (uQ x u14 d14) ?_;rintro _ _ ⟨rfl,rfl⟩;refine bj [] 59 (!(decide ((S.lessq ((((((0+(lg S.p 1 8))+(lg S.q S.m 8))+(lg S.r S.n 8))+(lg S.s (S.m*S.n) 8))/256)+1)).sg<0))) (by rw[cD,aX,←AA];exact h2) ?_;refine aq [59] (mu u12 d12 u1 d1) ?_;rintro _ _ ⟨u16,d16,rfl,rfl⟩;refine aq [] (mu u16 d16 u1 d1) ?_;rintro _ _ ⟨u17,d17,rfl,rfl⟩;refine aq [] (uQ x u17 d17) ?_;rintro _ _ ⟨rfl,rfl⟩;refine aQ [] 59 (!(decide ((S.lessq (((((((0+(lg S.p 1 8))+(lg S.q S.m 8))+(lg S.r S.n 8))+(lg S.s (S.m*S.n) 8))/256)+1)+1)).sg<0))) (by rw[vE,dp,←AA,show S.low+1+1=S.low+2 by omega];omega) ?_;exact W.r [59] (zv u16 d16) ⟨_,_,rfl,rfl⟩ (lq (by omega) (by unfold Sn.fl;rw[if_neg h1,if_neg h2,AA]))
theorem Kj(x:Sw){S:Sn} [aW (SF x) (L,S) Γ](hm:0≤S.m)(hn:0≤S.n)(hL:L≤280:=by omega):
  aw tb Tryz.prog 209 [sv x] Γ (o0 (10*L+520) S.nr):=by
 refine aw.of_W aB Tryz.func209 rfl ?_;refine td x rfl ?_;refine aq [] (Bb 1 2 (by omega) (by omega) (by omega) (by omega) (by omega)) ?_;rintro _ _ ⟨n1,a1,m1,b1,rfl,rfl⟩;refine aq [] (ft x.p.n x.p.a x.p.m x.p.b n1 a1 m1 b1) ?_;rintro _ _ ⟨n2,a2,m2,b2,rfl,rfl⟩;refine gT [] (Lf (x:=⟨x.u,x.d,x.v,x.e,⟨n2,a2,m2,b2⟩,x.q,x.r,x.s⟩) (L':=L+10) (S:=S.half) rfl rfl rfl rfl rfl rfl (by omega)) (ZL (S:=S.half) ⟨x.u,x.d,x.v,x.e,⟨n2,a2,m2,b2⟩,x.q,x.r,x.s⟩ hm hn) ?_;rintro _ _ ⟨u3,d3,rfl,rfl⟩;refine aq [] (cr u3 d3) ?_;rintro _ _ ⟨n4,a4,m4,b4,rfl,rfl⟩;refine aq [] (En n2 a2 m2 b2 n4 a4 m4 b4) ?_;rintro _ _ ⟨n5,a5,m5,b5,rfl,rfl⟩;refine aq [] (cU 2 (by omega) (by omega)) ?_;rintro _ _ ⟨u6,d6,rfl,rfl⟩;refine aq [] (i_ u3 d3 u6 d6 (by omega)) ?_;rintro _ _ ⟨u7,d7,v7,e7,rfl,rfl⟩;refine gT [] (Lf (x:=⟨x.u,x.d,x.v,x.e,⟨n5,a5,m5,b5⟩,x.q,x.r,x.s⟩) (L':=12*L+400) (S:=(S.half.lessq S.half.fl)) rfl rfl rfl rfl rfl rfl (by omega)) (Kk ⟨x.u,x.d,x.v,x.e,⟨n5,a5,m5,b5⟩,x.q,x.r,x.s⟩) ?_;rintro _ _ ⟨rfl,rfl⟩;refine W.d [] 42 ((S.half.lessq S.half.fl).sg==0) (fun hb=>?_) (fun hb=>?_)
 ·have hb':=hb;refine aq [42] (ns v7 e7) ?_;rintro _ _ ⟨rfl,rfl⟩;refine W.d [42] 46 (((S.half.fl % 2)).sign != 0) (fun hb=>?_) (fun hb=>?_)
  ·skip
   refine aq [46] (cU 1 (by omega) (by omega)) ?_;rintro _ _ ⟨u10,d10,rfl,rfl⟩;refine aq [] (IS u3 d3 u10 d10) ?_;rintro _ _ ⟨u11,d11,rfl,rfl⟩;exact W.r [] (zv u11 d11) ⟨_,_,rfl,rfl⟩ (lq (by omega) (by unfold Sn.nr;rw[if_pos ⟨eq_of_beq hb',fun h=>by rw[h]at hb;simp at hb⟩]))
  ·skip
   exact W.r [46] (zv u3 d3) ⟨_,_,rfl,rfl⟩ (lq (by omega) (by unfold Sn.nr;rw[if_neg (fun h=>h.2 (by simpa using hb))]))
 ·skip
  exact W.r [46,42] (zv u3 d3) ⟨_,_,rfl,rfl⟩ (lq (by omega) (by unfold Sn.nr;rw[if_neg (fun h=>kB hb h.1)]))
end
section
variable{fin:VS→List aD→Prop}{Γ:List aD}{L M K:Nat}
theorem Bg(u:Sl)(d:Bool)(v:Sl)(e:Bool)(B:Nat)(a:Qw){m n:Int}{x:Rat}{L1:Nat} [h1:aW (ZF u d) (L,m) Γ] [h2:aW (ZF v e) (M,n) Γ] [hr:aW (ek B) ([(⟨a.n,a.a,a.m,a.b,x⟩:QE)].flatMap QR.cells) Γ] [ha:aW (QG a) (L1,x) Γ](hm:0≤m)(hn:0≤n)
  (hL:L≤100000:=by omega)(hM:M≤100000:=by omega):
  aw tb Tryz.prog 148 [zv u d,zv v e,.slice (some ⟨B,0,none⟩) 1 1] Γ (Xx (max (max L M) L1) ⟨m,n,x,0,0,0⟩):=
 (PJ (Γ:=OL QR (some ⟨B,0,none⟩) (L1,[(⟨a.n,a.a,a.m,a.b,x⟩:QE)])::Γ) u d v e (some ⟨B,0,none⟩) 1 1 rfl (by omega) hm hn).weak (fun I w hd hh=>aG.cons ⟨fun q hq=>by
  simp at hq;subst hq;exact ha.p hh,RA.of_row (hr.p hh) (fun _ _ h=>h)⟩ hh) (fun _ _ h=>h)
end
def bq(b:Nat)(q:Rat):Prop:=q.num.natAbs<2^b∧q.den<2^b
theorem fu{a b:Nat}(h:a≤b):2^a≤2^b:=cY (by decide) h
theorem bq.mono{a b:Nat}{q:Rat}(h:bq a q)(hab:a≤b):bq b q:=⟨cM h.1 (fu hab),cM h.2 (fu hab)⟩
theorem bq.of{n d:Int}{q:Rat}{b:Nat}(hd:0<d)(h:q=Rat.divInt n d)(h1:n.natAbs<2^b)(h2:d.natAbs<2^b):bq b q:=by
 obtain⟨g,hg,e1,e2⟩:=xj hd h;have hn:n.natAbs=q.num.natAbs*g.natAbs:=by rw[e1,cK]
 have hdd:d.natAbs=q.den*g.natAbs:=by rw[e2,cK];rfl
 have hg1:1≤g.natAbs:=by omega
 constructor
 ·have:q.num.natAbs*1≤q.num.natAbs*g.natAbs:=cG _ hg1;omega
 ·have:q.den*1≤q.den*g.natAbs:=cG _ hg1;omega
theorem bq.mul{a b:Nat}{x y:Rat}(hx:bq a x)(hy:bq b y):bq (a+b) (x*y):=by
 refine bq.of (n:=x.num*y.num) (d:=x.den*y.den) (by have:=gB x;have:=gB y;exact Int.mul_pos (by assumption) (by assumption)) (PW x y).symm ?_ ?_
 ·rw[cK,cP];exact rD hx.1 hy.1
 ·rw[cK,cP];exact rD hx.2 hy.2
theorem bq.add{a b:Nat}{x y:Rat}(hx:bq a x)(hy:bq b y):bq (a+b+1) (x+y):=by
 refine bq.of (n:=x.num*y.den+y.num*x.den) (d:=x.den*y.den) (by have:=gB x;have:=gB y;exact Int.mul_pos (by assumption) (by assumption)) (PV x y).symm ?_ ?_
 ·have h1:(x.num*(y.den:Int)).natAbs<2^a*2^b:=by
   rw[cK];exact rD hx.1 hy.2
  have h2:(y.num*(x.den:Int)).natAbs<2^a*2^b:=by
   rw[cK,fg (2^a)];exact rD hy.1 hx.2
  rw[eA,cP];omega
 ·rw[cK,eA,cP];have:(x.den:Int).natAbs*(y.den:Int).natAbs<2^a*2^b:=rD hx.2 hy.2;omega
theorem bq.neg{a:Nat}{x:Rat}(hx:bq a x):bq a (-x):=by
 refine⟨?_,?_⟩
 ·rw[Rat.neg_num,Int.natAbs_neg];exact hx.1
 ·rw[Rat.neg_den];exact hx.2
theorem bq.int{b:Nat}{z:Int}(h:z.natAbs<2^b)(hb:1≤b):bq b (z:Rat):=⟨h,by
 show 1<2^b;exact Nat.one_lt_two_pow (by omega)⟩
theorem bq.zero(b:Nat)(hb:1≤b):bq b 0:=bq.int (z:=0) (kr b) hb
theorem NF.tight{s:Sl}{L L' x:Nat}{I:fQ}{w:World}(h:(NF s (L,x)).p I w)(hx:x<4294967296^L'):(NF s (L',x)).p I w:=by
 obtain⟨⟨l,hi,hd,hn,hv⟩,h2,h3⟩:=h;refine⟨⟨l,hi,hd,hn,hv⟩,h2,?_⟩;have:=hn.len_of_lt (B:=4294967296) (k:=L') (by decide) (by rw[hv];exact hx);have:=hi.1;omega
theorem HU{x b:Nat}(h:x<2^b):x<4294967296^(b/32+1):=by
 have e:4294967296^(b/32+1)=2^(32*(b/32+1)):=by rw[show 4294967296=2^32 by decide,←Nat.pow_mul]
 rw[e];exact cM h (fu (by omega))
theorem ZF.tight{s:Sl}{d:Bool}{L b:Nat}{x:Int}{I:fQ}{w:World}(h:(ZF s d (L,x)).p I w)(hx:x.natAbs<2^b):(ZF s d (b/32+1,x)).p I w:=⟨NF.tight h.1 (HU hx),h.2⟩
theorem QF.tight{n m:Sl}{a b:Bool}{L k:Nat}{q:Rat}{I:fQ}{w:World}(h:(QF n a m b (L,q)).p I w)(hq:bq k q):(QF n a m b (k/32+1,q)).p I w:=by
 obtain⟨y,h1,h2,hy⟩:=h;refine⟨y,ZF.tight h1 hq.1,ZF.tight h2 ?_,hy⟩;rcases hy with rfl|⟨rfl,_⟩
 ·exact hq.2
 ·exact kr k
def bS(b:Nat)(S:Sn):Prop:=S.m.natAbs<2^b∧S.n.natAbs<2^b∧bq b S.p∧bq b S.q∧bq b S.r∧bq b S.s
theorem bS.mono{a b:Nat}{S:Sn}(h:bS a S)(hab:a≤b):bS b S:=
 ⟨cM h.1 (fu hab),cM h.2.1 (fu hab),h.2.2.1.mono hab,h.2.2.2.1.mono hab,h.2.2.2.2.1.mono hab,h.2.2.2.2.2.mono hab⟩
theorem bS.add{b c:Nat}{S T:Sn}(h:bS b S)(g:bS c T):bS (b+c+1) (S.add T):=by
 obtain⟨h1,h2,h3,h4,h5,h6⟩:=h;obtain⟨g1,g2,g3,g4,g5,g6⟩:=g;exact⟨cM h1 (fu (by omega)),cM h2 (fu (by omega)),h3.add g3,h4.add g4,h5.add g5,h6.add g6⟩
theorem bS.neg{b:Nat}{S:Sn}(h:bS b S):bS b S.neg:=by
 obtain⟨h1,h2,h3,h4,h5,h6⟩:=h;exact⟨h1,h2,h3.neg,h4.neg,h5.neg,h6.neg⟩
theorem bS.pos{b:Nat}{S:Sn}(h:bS b S):1≤b:=by
 have h2:=h.2.2.1.2;have:=S.p.den_pos;cases b with
 |zero=>simp at h2;omega
 |succ b=>omega
theorem bS.mul{b c:Nat}{S T:Sn}(h:bS b S)(g:bS c T):bS (8*b+4*c+3) (S.mul T):=by
 have hb:=h.pos;obtain⟨h1,h2,h3,h4,h5,h6⟩:=h;obtain⟨g1,g2,g3,g4,g5,g6⟩:=g;have hm:bq b (S.m:Rat):=bq.int h1 hb;have hn:bq b (S.n:Rat):=bq.int h2 hb;refine⟨cM h1 (fu (by omega)),cM h2 (fu (by omega)),?_,?_,?_,?_⟩
 ·exact((((h3.mul g3).add (hm.mul (h4.mul g4))).add (hn.mul (h5.mul g5))).add ((hm.mul hn).mul (h6.mul g6))).mono (by omega)
 ·exact(((h3.mul g4).add (h4.mul g3)).add (hn.mul ((h5.mul g6).add (h6.mul g5)))).mono (by omega)
 ·exact(((h3.mul g5).add (h5.mul g3)).add (hm.mul ((h4.mul g6).add (h6.mul g4)))).mono (by omega)
 ·exact((((h3.mul g6).add (h6.mul g3)).add (h4.mul g5)).add (h5.mul g4)).mono (by omega)
theorem SF.tight{x:Sw}{L k:Nat}{S:Sn}{I:fQ}{w:World}(h:(SF x (L,S)).p I w)(hq:bS k S):(SF x (k/32+1,S)).p I w:=by
 obtain⟨h1,h2,h3,h4,h5,h6⟩:=h;obtain⟨g1,g2,g3,g4,g5,g6⟩:=hq;exact⟨ZF.tight h1 g1,ZF.tight h2 g2,QF.tight h3 g3,QF.tight h4 g4,QF.tight h5 g5,QF.tight h6 g6⟩
section
variable{fin:VS→List aD→Prop}{Γ:List aD}{L M K:Nat}
end
def XK(n:Int):Rat:=((xS n.natAbs:Nat):Int)
def OA(n:Int):Bool:=n.natAbs-xS n.natAbs*xS n.natAbs==0
def Sn.f1(S:Sn):Sn:=if OA S.m=true then⟨S.m,S.n,0+S.p+XK S.m*S.q,0,0+S.r+XK S.m*S.s,0⟩else S
def Sn.f2(S:Sn):Sn:=if OA S.n=true then⟨S.m,S.n,0+S.p+XK S.n*S.r,0+S.q+XK S.n*S.s,0,0⟩else S
def Sn.f3(S:Sn):Sn:=if OA (S.m*S.n)=true∧OA S.m=false∧OA S.n=false then⟨S.m,S.n,0+S.p+XK (S.m*S.n)*S.s,0+S.q+XK (S.m*S.n)/(S.m:Rat)*S.r,0,0⟩else S
def Sn.fold(S:Sn):Sn:=S.f1.f2.f3
def Sn.w(S:Sn)(j:Nat):Rat:=S.p*lX 1 j+S.q*lX S.m j+S.r*lX S.n j+S.s*lX (S.m*S.n) j
def tw(a:Nat):Rat:=(((2^a:Nat):Int):Rat)
theorem Z1(a:Nat):tw a=((2^a:Int):Rat):=by unfold tw;push_cast;rfl
theorem Qu(a:Nat):0<tw a:=by rw[Z1];exact EJ a
theorem Qt(a b:Nat):tw (a+b)=tw a*tw b:=by unfold tw;rw[←wY,cP]
theorem Xc:tw 1=2:=rfl
theorem EI{a b:Nat}(h:a≤b):tw a≤tw b:=pB (cY (by decide) h)
def md(a d:Nat)(x:Rat):Prop:= -(tw a)≤x∧x≤tw a∧x.den≤2^d
theorem md.mono{a d a' d':Nat}{x:Rat}(h:md a d x)(ha:a≤a')(hd:d≤d'):md a' d' x:=by
 have:=EI ha;exact⟨by have:=h.1;grind,by have:=h.2.1;grind,aP h.2.2 (cY (by decide) hd)⟩
theorem Nn{n d:Int}{q:Rat}(hd:0<d)(h:q=Rat.divInt n d):q.den≤d.natAbs:=by
 obtain⟨g,hg,e1,e2⟩:=xj hd h;have hdd:d.natAbs=q.den*g.natAbs:=by rw[e2,cK];rfl
 have:q.den*1≤q.den*g.natAbs:=cG _ (by omega);omega
theorem md.mul{a d b e:Nat}{x y:Rat}(hx:md a d x)(hy:md b e y):md (a+b) (d+e) (x*y):=by
 have p1:=Qu a;have p2:=Qu b;obtain⟨x1,x2,x3⟩:=hx;obtain⟨y1,y2,y3⟩:=hy;rw[md,Qt];have q1:=bE (show 0≤tw a-x by grind) (show 0≤tw b+y by grind);have q2:=bE (show 0≤tw a+x by grind) (show 0≤tw b-y by grind);have q3:=bE (show 0≤tw a-x by grind) (show 0≤tw b-y by grind);have q4:=bE (show 0≤tw a+x by grind) (show 0≤tw b+y by grind);refine⟨by grind,by grind,?_⟩;have:=Nn (by have:=gB x;have:=gB y;exact Int.mul_pos (by assumption) (by assumption)) (PW x y).symm;rw[cK]at this;rw[cP];exact aP this (aY x3 y3)
theorem md.add{a d b e:Nat}{x y:Rat}(hx:md a d x)(hy:md b e y):md (max a b+1) (d+e) (x+y):=by
 obtain⟨x1,x2,x3⟩:=hx;obtain⟨y1,y2,y3⟩:=hy;have m1:=EI (Nat.le_max_left a b);have m2:=EI (Nat.le_max_right a b);rw[md,Qt (max a b) 1,Xc];refine⟨by grind,by grind,?_⟩;have:=Nn (by have:=gB x;have:=gB y;exact Int.mul_pos (by assumption) (by assumption)) (PV x y).symm;rw[cK]at this;rw[cP];exact aP this (aY x3 y3)
theorem md.neg{a d:Nat}{x:Rat}(hx:md a d x):md a d (-x):=by
 obtain⟨x1,x2,x3⟩:=hx;exact⟨by grind,by grind,by rw[Rat.neg_den];exact x3⟩
theorem md.int{a:Nat}{z:Int}(h:z.natAbs≤2^a):md a 0 (z:Rat):=by
 have h1:((z.natAbs:Int):Rat)≤tw a:=pB h;have h2:(z:Rat)≤((z.natAbs:Int):Rat):=Rat.intCast_le_intCast.2 (by omega);have h3: -((z.natAbs:Int):Rat)≤(z:Rat):=by rw[←s_];exact Rat.intCast_le_intCast.2 (by omega)
 exact⟨by grind,by grind,ak 1⟩
section
variable{A D c:Nat}
end
theorem md.z{a d:Nat}{x:Rat}(h:md a d x):md a d (0+x):=by
 rw[Rat.zero_add];exact h
theorem md.b{a d:Nat}{x:Rat}(h:md a d x): -(tw a)≤x∧x≤tw a:=⟨h.1,h.2.1⟩
def Sn.nil(F:Sn):Prop:=F.p=0∧F.q=0∧F.r=0∧F.s=0
structure R6 where
 A:Tw
 B:Tw
 C:Tw
 D:Tw
 E:Tw
 F:Tw
section
variable{fin:VS→List aD→Prop}{Γ:List aD}{L M K:Nat}
end
section
variable{fin:VS→List aD→Prop}{Γ:List aD}{L M K:Nat}
end
structure P4 where
 x:Rat
 y:Rat
 z:Rat
 w:Rat
theorem FD(d:Int):Rat.divInt d 2=(d:Rat)*Rat.divInt 1 2:=by
 rw[←oT,l9];simp
theorem P4.ext'{p q:P4}(h1:p.x=q.x)(h2:p.y=q.y)(h3:p.z=q.z)(h4:p.w=q.w):p=q:=by
 cases p;cases q;simp_all
def bO(b:Nat)(V:On):Prop:=bq b V.g∧bq b V.a∧bq b V.b∧bq b V.c∧bq b V.d
def bP(b:Nat)(p:P4):Prop:=bq b p.x∧bq b p.y∧bq b p.z∧bq b p.w
theorem bq.pos{b:Nat}{q:Rat}(h:bq b q):1≤b:=by
 have h2:=h.2;have:=q.den_pos;cases b with
 |zero=>simp at h2;omega
 |succ b=>omega
theorem bS.r2{b:Nat}{x y:Rat}(hx:bq b x)(hy:bq b y)(hb:2≤b):bS b (r2 x y):=
 ⟨cM (by decide:2<2^2) (fu hb),kr b,hx,hy,bq.zero b (by omega),bq.zero b (by omega)⟩
theorem OF.tight{x:Q5}{L k:Nat}{V:On}{I:fQ}{w:World}(h:(OF x (L,V)).p I w)(hq:bO k V):(OF x (k/32+1,V)).p I w:=by
 obtain⟨h1,h2,h3,h4,h5⟩:=h;obtain⟨g1,g2,g3,g4,g5⟩:=hq;exact⟨QF.tight h1 g1,QF.tight h2 g2,QF.tight h3 g3,QF.tight h4 g4,QF.tight h5 g5⟩
def On.X(V:On)(x y:Rat):Sn:=r2 (V.u0 x 0 y 0) (V.u1 x 0 y 0)
def On.Y(V:On)(x y:Rat):Sn:=r2 (V.v0 x 0 y 0) (V.v1 x 0 y 0)
section
variable{fin:VS→List aD→Prop}{Γ:List aD}{L M K:Nat}
theorem aw.plT{f:FuncId}{args:List Value}{X Y:Sn}{k:Nat}(h:aw tb Tryz.prog f args Γ (vJ L X Y))(h1:bS k X)(h2:bS k Y):aw tb Tryz.prog f args Γ (vJ (k/32+1) X Y):=
 h.entH (fun v Δ ⟨x,y,e1,e2⟩=>⟨_,⟨x,y,e1,rfl⟩,fun I w hh=>by
  subst e2;exact aG.cons (SF.tight (hh (SF x (L,X)) (List.Mem.head _)) h1) (aS (SF.tight (hh (SF y (L,Y)) (List.Mem.tail _ (List.Mem.head _))) h2))⟩)
theorem Pu(V U:On)(x y:Q5){k:Nat} [aW (OF x) (L,V) Γ] [aW (OF y) (M,U) Γ](hk:bO k (V.then U))(ho:0≤V.o∧V.o≤7)(hu:0≤U.o∧U.o≤7)(hL:L≤10000∧M≤10000:=by omega):
  aw tb Tryz.prog 159 [Hs V x,Hs U y] Γ (fun v Δ=>∃q:Q5,v=Hs (V.then U) q∧Δ=[OF q (k/32+1,V.then U)]):=
 (Sy V U x y ho hu hL).entH (fun v Δ ⟨q,e1,e2⟩=>⟨_,⟨q,e1,rfl⟩,fun I w hh=>by
  subst e2;exact aS (OF.tight hh.h0' hk)⟩)
end
def ER(n:Int):Rat:=if n=2 then 0 else(n:Rat)
def ES(n:Int):Rat:=if n=2 then 1 else 0
def Q0(a b c d:Rat):Rat:=a*c+(2:Int)*b*d
def Q_(a b c d:Rat):Rat:=a*d+b*c
def Sn.n0(S:Sn):Rat:=0+Q0 S.p 0 (1:Int) 0+Q0 S.q 0 (ER S.m) (ES S.m)+Q0 S.r 0 (ER S.n) (ES S.n)+Q0 S.s 0 (Q0 (ER S.m) (ES S.m) (ER S.n) (ES S.n)) (Q_ (ER S.m) (ES S.m) (ER S.n) (ES S.n))
def Sn.n1(S:Sn):Rat:=0+Q_ S.p 0 (1:Int) 0+Q_ S.q 0 (ER S.m) (ES S.m)+Q_ S.r 0 (ER S.n) (ES S.n)+Q_ S.s 0 (Q0 (ER S.m) (ES S.m) (ER S.n) (ES S.n)) (Q_ (ER S.m) (ES S.m) (ER S.n) (ES S.n))
section
variable{fin:VS→List aD→Prop}{Γ:List aD}{L M K:Nat}
theorem Em(x y:Sw){X Y:Sn} [aW (SF x) (L,X) Γ] [aW (SF y) (M,Y) Γ](em:X.m=Y.m)(en:X.n=Y.n)(hL:L≤100000:=by omega)(hM:M≤100000:=by omega):
  aw tb Tryz.prog 145 [Bn x y] Γ (jq (.bool true)):=by
 refine aw.of_W aB Tryz.func145 rfl ?_;refine aq [] (WM x y em en) ?_;rintro _ _ ⟨X1,rfl,rfl⟩;exact W.r [] (.bool (0==0)) ⟨rfl,rfl⟩ bT
theorem zC(u:Sl)(d:Bool){n:Int} [aW (ZF u d) (L,n) Γ](hn:0≤n∧n≤2)(hL:L≤1000000:=by omega):
  aw tb Tryz.prog 211 [zv u d] Γ (fun v Δ=>∃a b:Qw,v=.tuple #[vy a b,.bool true]∧Δ=[QG a (2,ER n),QG b (2,ES n)]):=by
 have hs:g_ n=true:=by unfold g_;simp only[aM,dp];omega
 refine aw.of_W aB Tryz.func211 rfl ?_;refine W.more rfl (ln (L':=0)) ?_;refine aq [] (jz u d hs) ?_;rintro _ _ ⟨rfl,rfl⟩;refine aQ [] 14 (!true) rfl ?_;refine aQ [14] 11 (decide (n>2)) (by rw[aX];omega) ?_;by_cases h2:n=2
 ·refine bj [11] 19 (n==2) (by rw[h2];rfl) ?_;refine aq [19] (lx 1 (by omega) (by omega)) ?_;rintro _ _ ⟨n2,a2,m2,b2,rfl,rfl⟩;exact W.r [] (.tuple #[vy b_ ⟨n2,a2,m2,b2⟩,.bool true]) ⟨_,_,rfl,rfl⟩ (Ar (by omega) (by unfold ER;rw[if_pos h2]) (by unfold ES;rw[if_pos h2];rfl))
 ·refine aQ [11] 19 (n==2) (by rw[ed];exact h2) ?_;refine aq [19] (lx n (by omega) (by omega)) ?_;rintro _ _ ⟨n3,a3,m3,b3,rfl,rfl⟩;exact W.r [] (.tuple #[vy ⟨n3,a3,m3,b3⟩ b_,.bool true]) ⟨_,_,rfl,rfl⟩ (Ar (by omega) (by unfold ER;rw[if_neg h2]) (by unfold ES;rw[if_neg h2]))
theorem Ba(u:Sl)(d:Bool){n:Int} [aW (ZF u d) (L,n) Γ](hn:2<n)(hL:L≤1000000:=by omega):
  aw tb Tryz.prog 211 [zv u d] Γ (jq (.tuple #[vy b_ b_,.bool false])):=by
 refine aw.of_W aB Tryz.func211 rfl ?_;refine aq [] (xh u d) ?_;rintro _ _ ⟨rfl,rfl⟩;by_cases hs:g_ n=true
 ·refine aQ [] 14 (!(g_ n)) (by rw[hs];rfl) ?_;refine bj [14] 11 (decide ((if g_ n=true then n else 0)>2)) (by rw[if_pos hs,fM];omega) ?_;exact W.r [11] (.tuple #[vy b_ b_,.bool false]) ⟨rfl,rfl⟩ bT
 ·refine bj [] 14 (!(g_ n)) (by rw[Bool.eq_false_iff.2 hs];rfl) ?_;exact W.r [11,14] (.tuple #[vy b_ b_,.bool false]) ⟨rfl,rfl⟩ bT
theorem xa(a b c d:Qw){x y z w:Rat}{L1 L2 L3 L4:Nat} [aW (QG a) (L1,x) Γ] [aW (QG b) (L2,y) Γ] [aW (QG c) (L3,z) Γ] [aW (QG d) (L4,w) Γ](hL:L1≤100000∧L2≤100000∧L3≤100000∧L4≤100000:=by omega):
  aw tb Tryz.prog 212 [vy a b,vy c d] Γ (DC (L1+L2+L3+L4+25) (Q0 x y z w) (Q_ x y z w)):=by
 refine aw.of_W aB Tryz.func212 rfl ?_;refine aq [] (bU a.n a.a a.m a.b c.n c.a c.m c.b) ?_;rintro _ _ ⟨n1,a1,m1,b1,rfl,rfl⟩;refine aq [] (lx 2 (by omega) (by omega)) ?_;rintro _ _ ⟨n2,a2,m2,b2,rfl,rfl⟩;refine aq [] (bU n2 a2 m2 b2 b.n b.a b.m b.b) ?_;rintro _ _ ⟨n3,a3,m3,b3,rfl,rfl⟩;refine aq [] (bU n3 a3 m3 b3 d.n d.a d.m d.b) ?_;rintro _ _ ⟨n4,a4,m4,b4,rfl,rfl⟩;refine aq [] (ft n1 a1 m1 b1 n4 a4 m4 b4) ?_;rintro _ _ ⟨n5,a5,m5,b5,rfl,rfl⟩;refine aq [] (bU a.n a.a a.m a.b d.n d.a d.m d.b) ?_;rintro _ _ ⟨n6,a6,m6,b6,rfl,rfl⟩;refine aq [] (bU b.n b.a b.m b.b c.n c.a c.m c.b) ?_;rintro _ _ ⟨n7,a7,m7,b7,rfl,rfl⟩;refine aq [] (ft n6 a6 m6 b6 n7 a7 m7 b7) ?_;rintro _ _ ⟨n8,a8,m8,b8,rfl,rfl⟩;exact W.r [] (vy ⟨n5,a5,m5,b5⟩ ⟨n8,a8,m8,b8⟩) ⟨_,_,rfl,rfl⟩ (Ar (by omega) rfl rfl)
theorem C0(x:Sw){S:Sn} [aW (SF x) (L,S) Γ](hm:0≤S.m∧S.m≤2)(hn:0≤S.n∧S.n≤2)(hL:L≤20000:=by omega):
  aw tb Tryz.prog 146 [sv x] Γ (fun v Δ=>∃a b:Qw,v=.tuple #[vy a b,.bool true]∧Δ=[QG a (4*L+200,S.n0),QG b (4*L+200,S.n1)]):=by
 refine aw.of_W aB Tryz.func146 rfl ?_;refine W.more rfl (ln (L':=0)) ?_;refine td x rfl ?_;refine aq [] (Bf x) ?_;rintro _ _ ⟨rfl,rfl⟩;refine aq [] (zC x.u x.d hm) ?_;rintro _ _ ⟨a2,b2,rfl,rfl⟩;refine aq [] (zC x.v x.e hn) ?_;rintro _ _ ⟨a3,b3,rfl,rfl⟩;refine aQ [] 31 (!true) rfl ?_;refine aQ [31] 34 (!true) rfl ?_;refine aq [34] (lx 1 (by omega) (by omega)) ?_;rintro _ _ ⟨n4,a4,m4,b4,rfl,rfl⟩;refine aq [] (xa a2 b2 a3 b3) ?_;rintro _ _ ⟨a5,b5,rfl,rfl⟩;refine j2 [] 6 ?_;refine aq [46] (xg x) ?_;rintro _ _ ⟨rfl,rfl⟩;refine aq [] (xa x.p b_ ⟨n4,a4,m4,b4⟩ b_) ?_;rintro _ _ ⟨a7,b7,rfl,rfl⟩;refine aq [] (oq b_ b_ a7 b7) ?_;rintro _ _ ⟨a8,b8,rfl,rfl⟩;refine aq [46] (xg x) ?_;rintro _ _ ⟨rfl,rfl⟩;refine aq [] (xa x.q b_ a2 b2) ?_;rintro _ _ ⟨a10,b10,rfl,rfl⟩;refine aq [] (oq a8 b8 a10 b10) ?_;rintro _ _ ⟨a11,b11,rfl,rfl⟩;refine aq [46] (xg x) ?_;rintro _ _ ⟨rfl,rfl⟩;refine aq [] (xa x.r b_ a3 b3) ?_;rintro _ _ ⟨a13,b13,rfl,rfl⟩;refine aq [] (oq a11 b11 a13 b13) ?_;rintro _ _ ⟨a14,b14,rfl,rfl⟩;refine aq [46] (xg x) ?_;rintro _ _ ⟨rfl,rfl⟩;refine aq [] (xa x.s b_ a5 b5) ?_;rintro _ _ ⟨a16,b16,rfl,rfl⟩;refine aq [] (oq a14 b14 a16 b16) ?_;rintro _ _ ⟨a17,b17,rfl,rfl⟩;exact W.r [46] (.tuple #[vy a17 b17,.bool true]) ⟨_,_,rfl,rfl⟩ (Ar (by omega) rfl rfl)
theorem A_(x:Sw){S:Sn} [aW (SF x) (L,S) Γ](h0:0≤S.m∧0≤S.n)(hmn:2<S.m∨2<S.n)(hL:L≤20000:=by omega):
  aw tb Tryz.prog 146 [sv x] Γ (jq (.tuple #[vy b_ b_,.bool false])):=by
 refine aw.of_W aB Tryz.func146 rfl ?_;refine td x rfl ?_;refine aq [] (Bf x) ?_;rintro _ _ ⟨rfl,rfl⟩;by_cases hm:2<S.m
 ·refine aq [] (Ba x.u x.d hm) ?_;rintro _ _ ⟨rfl,rfl⟩;by_cases hn:2<S.n
  ·refine aq [] (Ba x.v x.e hn) ?_;rintro _ _ ⟨rfl,rfl⟩;refine bj [] 31 (!false) rfl ?_;exact W.r [34,31] (.tuple #[vy b_ b_,.bool false]) ⟨rfl,rfl⟩ bT
  ·refine aq [] (zC x.v x.e ⟨h0.2,by omega⟩) ?_;rintro _ _ ⟨a3,b3,rfl,rfl⟩;refine bj [] 31 (!false) rfl ?_;exact W.r [34,31] (.tuple #[vy b_ b_,.bool false]) ⟨rfl,rfl⟩ bT
 ·have hn:2<S.n:=by omega
  refine aq [] (zC x.u x.d ⟨h0.1,by omega⟩) ?_;rintro _ _ ⟨a2,b2,rfl,rfl⟩;refine aq [] (Ba x.v x.e hn) ?_;rintro _ _ ⟨rfl,rfl⟩;refine aQ [] 31 (!true) rfl ?_;refine bj [31] 34 (!false) rfl ?_;exact W.r [34] (.tuple #[vy b_ b_,.bool false]) ⟨rfl,rfl⟩ bT
def wj(L:Nat)(X Y:Sn)(v:Value)(Δ:List aD):Prop:=∃x y:Sw,v=.tuple #[Bn x y,.int .i64 0]∧Δ=[SF x (L,X),SF y (L,Y)]
theorem St(V:On)(t:Q5)(x y:Sw){X Y:Sn}{L1:Nat} [aW (OF t) (L1,V) Γ] [aW (SF x) (L,X) Γ] [aW (SF y) (M,Y) Γ](ho:0≤V.o∧V.o≤7)(em:X.m=Y.m)(en:X.n=Y.n)(hm:0≤X.m∧X.m≤2)(hn:0≤X.n∧X.n≤2)(hL:L≤2000∧M≤2000∧L1≤10000:=by omega):
  aw tb Tryz.prog 88 [Hs V t,Bn x y] Γ (wj (5*L1+16*max L M+1100) (r2 (V.u0 X.n0 X.n1 Y.n0 Y.n1) (V.u1 X.n0 X.n1 Y.n0 Y.n1)) (r2 (V.v0 X.n0 X.n1 Y.n0 Y.n1) (V.v1 X.n0 X.n1 Y.n0 Y.n1))):=by
 refine aw.of_W aB Tryz.func88 rfl ?_;refine aq [] (Em x y em en) ?_;rintro _ _ ⟨rfl,rfl⟩;refine aQ [] 24 (!true) rfl ?_;refine aq [24] (C0 x hm hn) ?_;rintro _ _ ⟨a2,b2,rfl,rfl⟩;refine bj [] 32 (true) rfl ?_;refine aq [32] (C0 y (em▸hm) (en▸hn)) ?_;rintro _ _ ⟨a3,b3,rfl,rfl⟩;refine aq [] (El V t a2 b2 a3 b3 ho) ?_;rintro _ _ ⟨a4,b4,c4,d4,rfl,rfl⟩;refine aq [] (Pv) ?_;rintro _ _ ⟨u5,d5,rfl,rfl⟩;refine aq [] (lQ u5 d5 ⟨none,0,0⟩ false a4 b4 (by omega) (by omega)) ?_;rintro _ _ ⟨X6,rfl,rfl⟩;refine aq [] (lQ u5 d5 ⟨none,0,0⟩ false c4 d4 (by omega) (by omega)) ?_;rintro _ _ ⟨X7,rfl,rfl⟩;exact W.r [] (.tuple #[Bn X6 X7,.int .i64 0]) ⟨_,_,rfl,rfl⟩ (Jx (by omega) rfl rfl)
end
section
variable{fin:VS→List aD→Prop}{Γ:List aD}{L M K:Nat}
end
def Wr:On:=⟨false,0,0,0,0,0,0⟩
def cq(N K:Nat)(q:Rat):Prop:=∃z:Int,q*(N:Rat)=(z:Rat)∧z.natAbs≤K
section
variable{N M K J:Nat}{p q:Rat}
theorem cq.mono(h:cq N K q)(hk:K≤J):cq N J q:=by
 obtain⟨z,h1,h2⟩:=h;exact⟨z,h1,aP h2 hk⟩
theorem cq.add(h:cq N K p)(g:cq N J q):cq N (K+J) (p+q):=by
 obtain⟨z,h1,h2⟩:=h;obtain⟨y,g1,g2⟩:=g;exact⟨z+y,by rw[lT];grind,aP (Int.natAbs_add_le z y) (by omega)⟩
theorem cq.neg(h:cq N K p):cq N K (-p):=by
 obtain⟨z,h1,h2⟩:=h;exact⟨-z,by rw[s_];grind,by rw[Int.natAbs_neg];exact h2⟩
theorem cq.mul(h:cq N K p)(g:cq M J q):cq (N*M) (K*J) (p*q):=by
 obtain⟨z,h1,h2⟩:=h;obtain⟨y,g1,g2⟩:=g;exact⟨z*y,by rw[dQ,Rat.natCast_mul];grind,by rw[cK];exact aY h2 g2⟩
theorem cq.scale(h:cq N K p)(M:Nat):cq (M*N) (M*K) p:=by
 obtain⟨z,h1,h2⟩:=h;refine⟨M*z,by rw[dQ,Rat.natCast_mul,←h1];have:((M:Int):Rat)=(M:Rat):=rfl;grind,?_⟩;rw[cK];exact aY (ak _) h2
theorem cq.unit(h:cq N K p){c:Int}(hc: -1≤c∧c≤1):cq N K (p*(c:Rat)):=by
 obtain⟨z,h1,h2⟩:=h;refine⟨z*c,by rw[dQ,←h1];grind,?_⟩;rw[cK];have:c.natAbs≤1:=by omega
 exact aP (aY h2 this) (by omega)
theorem cq.half(h:cq N K p){c:Int}(hc: -1≤c∧c≤1):cq (2*N) K (p*Rat.divInt c 2):=by
 obtain⟨z,h1,h2⟩:=(cq.unit h hc);refine⟨z,?_,h2⟩;have hh:Rat.divInt 1 2+Rat.divInt 1 2=1:=by decide+kernel
 have e2:((2:Nat):Rat)=2:=rfl;rw[FD,Rat.natCast_mul,e2,←h1];generalize Rat.divInt 1 2=H at*;grind
theorem tz(hp:cq N K p)(hq:cq N K q){c d:Int}(hc: -1≤c∧c≤1)(hd: -1≤d∧d≤1):cq (2*N) (4*K) (tm1 p q c d):=
 (((hp.unit hc).add (hq.unit hd)).scale 2).mono (by omega)
theorem tA(hp:cq N K p)(hq:cq N K q){c d:Int}(hc: -1≤c∧c≤1)(hd: -1≤d∧d≤1):cq (2*N) (4*K) (tm2 p q c d):=
 (((hq.unit hc).scale 2).add (hp.half hd)).mono (by omega)
theorem cq.bq{e:Nat}(h:cq N K q)(hN:0<N)(h1:N≤2^e)(h2:K≤2^e):bq (e+1) q:=by
 obtain⟨z,g1,g2⟩:=h;have hp:0<2^e:=kr e;have hs:2^(e+1)=2^e*2:=eA 2 e;refine bq.of (n:=z) (d:=(N:Int)) (by omega) ?_ (by omega) (by omega);have hne:(N:Rat)≠0:=fun e0=>by
  have:N=0:=Rat.natCast_inj.1 e0;omega
 rw[je,←g1,show(((N:Nat):Int):Rat)=(N:Rat)from rfl,lC,Rat.mul_assoc,Rat.mul_inv_cancel _ hne,sS]
end
def cO(N K:Nat)(V:On):Prop:=cq N K V.g∧cq N K V.a∧cq N K V.b∧cq N K V.c∧cq N K V.d
theorem cO.mag{N K:Nat}{V:On}(h:cO N K V)(hK:N≤K):cq N K V.mag:=by
 unfold On.mag;split
 ·exact⟨N,by have:((N:Int):Rat)=(N:Rat):=rfl;grind,by omega⟩
 ·exact h.1
theorem cq.sg{N K:Nat}{V:On}{z:Rat}(h:cq N K z):cq N K (V.sg z):=by
 unfold On.sg;split
 ·exact h.neg
 ·exact h
theorem cO.then{N K M J:Nat}{V U:On}(h:cO N K V)(g:cO M J U)(hK:N≤K)(hJ:M≤J):cO (2*(N*M)) (10*(K*J)) (V.then U):=by
 have hm:=g.mag hJ;have hn:=h.mag hK;obtain⟨_,h2,h3,h4,h5⟩:=h;obtain⟨_,g2,g3,g4,g5⟩:=g;have c1:=WQ U.o;have c2:=WR U.o;have c3:=PM U.o;have c4:=PS U.o;have x:=h2.mul hm;have y:=h3.mul hm;have z:=(h4.sg (V:=U)).mul hm;have w:=(h5.sg (V:=U)).mul hm;have lift:∀{q:Rat},cq M J q→cq (2*(N*M)) (2*(K*J)) q:=fun hq=>by
  have e:=(hq.scale N).scale 2;exact e.mono (aY (ak _) (aY hK (ak _)))
 have l2:=lift g2;have l3:=lift g3;have l4:=lift g4;have l5:=lift g5;generalize hP:K*J=P at*;refine⟨?_,?_,?_,?_,?_⟩
 ·have e:=(hn.mul hm).scale 2;rw[hP]at e;exact e.mono (by omega)
 ·exact(((tz x y c1 c3).add (tz z w c2 c4).neg).add l2).mono (by omega)
 ·exact(((tA x y c1 c3).add (tA z w c2 c4).neg).add l3).mono (by omega)
 ·exact(((tz x y c2 c4).add (tz z w c1 c3)).add l4).mono (by omega)
 ·exact(((tA x y c2 c4).add (tA z w c1 c3)).add l5).mono (by omega)
def sG(e:Nat)(V:On):Prop:=∃N K:Nat,0<N∧N≤K∧K≤2^e∧cO N K V
theorem sG.bO{e:Nat}{V:On}(h:sG e V):bO (e+1) V:=by
 obtain⟨N,K,h0,h1,h2,g1,g2,g3,g4,g5⟩:=h;have hN:=aP h1 h2;exact⟨g1.bq h0 hN h2,g2.bq h0 hN h2,g3.bq h0 hN h2,g4.bq h0 hN h2,g5.bq h0 hN h2⟩
theorem sG.then{e k:Nat}{V U:On}(h:sG e V)(g:sG k U):sG (e+k+4) (V.then U):=by
 obtain⟨N,K,h0,h1,h2,h3⟩:=h;obtain⟨M,J,g0,g1,g2,g3⟩:=g;have a:=aY h1 g1;have b:=aY h2 g2;rw[←cP]at b;have c:2^(e+k+4)=2^(e+k)*16:=cP 2 (e+k) 4;exact⟨2*(N*M),10*(K*J),hY (by decide) (hY h0 g0),by omega,by omega,h3.then g3 h1 g1⟩
theorem Z5:sG 0 Wr:=by
 have z:cq 1 1 0:=⟨0,by decide+kernel,by decide⟩;exact⟨1,1,by decide,by decide,by decide,z,z,z,z,z⟩
def Dc:Nat→Sn→Sn→Sn×Sn
 |0,X,Y=>(X,Y)
 |k+1,X,Y=>Dc k Y.neg X
def On.farP(V:On)(X Y:Sn):Sn×Sn:=Dc (V.o/2).toNat (X.mul ⟨X.m,X.n,V.mag,0,0,0⟩) (if V.f then(Y.mul ⟨X.m,X.n,V.mag,0,0,0⟩).neg else Y.mul ⟨X.m,X.n,V.mag,0,0,0⟩)
def On.farX(V:On)(X Y:Sn):Sn:=(V.farP X Y).1.add ⟨X.m,X.n,V.a,V.b,0,0⟩
def On.farY(V:On)(X Y:Sn):Sn:=(V.farP X Y).2.add ⟨X.m,X.n,V.c,V.d,0,0⟩
structure Dp where
 x:Int
 y:Int
theorem Dp.eq_iff{a b:Dp}:a=b↔a.x=b.x∧a.y=b.y:=by
 constructor
 ·rintro rfl;exact⟨rfl,rfl⟩
 ·obtain⟨a1,a2⟩:=a;obtain⟨b1,b2⟩:=b;rintro⟨h1,h2⟩;simp only at h1 h2;rw[h1,h2]
instance:DecidableEq Dp:=fun a b=>if h:a.x=b.x∧a.y=b.y then isTrue (Dp.eq_iff.2 h)else isFalse (fun e=>h (Dp.eq_iff.1 e))
def mi(v:Dp):Int:=((Nat.gcd v.x.natAbs v.y.natAbs:Nat):Int)
def p_(v:Dp):Dp:=⟨v.x/mi v,v.y/mi v⟩
def gl(p q:Dp):Dp:=p_ ⟨q.x-p.x,q.y-p.y⟩
theorem Av(v:Dp):mi v∣v.x∧mi v∣v.y:=by
 unfold mi;exact⟨Int.ofNat_dvd_left.2 (Nat.gcd_dvd_left _ _),Int.ofNat_dvd_left.2 (Nat.gcd_dvd_right _ _)⟩
theorem tH{v:Dp}(h:v.x≠0∨v.y≠0):0<mi v:=by
 unfold mi;have:0<Nat.gcd v.x.natAbs v.y.natAbs:=by
  rcases h with h|h
  ·exact Nat.gcd_pos_of_pos_left _ (by omega)
  ·exact Nat.gcd_pos_of_pos_right _ (by omega)
 omega
theorem rK(v:Dp):v.x=mi v*(p_ v).x∧v.y=mi v*(p_ v).y:=
 ⟨(Int.mul_ediv_cancel' (Av v).1).symm,(Int.mul_ediv_cancel' (Av v).2).symm⟩
theorem Cu(k:Int)(hk:0<k)(v:Dp):p_ ⟨k*v.x,k*v.y⟩=p_ v:=by
 have hg:mi ⟨k*v.x,k*v.y⟩=k*mi v:=by
  unfold mi;simp only[cK,Nat.gcd_mul_left,dP];rw[show((k.natAbs:Nat):Int)=k by omega]
 unfold p_;simp only[hg,Int.mul_ediv_mul_of_pos _ _ hk]
theorem Ns{v:Dp}(h:v.x≠0∨v.y≠0):(p_ v).x≠0∨(p_ v).y≠0:=by
 obtain⟨h1,h2⟩:=rK v;rcases h with h|h
 ·exact .inl fun e=>h (by rw[h1,e,Int.mul_zero])
 ·exact .inr fun e=>h (by rw[h2,e,Int.mul_zero])
theorem Jv(v:Dp)(h:v.x≠0∨v.y≠0):p_ (p_ v)=p_ v:=by
 have h1:=rK v;have h2:=Cu (mi v) (tH h) (p_ v);rw[←h1.1,←h1.2]at h2;exact h2.symm
theorem AZ{p q:Dp}(h:p≠q):(⟨q.x-p.x,q.y-p.y⟩:Dp).x≠0∨(⟨q.x-p.x,q.y-p.y⟩:Dp).y≠0:=by
 simp only;by_cases hx:q.x-p.x=0
 ·by_cases hy:q.y-p.y=0
  ·exact absurd (Dp.eq_iff.2 ⟨by omega,by omega⟩) h
  ·exact .inr hy
 ·exact .inl hx
theorem Hj{p q r:Dp}(h1:p≠q)(h2:q≠r)(h:gl p q=gl q r):p≠r∧gl p r=gl p q:=by
 unfold gl at h⊢;have n1:=AZ h1;have n2:=AZ h2;obtain⟨a1,a2⟩:=rK ⟨q.x-p.x,q.y-p.y⟩;obtain⟨b1,b2⟩:=rK ⟨r.x-q.x,r.y-q.y⟩;have ga:=tH n1;have gb:=tH n2;have hd:=Ns n1;have hdd:=Jv _ n1;rw[←h]at b1 b2;generalize p_ ⟨q.x-p.x,q.y-p.y⟩=d at*;generalize mi ⟨q.x-p.x,q.y-p.y⟩=a at*;generalize mi ⟨r.x-q.x,r.y-q.y⟩=b at*;simp only at a1 a2 b1 b2;have e1:r.x-p.x=(a+b)*d.x:=by rw[Int.add_mul,←a1,←b1];omega
 have e2:r.y-p.y=(a+b)*d.y:=by rw[Int.add_mul,←a2,←b2];omega
 constructor
 ·rintro rfl;rw[Int.sub_self]at e1 e2;have hab:a+b≠0:=by omega
  rcases hd with hd|hd
  ·exact(kn hab hd) e1.symm
  ·exact(kn hab hd) e2.symm
 ·rw[e1,e2,Cu _ (by omega),hdd]
def push(s:List Dp×List Dp)(p:Dp):List Dp×List Dp:=
 match s with
 |([],_)=>([p],[])
 |(l::r,w)=>if l=p then(l::r,w)else if w.head?=some (gl l p)then(p::r,w)else(p::l::r,gl l p::w)
def iC(f_:List Dp):List Dp×List Dp:=f_.foldl push ([],[])
def j8:List Dp→List Dp→Prop
 | [],w=>w=[]
 | [_],w=>w=[]
 |b::a::r,w=>∃d v,w=d::v∧a≠b∧d=gl a b∧v.head?≠some d∧j8 (a::r) v
theorem j8.push{s:List Dp×List Dp}(h:j8 s.1 s.2)(p:Dp):j8 (push s p).1 (push s p).2:=by
 obtain⟨R,w⟩:=s
 match R,h with
 | [],h=>exact rfl
 | [l],h=>
  simp only[j8]at h;subst h;simp only[YtgaaopjagcaojaaGreat.push];split
  ·exact rfl
  ·rename_i hl;simp only[List.head?_nil,reduceCtorEq,d_];exact⟨gl l p,[],rfl,hl,rfl,by simp,rfl⟩
 |l::a::r,⟨d,v,hw,BV,hd,hv,hok⟩=>
  simp only at hw;subst hw;simp only[YtgaaopjagcaojaaGreat.push];split
  ·exact⟨d,v,rfl,BV,hd,hv,hok⟩
  ·rename_i hl;simp only[oN,ar];split
   ·rename_i he;have hj:=Hj BV hl (by rw[←hd,he]);exact⟨d,v,rfl,hj.1,by rw[hj.2,hd],hv,hok⟩
   ·rename_i he;exact⟨gl l p,d::v,rfl,hl,rfl,by simpa using he,d,v,rfl,BV,hd,hv,hok⟩
theorem zm:∀(f_:List Dp) (s:List Dp×List Dp),j8 s.1 s.2→j8 (f_.foldl push s).1 (f_.foldl push s).2
 | [],_,h=>h
 |p::r,s,h=>zm r (push s p) (h.push p)
theorem j8.len:∀{R w:List Dp},j8 R w→R.length=if R=[]then 0 else w.length+1
 | [],w,h=>by simp
 | [a],w,h=>by simp only[j8]at h;subst h;simp
 |b::a::r,w,⟨d,v,hw,_,_,_,h⟩=>by
  subst hw;have:=h.len;simp at this⊢;omega
theorem j8.back{l a:Dp}{r w:List Dp}{p:Dp}(h:j8 (l::a::r) w)(hl:l≠p)(hw:w.head?=some (gl l p)):a≠p∧gl a p=gl l p∧∃v,w=gl l p::v∧v.head?≠some (gl l p):=by
 obtain⟨d,v,rfl,BV,hd,hv,_⟩:=h;simp only[oN,ar]at hw;subst hw;have hj:=Hj BV hl (by rw[←hd]);exact⟨hj.1,by rw[hj.2,hd],v,rfl,hv⟩
def Z7(D w:List Dp):Prop:=match D with
 |c::b::_=>w.head?=some (gl b c)
 |_=>w=[]
def tq:List Dp→Bool
 |e::d::r=>decide (e=⟨-d.x,-d.y⟩)||tq (d::r)
 |_=>false
def GK(n:Int):Bool:=decide (n< -2147483648)||decide (2147483647<n)
def tR(p:Dp):Bool:=GK p.x||GK p.y
def rG(width kind bg en:Int):Bool:= !(decide (kind=0)||decide (kind=1)||decide (kind=2)||decide (kind=4))||decide (width<1)||decide (2147483647<width)||decide (bg< -2147483647)||decide (2147483647<bg)||decide (en< -2147483647)||decide (2147483647<en)
def rh(f_:List Dp)(width kind bg en:Int):Int:=
 if 8191<f_.length then 2 else if rG width kind bg en=true then 1 else if f_.any tR=true then 26 else if(iC f_).1.length<2 then 7 else if tq (iC f_).2=true then 25 else 0
structure Pa where
 d:Dp
 a:Rat
 b:Rat
 c:Rat
 e:Rat
def kE(d:Dp):Int:=d.x*d.x+d.y*d.y
def qG(d e:Dp):Int:=d.x*e.x+d.y*e.y
def eS(d:Dp):Dp:=⟨-d.y,d.x⟩
def jk(d:Dp):Dp:=⟨-d.x,-d.y⟩
def iG(d:Dp):Dp:=⟨d.y,-d.x⟩
def jI(d:Dp)(q:Rat):Pa:=⟨d,0,q*Rat.divInt 1 (kE d),0,0⟩
def lM(d:Dp)(q:Rat):Pa:=⟨d,0,0,0,q*Rat.divInt 1 (kE d*2)⟩
def Pa.sx(q:Pa)(m n:Int):Sn:=⟨m,n,q.a*(q.d.x:Rat),q.b*(q.d.x:Rat),q.c*(q.d.x:Rat),q.e*(q.d.x:Rat)⟩
def Pa.sy(q:Pa)(m n:Int):Sn:=⟨m,n,q.a*(q.d.y:Rat),q.b*(q.d.y:Rat),q.c*(q.d.y:Rat),q.e*(q.d.y:Rat)⟩
def alX(m n p:Int)(l:List Pa):Sn:=l.foldl (fun S q=>S.add (q.sx m n)) ⟨m,n,(p:Rat),0,0,0⟩
def alY(m n p:Int)(l:List Pa):Sn:=l.foldl (fun S q=>S.add (q.sy m n)) ⟨m,n,(p:Rat),0,0,0⟩
def al(m n:Int)(p:Dp)(l:List Pa):Sn×Sn:=(alX m n p.x l,alY m n p.y l)
def gf(p d e:Dp)(h:Rat):Sn×Sn:=
 let m:=kE d;let n:=kE e;let t:=qG d e;let k:=h/((qG (eS d) e*qG (eS d) e:Int):Rat)
 al m n p [⟨eS d,0,k*(n:Rat),k*((-t:Int):Rat),0⟩,⟨eS e,0,k*((-t:Int):Rat),k*(m:Rat),0⟩]
def mC(p d:Dp)(h beyond:Rat)(round:Bool):List (Sn×Sn):=
 let m:=kE d
 al m 2 p [jI d beyond,jI (eS d) h]::((if round then [al m 2 p [lM d h,lM (eS d) h],al m 2 p [jI d h],al m 2 p [lM d h,lM (iG d) h]]else [])++[al m 2 p [jI d beyond,jI (iG d) h]])
def gy(h:Rat):List Dp→List Dp→List (Sn×Sn)
 |p::c,d::e::w=>gf p d e h::gy h c (e::w)
 |_,_=>[]
def o_(kind bg en:Int)(h:Rat):Rat×Rat:=if kind=2 then(h,h)else if kind=4 then((bg:Rat),(en:Rat))else(0,0)
def sj(c w:List Dp)(width kind bg en:Int):List (Sn×Sn):=
 let h:=Rat.divInt width 2
 let back:=mC (c.getD 0 ⟨0,0⟩) (jk (w.getD 0 ⟨0,0⟩)) h (o_ kind bg en h).1 (kind==1)
 back.drop (back.length-1)++gy h c.tail w++mC (c.getD (c.length-1) ⟨0,0⟩) (w.getD (w.length-1) ⟨0,0⟩) h (o_ kind bg en h).2 (kind==1)++(gy (-h) c.tail w).reverse++back.take (back.length-1)
end Go.Proofs.YtgaaopjagcaojaaGreat
