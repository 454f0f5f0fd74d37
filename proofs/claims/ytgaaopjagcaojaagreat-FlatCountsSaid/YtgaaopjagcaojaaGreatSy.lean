import Derived.Test.YtgaaopjagcaojaaGreatVm
import Derived.DeepKeys
import Derived.Test.YtgaaopjagcaojaaGreatSu
set_option linter.unusedSimpArgs false
set_option linter.unusedVariables false
set_option maxHeartbeats 8000000
namespace Go.Proofs.YtgaaopjagcaojaaGreat
open Go.RowKit
def PN(e:Ev):Option (TypeId×Value×Value):=
 match e with
 | .read o c=>match o.op with
  | .binOp .eql t x y _=>match c.s.ev x,c.s.ev y with
   | .val a,.val b=>some (t,a,b)
   |_,_=>none
  |_=>none
 |_=>none
section
variable{T:Tb}{P:Program}{fin:VS→List aC→Prop}{c:fC}{Γ:List aC}
theorem W.rem(D:List Nat)(a b r:Int)(hb:b≠0)(hr:a.tmod b=r)
  (hk:W T P fin (fZ (aK T (aZ T D 999 c)) (.int .i64 r)) Γ)(h:mQ (aK T (aZ T D 999 c))=some (.rem,.int .i64 a,.int .i64 b):=by kernel_rfl):W T P fin c Γ:=by
 subst hr;refine eg D 999 ?_;generalize aZ T D 999 c=c1 at*;unfold mQ at h;split at h
 ·rename_i o c' he;rw[he]at hk;split at h
  ·rename_i op ty u v yt hop;split at h
   ·rename_i x y hx hy;simp only[au,aF]at h;obtain⟨rfl,rfl,rfl⟩:=h;refine W.read _ he (.any ?_) hk;intro w;simp[execOp,hop,cC hx,cC hy,eqGuard,binOp,Op.intDiv,hb]
   ·simp at h
  ·simp at h
 ·simp at h
end
open Go.RowKit Go.IntWalk
structure Ow where
 f:Bool
 o:Int
 g:Qw
 a:Qw
 b:Qw
 c:Qw
 d:Qw
structure On where
 f:Bool
 o:Int
 g:Rat
 a:Rat
 b:Rat
 c:Rat
 d:Rat
structure Q5 where
 g:Qw
 a:Qw
 b:Qw
 c:Qw
 d:Qw
abbrev vd(a b:Qw):Value:=.agg #[.slice a.n.ao a.n.n a.n.c,.bool a.a,.slice a.m.ao a.m.n a.m.c,.bool a.b,.slice b.n.ao b.n.n b.n.c,.bool b.a,.slice b.m.ao b.m.n b.m.c,.bool b.b]
abbrev Uz(f:Bool)(o:Int)(g a b c d:Qw):Value:=.agg #[.bool f,.int .i64 o,.slice g.n.ao g.n.n g.n.c,.bool g.a,.slice g.m.ao g.m.n g.m.c,.bool g.b,.slice a.n.ao a.n.n a.n.c,.bool a.a,.slice a.m.ao a.m.n a.m.c,.bool a.b,
 .slice b.n.ao b.n.n b.n.c,.bool b.a,.slice b.m.ao b.m.n b.m.c,.bool b.b,.slice c.n.ao c.n.n c.n.c,.bool c.a,.slice c.m.ao c.m.n c.m.c,.bool c.b,.slice d.n.ao d.n.n d.n.c,.bool d.a,.slice d.m.ao d.m.n d.m.c,.bool d.b]
abbrev Bi(x y:Sw):Value:=.agg ((sv x).cells++(sv y).cells)
abbrev Hi(V:On)(x:Q5):Value:=Uz V.f V.o x.g x.a x.b x.c x.d
def OF(x:Q5)(a:Nat×On):aC where
 p I w:=(QG x.g (a.1,a.2.g)).p I w∧(QG x.a (a.1,a.2.a)).p I w∧(QG x.b (a.1,a.2.b)).p I w∧(QG x.c (a.1,a.2.c)).p I w∧(QG x.d (a.1,a.2.d)).p I w
 up:=by
  rintro I I' w w' ⟨g2,g3,g4,g5,g6⟩ h1 h2 h3;exact⟨(QG x.g _).up g2 h1 h2 h3,(QG x.a _).up g3 h1 h2 h3,(QG x.b _).up g4 h1 h2 h3,(QG x.c _).up g5 h1 h2 h3,(QG x.d _).up g6 h1 h2 h3⟩
section
variable{fin:VS→List aC→Prop}{Γ:List aC}{L:Nat}
theorem Cb{P:Program}{c:fC}(x:Q5){V:On} [h:aY (OF x) (L,V) Γ](hm:dz c.k=false)
  (hk:W tb P fin c (QG x.g (L,V.g)::QG x.a (L,V.a)::QG x.b (L,V.b)::QG x.c (L,V.c)::QG x.d (L,V.d)::Γ)):W tb P fin c Γ:=
 W.more (Δ:=[QG x.g (L,V.g),QG x.a (L,V.a),QG x.b (L,V.b),QG x.c (L,V.c),QG x.d (L,V.d)]) hm (fun I w _ hh=>by
  obtain⟨g2,g3,g4,g5,g6⟩:=h.p hh;exact aE.cons g2 (aE.cons g3 (aE.cons g4 (aE.cons g5 (aU g6))))) hk
theorem VG{x:Q5}{L' L1 L2 L3 L4 L5:Nat}{V:On}{g a b c d:Rat} [h1:aY (QG x.g) (L1,g) Γ] [h2:aY (QG x.a) (L2,a) Γ] [h3:aY (QG x.b) (L3,b) Γ] [h4:aY (QG x.c) (L4,c) Γ] [h5:aY (QG x.d) (L5,d) Γ]
  (e1:g=V.g)(e2:a=V.a)(e3:b=V.b)(e4:c=V.c)(e5:d=V.d)(hL:L1≤L'∧L2≤L'∧L3≤L'∧L4≤L'∧L5≤L'):∀(I:fN) (w:World),br tb I w→aE Γ I w→aE [OF x (L',V)] I w:=fun I w _ hh=>by
 subst e1 e2 e3 e4 e5;obtain⟨l1,l2,l3,l4,l5⟩:=hL;exact aU ⟨QF.up2 (h1.p hh) l1,QF.up2 (h2.p hh) l2,QF.up2 (h3.p hh) l3,QF.up2 (h4.p hh) l4,QF.up2 (h5.p hh) l5⟩
end
def tm1(x y:Rat)(c d:Int):Rat:=x*c+y*d
def tm2(x y:Rat)(c d:Int):Rat:=y*c+x*Rat.divInt d 2
def pc(o:Int):Int:=if o=0 then 1 else if o=4 then-1 else 0
def ps(o:Int):Int:=if o=2 then 1 else if o=6 then-1 else 0
def Md(o:Int):Int:=if o=1∨o=7 then 1 else if o=3∨o=5 then-1 else 0
def Me(o:Int):Int:=if o=1∨o=3 then 1 else if o=5∨o=7 then-1 else 0
def On.mag(V:On):Rat:=if V.g.num.sign=0 then 1 else V.g
def On.sg(V:On)(z:Rat):Rat:=if V.f then-z else z
def On.u0(V:On)(x y z w:Rat):Rat:=tm1 (x*V.mag) (y*V.mag) (pc V.o) (Md V.o)+ -(tm1 (V.sg z*V.mag) (V.sg w*V.mag) (ps V.o) (Me V.o))+V.a
def On.u1(V:On)(x y z w:Rat):Rat:=tm2 (x*V.mag) (y*V.mag) (pc V.o) (Md V.o)+ -(tm2 (V.sg z*V.mag) (V.sg w*V.mag) (ps V.o) (Me V.o))+V.b
def On.v0(V:On)(x y z w:Rat):Rat:=tm1 (x*V.mag) (y*V.mag) (ps V.o) (Me V.o)+tm1 (V.sg z*V.mag) (V.sg w*V.mag) (pc V.o) (Md V.o)+V.c
def On.v1(V:On)(x y z w:Rat):Rat:=tm2 (x*V.mag) (y*V.mag) (ps V.o) (Me V.o)+tm2 (V.sg z*V.mag) (V.sg w*V.mag) (pc V.o) (Md V.o)+V.d
def r2(x y:Rat):Sn:=⟨2,0,x,y,0,0⟩
def Dq(L:Nat)(x y:Rat)(v:Value)(Δ:List aC):Prop:=∃a b:Qw,v=vd a b∧Δ=[QG a (L,x),QG b (L,y)]
def vr(L:Nat)(X Y:Sn)(v:Value)(Δ:List aC):Prop:=∃x y:Sw,v=Bi x y∧Δ=[SF x (L,X),SF y (L,Y)]
def On.then(V U:On):On:=⟨!(V.f==U.f),if U.f then(-V.o+U.o) % 8 else(V.o+U.o) % 8,V.mag*U.mag,U.u0 V.a V.b V.c V.d,U.u1 V.a V.b V.c V.d,U.v0 V.a V.b V.c V.d,U.v1 V.a V.b V.c V.d⟩
theorem Vi:∀n m:_root_.Fin 8,bits BinOp.and .i64 (IntKind.i64.wrap ((n:Int)+m)) 7=((n:Int)+m) % 8:=by decide+kernel
theorem Vj:∀n m:_root_.Fin 8,bits BinOp.and .i64 (IntKind.i64.wrap (IntKind.i64.wrap (0-(n:Int))+m)) 7=(-(n:Int)+m) % 8:=by decide+kernel
theorem RC{o:Int}(h:0≤o∧o≤7):∃n:_root_.Fin 8,o=(n:Int):=⟨⟨o.toNat,by omega⟩,by simp only;omega⟩
theorem YW{o u:Int}(h:0≤o∧o≤7)(h':0≤u∧u≤7):bits BinOp.and .i64 (IntKind.i64.wrap (o+u)) 7=(o+u) % 8:=by
 obtain⟨n,rfl⟩:=RC h;obtain⟨m,rfl⟩:=RC h';exact Vi n m
theorem YX{o u:Int}(h:0≤o∧o≤7)(h':0≤u∧u≤7):bits BinOp.and .i64 (IntKind.i64.wrap (IntKind.i64.wrap (0-o)+u)) 7=(-o+u) % 8:=by
 obtain⟨n,rfl⟩:=RC h;obtain⟨m,rfl⟩:=RC h';exact Vj n m
theorem Kx(V U:On):0≤(V.then U).o∧(V.then U).o≤7:=by
 unfold On.then
 simp only;split<;>omega
theorem Xd(o:Int): -1≤pc o∧pc o≤1:=by unfold pc;(repeat' split)<;>omega
theorem Xe(o:Int): -1≤ps o∧ps o≤1:=by unfold ps;(repeat' split)<;>omega
theorem Px(o:Int): -1≤Md o∧Md o≤1:=by unfold Md;(repeat' split)<;>omega
theorem PA(o:Int): -1≤Me o∧Me o≤1:=by unfold Me;(repeat' split)<;>omega
section
variable{fin:VS→List aC→Prop}{Γ:List aC}{L M K:Nat}
theorem acj{a:Qw}{L':Nat}{q q':Rat} [h:aY (QG a) (L,q) Γ](hL:L≤L')(hq:q=q'):∀(I:fN) (w:World),br tb I w→aE Γ I w→aE [QG a (L',q')] I w:=fun I w _ hh=>by
 subst hq;exact aU (QF.up2 (h.p hh) hL)
theorem An{a b:Qw}{L1 L2 L':Nat}{q q' r r':Rat} [h:aY (QG a) (L1,q) Γ] [h':aY (QG b) (L2,r) Γ](hL:L1≤L'∧L2≤L')(hq:q=q')(hr:r=r'):∀(I:fN) (w:World),br tb I w→aE Γ I w→aE [QG a (L',q'),QG b (L',r')] I w:=fun I w _ hh=>by
 subst hq hr;exact aE.cons (QF.up2 (h.p hh) hL.1) (aU (QF.up2 (h'.p hh) hL.2))
theorem adW{z:Int}(h:(z==0)=true):z=0:=eq_of_beq h
theorem JW(o:Int)(h:0≤o∧o≤7):aw tb Tryz.prog 206 [.int .i64 o] Γ (jf (.agg #[.int .i64 (pc o),.int .i64 (ps o),.int .i64 (Md o),.int .i64 (Me o)])):=by
 obtain rfl|rfl|rfl|rfl|rfl|rfl|rfl|rfl:o=0∨o=1∨o=2∨o=3∨o=4∨o=5∨o=6∨o=7:=by omega
 ·exact aw.of_W az Tryz.func206 rfl (W.r [] (.agg #[.int .i64 1,.int .i64 0,.int .i64 0,.int .i64 0]) ⟨rfl,rfl⟩ bR)
 ·exact aw.of_W az Tryz.func206 rfl (W.r [] (.agg #[.int .i64 0,.int .i64 0,.int .i64 1,.int .i64 1]) ⟨rfl,rfl⟩ bR)
 ·exact aw.of_W az Tryz.func206 rfl (W.r [] (.agg #[.int .i64 0,.int .i64 1,.int .i64 0,.int .i64 0]) ⟨rfl,rfl⟩ bR)
 ·exact aw.of_W az Tryz.func206 rfl (W.r [] (.agg #[.int .i64 0,.int .i64 0,.int .i64 (-1),.int .i64 1]) ⟨rfl,rfl⟩ bR)
 ·exact aw.of_W az Tryz.func206 rfl (W.r [] (.agg #[.int .i64 (-1),.int .i64 0,.int .i64 0,.int .i64 0]) ⟨rfl,rfl⟩ bR)
 ·exact aw.of_W az Tryz.func206 rfl (W.r [] (.agg #[.int .i64 0,.int .i64 0,.int .i64 (-1),.int .i64 (-1)]) ⟨rfl,rfl⟩ bR)
 ·exact aw.of_W az Tryz.func206 rfl (W.r [] (.agg #[.int .i64 0,.int .i64 (-1),.int .i64 0,.int .i64 0]) ⟨rfl,rfl⟩ bR)
 ·exact aw.of_W az Tryz.func206 rfl (W.r [] (.agg #[.int .i64 0,.int .i64 0,.int .i64 1,.int .i64 (-1)]) ⟨rfl,rfl⟩ bR)
theorem ln(u:Sl)(d:Bool)(v:Sl)(e:Bool)(a b:Qw){m n:Int}{x y:Rat}{L1 L2:Nat} [h1:aY (ZF u d) (L,m) Γ] [h2:aY (ZF v e) (M,n) Γ] [ha:aY (QG a) (L1,x) Γ] [hb:aY (QG b) (L2,y) Γ](hm:0≤m)(hn:0≤n)
  (hL:L≤100000:=by omega)(hM:M≤100000:=by omega):
  aw tb Tryz.prog 143 [zv u d,zv v e,vd a b] Γ (Ti (max (max L M) (max L1 L2)) ⟨m,n,x,y,0,0⟩):=by
 refine aw.of_W az Tryz.func143 rfl ?_;refine cQ [] 2 ([(⟨a.n,a.a,a.m,a.b,x⟩:QE),⟨b.n,b.a,b.m,b.b,y⟩].flatMap QR.cells) az (fun B=>?_);refine aq [] ((Pt (Γ:=OL QR (some ⟨B,0,none⟩) (max L1 L2,[(⟨a.n,a.a,a.m,a.b,x⟩:QE),⟨b.n,b.a,b.m,b.b,y⟩])::_) u d v e (some ⟨B,0,none⟩) 2 2 rfl (by omega) hm hn).weak (fun I w hd hh=>aE.cons ⟨fun q hq=>?_,?_⟩ hh) (fun _ _ h=>h)) ?_
 ·simp at hq;rcases hq with rfl|rfl
  ·exact QF.up2 (aY.p (k:=QG a) (a:=(L1,x)) inferInstance hh) (by omega)
  ·exact QF.up2 (aY.p (k:=QG b) (a:=(L2,y)) inferInstance hh) (by omega)
 ·exact RA.of_row (aY.p (k:=d_ B) (a:=[(⟨a.n,a.a,a.m,a.b,x⟩:QE),⟨b.n,b.a,b.m,b.b,y⟩].flatMap QR.cells) inferInstance hh) (fun _ _ h=>h)
 rintro _ _ ⟨X,rfl,rfl⟩;exact W.r [] (sv X) ⟨X,rfl,rfl⟩ (pG (by omega) rfl)
theorem kQ(n:Int)(h1: -9223372036854775808≤n)(h2:n<9223372036854775808):
  aw tb Tryz.prog 141 [.int .i64 n] Γ (sL 2 (n:Rat)):=by
 refine aw.of_W az Tryz.func141 rfl ?_;refine aq [] (cU n (by omega) (by omega)) ?_;rintro _ _ ⟨u1,d1,rfl,rfl⟩;refine aq [] (cg u1 d1) ?_;rintro _ _ ⟨n2,a2,m2,b2,rfl,rfl⟩;exact W.r [] (qv n2 a2 m2 b2) ⟨_,_,_,_,rfl,rfl⟩ (jY (by omega) rfl)
theorem Ph:
  aw tb Tryz.prog 142 [] Γ (fun v Δ=>∃(u:Sl) (d:Bool),v=.tuple #[zv u d,zv ⟨none,0,0⟩ false]∧Δ=[ZF u d (2,2),ZF ⟨none,0,0⟩ false (2,0)]):=by
 refine aw.of_W az Tryz.func142 rfl ?_;refine aq [] (cU 2 (by omega) (by omega)) ?_;rintro _ _ ⟨u1,d1,rfl,rfl⟩;exact W.r [] (.tuple #[zv u1 d1,zv ⟨none,0,0⟩ false]) ⟨_,_,rfl,rfl⟩ (lM (Δ:=[_]) (Δ':=[_]) (kO (by omega) rfl) zo)
theorem nh(a b:Qw)(c d:Int){x y:Rat} [aY (QG a) (L,x) Γ] [aY (QG b) (M,y) Γ](hc: -9223372036854775808≤c∧c<9223372036854775808)(hd: -9223372036854775808≤d∧d<9223372036854775808)(hL:L≤400000:=by omega)(hM:M≤400000:=by omega):
  aw tb Tryz.prog 208 [vd a b,.int .i64 c,.int .i64 d] Γ (Dq (L+M+30) (tm1 x y c d) (tm2 x y c d)):=by
 refine aw.of_W az Tryz.func208 rfl ?_;refine aq [] (A8 d 2 (by omega) (by omega) (by omega) (by omega) (by omega)) ?_;rintro _ _ ⟨n1,a1,m1,b1,rfl,rfl⟩;refine aq [] (kQ c (by omega) (by omega)) ?_;rintro _ _ ⟨n2,a2,m2,b2,rfl,rfl⟩;refine aq [] (bN a.n a.a a.m a.b n2 a2 m2 b2) ?_;rintro _ _ ⟨n3,a3,m3,b3,rfl,rfl⟩;refine aq [] (kQ d (by omega) (by omega)) ?_;rintro _ _ ⟨n4,a4,m4,b4,rfl,rfl⟩;refine aq [] (bN b.n b.a b.m b.b n4 a4 m4 b4) ?_;rintro _ _ ⟨n5,a5,m5,b5,rfl,rfl⟩;refine aq [] (fo n3 a3 m3 b3 n5 a5 m5 b5) ?_;rintro _ _ ⟨n6,a6,m6,b6,rfl,rfl⟩;refine aq [] (kQ c (by omega) (by omega)) ?_;rintro _ _ ⟨n7,a7,m7,b7,rfl,rfl⟩;refine aq [] (bN b.n b.a b.m b.b n7 a7 m7 b7) ?_;rintro _ _ ⟨n8,a8,m8,b8,rfl,rfl⟩;refine aq [] (bN a.n a.a a.m a.b n1 a1 m1 b1) ?_;rintro _ _ ⟨n9,a9,m9,b9,rfl,rfl⟩;refine aq [] (fo n8 a8 m8 b8 n9 a9 m9 b9) ?_;rintro _ _ ⟨n10,Rl,Z_,y6,rfl,rfl⟩;exact W.r [] (vd ⟨n6,a6,m6,b6⟩ ⟨n10,Rl,Z_,y6⟩) ⟨⟨_,_,_,_⟩,⟨_,_,_,_⟩,rfl,rfl⟩ (An (by omega) rfl rfl)
theorem nw(a b c d:Qw){x y z w:Rat}{L1 L2 L3 L4:Nat} [aY (QG a) (L1,x) Γ] [aY (QG b) (L2,y) Γ] [aY (QG c) (L3,z) Γ] [aY (QG d) (L4,w) Γ](hL:L1≤1000000∧L2≤1000000∧L3≤1000000∧L4≤1000000:=by omega):
  aw tb Tryz.prog 207 [vd a b,vd c d] Γ (Dq (max L1 L2+max L3 L4+5) (x+z) (y+w)):=by
 refine aw.of_W az Tryz.func207 rfl ?_;refine aq [] (fo a.n a.a a.m a.b c.n c.a c.m c.b) ?_;rintro _ _ ⟨n1,a1,m1,b1,rfl,rfl⟩;refine aq [] (fo b.n b.a b.m b.b d.n d.a d.m d.b) ?_;rintro _ _ ⟨n2,a2,m2,b2,rfl,rfl⟩;exact W.r [] (vd ⟨n1,a1,m1,b1⟩ ⟨n2,a2,m2,b2⟩) ⟨⟨_,_,_,_⟩,⟨_,_,_,_⟩,rfl,rfl⟩ (An (by omega) rfl rfl)
theorem A5(a b:Qw){x y:Rat}{L1 L2:Nat} [aY (QG a) (L1,x) Γ] [aY (QG b) (L2,y) Γ](hL:L1≤1000000∧L2≤1000000:=by omega):
  aw tb Tryz.prog 205 [vd a b] Γ (Dq (max L1 L2) (-x) (-y)):=by
 refine aw.of_W az Tryz.func205 rfl ?_;refine aq [] (oW a.n a.a a.m a.b) ?_;rintro _ _ ⟨n1,a1,m1,b1,rfl,rfl⟩;refine aq [] (oW b.n b.a b.m b.b) ?_;rintro _ _ ⟨n2,a2,m2,b2,rfl,rfl⟩;exact W.r [] (vd ⟨n1,a1,m1,b1⟩ ⟨n2,a2,m2,b2⟩) ⟨⟨_,_,_,_⟩,⟨_,_,_,_⟩,rfl,rfl⟩ (An (by omega) rfl rfl)
theorem TK{a b c d:Qw}{L1 L2 L3 L4 L':Nat}{p p' q q' r r' s s':Rat} [h1:aY (QG a) (L1,p) Γ] [h2:aY (QG b) (L2,q) Γ] [h3:aY (QG c) (L3,r) Γ] [h4:aY (QG d) (L4,s) Γ](hL:L1≤L'∧L2≤L'∧L3≤L'∧L4≤L')(e1:p=p')(e2:q=q')(e3:r=r')(e4:s=s'):
  ∀(I:fN) (w:World),br tb I w→aE Γ I w→aE [QG a (L',p'),QG b (L',q'),QG c (L',r'),QG d (L',s')] I w:=fun I w _ hh=>by
 subst e1 e2 e3 e4;exact aE.cons (QF.up2 (h1.p hh) hL.1) (aE.cons (QF.up2 (h2.p hh) hL.2.1) (aE.cons (QF.up2 (h3.p hh) hL.2.2.1) (aU (QF.up2 (h4.p hh) hL.2.2.2))))
theorem Jl{x y:Sw}{L1 L2 L':Nat}{X X' Y Y':Sn} [h1:aY (SF x) (L1,X) Γ] [h2:aY (SF y) (L2,Y) Γ](hL:L1≤L'∧L2≤L')(e1:X=X')(e2:Y=Y'):∀(I:fN) (w:World),br tb I w→aE Γ I w→aE [SF x (L',X'),SF y (L',Y')] I w:=fun I w hd hh=>by
 exact aE.cons ((pG (Γ:=Γ) (x:=x) hL.1 e1) I w hd hh).h0' (pG (Γ:=Γ) (x:=y) hL.2 e2 I w hd hh)
theorem vI(f:Bool)(o:Int)(g a b c d:Qw){V:On} [aY (QG g) (L,V.g) Γ](hL:L≤1000000:=by omega):
  aw tb Tryz.prog 149 [Uz f o g a b c d] Γ (fun v Δ=>∃g:Qw,v=qv g.n g.a g.m g.b∧Δ=[QG g (max L 2,V.mag)]):=by
 refine aw.of_W az Tryz.func149 rfl ?_;refine aq [] (iQ g.n g.a g.m g.b) ?_;rintro _ _ ⟨rfl,rfl⟩;refine W.d [] 6 (V.g.num.sign==0) (fun hb=>?_) (fun hb=>?_)
 ·skip
  refine aq [6] (kQ 1 (by omega) (by omega)) ?_;rintro _ _ ⟨n2,a2,m2,b2,rfl,rfl⟩;exact W.r [] (qv n2 a2 m2 b2) ⟨⟨_,_,_,_⟩,rfl,rfl⟩ (jY (by omega) (by unfold On.mag;rw[if_pos (adW hb)];rfl))
 ·skip
  exact W.r [6] (qv g.n g.a g.m g.b) ⟨g,rfl,rfl⟩ (acj (by omega) (by unfold On.mag;rw[if_neg (j_ hb)]))
theorem Eb(V:On)(x:Q5)(p q r s:Qw){X Y Z U:Rat}{L1 L2 L3 L4:Nat} [aY (OF x) (L,V) Γ] [aY (QG p) (L1,X) Γ] [aY (QG q) (L2,Y) Γ] [aY (QG r) (L3,Z) Γ] [aY (QG s) (L4,U) Γ](ho:0≤V.o∧V.o≤7)(hL:L≤10000∧L1≤10000∧L2≤10000∧L3≤10000∧L4≤10000:=by omega):
  aw tb Tryz.prog 140 [Hi V x,vd p q,vd r s] Γ (fun v Δ=>∃a b c d:Qw,v=.tuple #[vd a b,vd c d]∧Δ=[QG a (5*L+4*max (max L1 L2) (max L3 L4)+200,V.u0 X Y Z U),QG b (5*L+4*max (max L1 L2) (max L3 L4)+200,V.u1 X Y Z U),QG c (5*L+4*max (max L1 L2) (max L3 L4)+200,V.v0 X Y Z U),QG d (5*L+4*max (max L1 L2) (max L3 L4)+200,V.v1 X Y Z U)]):=by
 refine aw.of_W az Tryz.func140 rfl ?_;have b1:=Xd V.o;have b2:=Xe V.o;have b3:=Px V.o;have b4:=PA V.o;refine Cb x rfl ?_;refine W.d [] 14 (V.f) (fun hb=>?_) (fun hb=>?_)
 ·skip
  refine aq [14] (A5 r s) ?_;rintro _ _ ⟨a1,b1,rfl,rfl⟩;refine aq [] (vI V.f V.o x.g x.a x.b x.c x.d (V:=V)) ?_;rintro _ _ ⟨g2,rfl,rfl⟩;refine jP [] 4 ?_;refine aq [20] (bN p.n p.a p.m p.b g2.n g2.a g2.m g2.b) ?_;rintro _ _ ⟨n3,a3,m3,b3,rfl,rfl⟩;refine aq [] (bN a1.n a1.a a1.m a1.b g2.n g2.a g2.m g2.b) ?_;rintro _ _ ⟨n4,a4,m4,b4,rfl,rfl⟩;refine aq [20] (bN q.n q.a q.m q.b g2.n g2.a g2.m g2.b) ?_;rintro _ _ ⟨n5,a5,m5,b5,rfl,rfl⟩;refine aq [] (bN b1.n b1.a b1.m b1.b g2.n g2.a g2.m g2.b) ?_;rintro _ _ ⟨n6,a6,m6,b6,rfl,rfl⟩;refine aq [20] (JW V.o ho) ?_;rintro _ _ ⟨rfl,rfl⟩;refine aq [] (nh ⟨n3,a3,m3,b3⟩ ⟨n5,a5,m5,b5⟩ ((pc V.o)) ((Md V.o)) (by omega) (by omega)) ?_;rintro _ _ ⟨a8,b8,rfl,rfl⟩;refine aq [] (nh ⟨n4,a4,m4,b4⟩ ⟨n6,a6,m6,b6⟩ ((ps V.o)) ((Me V.o)) (by omega) (by omega)) ?_;rintro _ _ ⟨a9,b9,rfl,rfl⟩;refine aq [] (A5 a9 b9) ?_;rintro _ _ ⟨Rl,y6,rfl,rfl⟩;refine aq [] (nw a8 b8 Rl y6) ?_;rintro _ _ ⟨U1,Ae,rfl,rfl⟩;refine aq [] (nh ⟨n3,a3,m3,b3⟩ ⟨n5,a5,m5,b5⟩ ((ps V.o)) ((Me V.o)) (by omega) (by omega)) ?_;rintro _ _ ⟨YQ,Tx,rfl,rfl⟩;refine aq [] (nh ⟨n4,a4,m4,b4⟩ ⟨n6,a6,m6,b6⟩ ((pc V.o)) ((Md V.o)) (by omega) (by omega)) ?_;rintro _ _ ⟨U2,Ch,rfl,rfl⟩;refine aq [] (nw YQ Tx U2 Ch) ?_;rintro _ _ ⟨U3,Ve,rfl,rfl⟩;refine aq [] (nw U1 Ae x.a x.b) ?_
  rintro _ _ ⟨a15,b15,rfl,rfl⟩;refine aq [] (nw U3 Ve x.c x.d) ?_;rintro _ _ ⟨a16,b16,rfl,rfl⟩;exact W.r [] (.tuple #[vd a15 b15,vd a16 b16]) ⟨_,_,_,_,rfl,rfl⟩ (TK (by omega) (by unfold On.u0 On.sg;rw[hb];rfl) (by unfold On.u1 On.sg;rw[hb];rfl) (by unfold On.v0 On.sg;rw[hb];rfl) (by unfold On.v1 On.sg;rw[hb];rfl))
 ·skip
  refine aq [14] (vI V.f V.o x.g x.a x.b x.c x.d (V:=V)) ?_;rintro _ _ ⟨Hd,rfl,rfl⟩;refine jP [] 4 ?_;refine aq [20] (bN p.n p.a p.m p.b Hd.n Hd.a Hd.m Hd.b) ?_;rintro _ _ ⟨Yo,XT,Yl,b18,rfl,rfl⟩;refine aq [] (bN r.n r.a r.m r.b Hd.n Hd.a Hd.m Hd.b) ?_;rintro _ _ ⟨Yp,XU,Ym,XW,rfl,rfl⟩;refine aq [20] (bN q.n q.a q.m q.b Hd.n Hd.a Hd.m Hd.b) ?_;rintro _ _ ⟨n20,a20,m20,b20,rfl,rfl⟩;refine aq [] (bN s.n s.a s.m s.b Hd.n Hd.a Hd.m Hd.b) ?_;rintro _ _ ⟨Yq,XV,Yn,XX,rfl,rfl⟩;refine aq [20] (JW V.o ho) ?_;rintro _ _ ⟨rfl,rfl⟩;refine aq [] (nh ⟨Yo,XT,Yl,b18⟩ ⟨n20,a20,m20,b20⟩ ((pc V.o)) ((Md V.o)) (by omega) (by omega)) ?_;rintro _ _ ⟨a23,b23,rfl,rfl⟩;refine aq [] (nh ⟨Yp,XU,Ym,XW⟩ ⟨Yq,XV,Yn,XX⟩ ((ps V.o)) ((Me V.o)) (by omega) (by omega)) ?_;rintro _ _ ⟨a24,b24,rfl,rfl⟩;refine aq [] (A5 a24 b24) ?_;rintro _ _ ⟨a25,b25,rfl,rfl⟩;refine aq [] (nw a23 b23 a25 b25) ?_;rintro _ _ ⟨a26,b26,rfl,rfl⟩;refine aq [] (nh ⟨Yo,XT,Yl,b18⟩ ⟨n20,a20,m20,b20⟩ ((ps V.o)) ((Me V.o)) (by omega) (by omega)) ?_;rintro _ _ ⟨U4,Vf,rfl,rfl⟩;refine aq [] (nh ⟨Yp,XU,Ym,XW⟩ ⟨Yq,XV,Yn,XX⟩ ((pc V.o)) ((Md V.o)) (by omega) (by omega)) ?_;rintro _ _ ⟨U5,xo,rfl,rfl⟩;refine aq [] (nw U4 Vf U5 xo) ?_;rintro _ _ ⟨U6,Vg,rfl,rfl⟩;refine aq [] (nw a26 b26 x.a x.b) ?_
  rintro _ _ ⟨a30,b30,rfl,rfl⟩;refine aq [] (nw U6 Vg x.c x.d) ?_;rintro _ _ ⟨a31,zc,rfl,rfl⟩;exact W.r [] (.tuple #[vd a30 b30,vd a31 zc]) ⟨_,_,_,_,rfl,rfl⟩ (TK (by omega) (by unfold On.u0 On.sg;rw[hb];rfl) (by unfold On.u1 On.sg;rw[hb];rfl) (by unfold On.v0 On.sg;rw[hb];rfl) (by unfold On.v1 On.sg;rw[hb];rfl))
theorem aaz(V:On)(x:Q5)(a b:Int) [aY (OF x) (L,V) Γ](ho:0≤V.o∧V.o≤7)(ha: -9223372036854775808≤a∧a<9223372036854775808)(hb: -9223372036854775808≤b∧b<9223372036854775808)(hL:L≤10000:=by omega):
  aw tb Tryz.prog 86 [Hi V x,.agg #[.int .i64 a,.int .i64 b]] Γ (vr (5*L+208) (r2 (V.u0 a 0 b 0) (V.u1 a 0 b 0)) (r2 (V.v0 a 0 b 0) (V.v1 a 0 b 0))):=by
 refine aw.of_W az Tryz.func86 rfl ?_;refine W.more rfl (kN (L':=0)) ?_;refine aq [] (kQ a (by omega) (by omega)) ?_;rintro _ _ ⟨n1,a1,m1,b1,rfl,rfl⟩;refine aq [] (kQ b (by omega) (by omega)) ?_;rintro _ _ ⟨n2,a2,m2,b2,rfl,rfl⟩;refine aq [] (Eb V x ⟨n1,a1,m1,b1⟩ bV ⟨n2,a2,m2,b2⟩ bV ho) ?_;rintro _ _ ⟨a3,b3,c3,d3,rfl,rfl⟩;refine aq [] (Ph) ?_;rintro _ _ ⟨u4,d4,rfl,rfl⟩;refine aq [] (ln u4 d4 ⟨none,0,0⟩ false a3 b3 (by omega) (by omega)) ?_;rintro _ _ ⟨X5,rfl,rfl⟩;refine aq [] (ln u4 d4 ⟨none,0,0⟩ false c3 d3 (by omega) (by omega)) ?_;rintro _ _ ⟨X6,rfl,rfl⟩;exact W.r [] (Bi X5 X6) ⟨_,_,rfl,rfl⟩ (Jl (by omega) rfl rfl)
theorem Sz(f:Bool)(g:Qw)(o:Int)(a c:Qw){X Y Z:Rat}{L1 L2 L3:Nat} [aY (QG g) (L1,X) Γ] [aY (QG a) (L2,Y) Γ] [aY (QG c) (L3,Z) Γ](ho:0≤o∧o≤7)(hX:0<X.num.sign)(hL:L1≤1000000:=by omega):
  aw tb Tryz.prog 156 [.bool f,qv g.n g.a g.m g.b,.int .i64 o,qv a.n a.a a.m a.b,qv c.n c.a c.m c.b] Γ (fun v Δ=>v=.tuple #[Uz f o g a bV c bV,.int .i64 0]∧Δ=[OF ⟨g,a,bV,c,bV⟩ (max L1 (max L2 L3),⟨f,o,X,Y,0,Z,0⟩)]):=by
 refine aw.of_W az Tryz.func156 rfl ?_;refine W.more rfl (kN (L':=0)) ?_;refine aR [] 15 (decide (o<0)) (by rw[aV];omega) ?_;refine aR [15] 12 (decide (o>7)) (by rw[aV];omega) ?_;refine aq [12] (iQ g.n g.a g.m g.b) ?_;rintro _ _ ⟨rfl,rfl⟩;refine aR [] 20 (decide (X.num.sign≤0)) (by rw[aV];omega) ?_;exact W.r [20] (.tuple #[Uz f o g a ⟨⟨none,0,0⟩,false,⟨none,0,0⟩,false⟩ c ⟨⟨none,0,0⟩,false,⟨none,0,0⟩,false⟩,.int .i64 0]) ⟨rfl,rfl⟩ (VG rfl rfl rfl rfl rfl (by omega))
theorem SA(V U:On)(x y:Q5) [aY (OF x) (L,V) Γ] [aY (OF y) (M,U) Γ](ho:0≤V.o∧V.o≤7)(hu:0≤U.o∧U.o≤7)(hL:L≤10000∧M≤10000:=by omega):
  aw tb Tryz.prog 159 [Hi V x,Hi U y] Γ (fun v Δ=>∃q:Q5,v=Hi (V.then U) q∧Δ=[OF q (5*M+4*L+300,V.then U)]):=by
 refine aw.of_W az Tryz.func159 rfl ?_;refine W.more (Δ:=[QG y.g (M,U.g)]) rfl (fun I w _ hh=>aU (aY.p (k:=OF y) (a:=(M,U)) inferInstance hh).1) ?_;refine Cb x rfl ?_;refine aq [] (Eb U y x.a x.b x.c x.d hu) ?_;rintro _ _ ⟨a1,b1,c1,d1,rfl,rfl⟩;refine W.d [] 20 (U.f) (fun hb=>?_) (fun hb=>?_)
 ·skip
  refine aq [20] (vI V.f V.o x.g x.a x.b x.c x.d (V:=V)) ?_;rintro _ _ ⟨g2,rfl,rfl⟩;refine aq [] (vI U.f U.o y.g y.a y.b y.c y.d (V:=U)) ?_;rintro _ _ ⟨g3,rfl,rfl⟩;refine aq [] (bN g2.n g2.a g2.m g2.b g3.n g3.a g3.m g3.b) ?_;rintro _ _ ⟨n4,a4,m4,b4,rfl,rfl⟩;exact W.r [] (Uz (!V.f==U.f) (bits BinOp.and .i64 (IntKind.i64.wrap (IntKind.i64.wrap (0-V.o)+U.o)) 7) ⟨n4,a4,m4,b4⟩ a1 b1 c1 d1) ⟨⟨⟨_,_,_,_⟩,_,_,_,_⟩,dF (fun z=>Uz (!(V.f==U.f)) z _ _ _ _ _) (by rw[YX ho hu];unfold On.then;simp only;rw[hb,if_pos rfl]),rfl⟩ (VG rfl rfl rfl rfl rfl (by omega))
 ·skip
  refine aq [20] (vI V.f V.o x.g x.a x.b x.c x.d (V:=V)) ?_;rintro _ _ ⟨g5,rfl,rfl⟩;refine aq [] (vI U.f U.o y.g y.a y.b y.c y.d (V:=U)) ?_;rintro _ _ ⟨g6,rfl,rfl⟩;refine aq [] (bN g5.n g5.a g5.m g5.b g6.n g6.a g6.m g6.b) ?_;rintro _ _ ⟨n7,a7,m7,b7,rfl,rfl⟩;exact W.r [] (Uz (!V.f==U.f) (bits BinOp.and .i64 (IntKind.i64.wrap (V.o+U.o)) 7) ⟨n7,a7,m7,b7⟩ a1 b1 c1 d1) ⟨⟨⟨_,_,_,_⟩,_,_,_,_⟩,dF (fun z=>Uz (!(V.f==U.f)) z _ _ _ _ _) (by rw[YW ho hu];unfold On.then;simp only;rw[hb,if_neg (by simp)]),rfl⟩ (VG rfl rfl rfl rfl rfl (by omega))
end
section
variable{fin:VS→List aC→Prop}{Γ:List aC}{L M K:Nat}
theorem jl(s:Sl)(b:Bool){x:Int} [aY (ZF s b) (L,x) Γ](h:gZ x=true)(hL:L≤1000000000000:=by omega):aw tb Tryz.prog 136 [zv s b] Γ (jf (.tuple #[.int .i64 x,.bool true])):=by
 have g:=wV (Γ:=Γ) s b (x:=x);simpa only[h,eX]using g
end
section
variable{fin:VS→List aC→Prop}{Γ:List aC}{L M K:Nat}
end
section
variable{fin:VS→List aC→Prop}{Γ:List aC}{L M K:Nat}
end
def xl(f:Nat→Rat):Prop:=∃e:Rat,0<e∧∃K,∀k,K≤k→e≤f k
def vP(f:Nat→Rat):Prop:=∀e:Rat,0<e→∃K,∀k,K≤k→ -e≤f k∧f k≤e
def uO(f:Nat→Rat):Prop:=∃C:Rat,0<C∧∀k,-C≤f k∧f k≤C
def oe(f:Nat→Rat)(s:Int):Prop:=(s=1∧xl f)∨(s=0∧vP f)∨(s= -1∧xl (fun k=> -f k))
theorem Au{e:Rat}(h:0<e):0<e*Rat.divInt 1 2∧e*Rat.divInt 1 2+e*Rat.divInt 1 2=e:=by
 have h2:Rat.divInt 1 2+Rat.divInt 1 2=1:=by decide+kernel
 have h3:(0:Rat)<Rat.divInt 1 2:=by decide+kernel
 exact⟨fF h h3,by rw[←Rat.mul_add,h2,sq]⟩
theorem xl.congr{f g:Nat→Rat}(h:xl f)(e:∀k,f k=g k):xl g:=by rwa [funext e]at h
theorem vP.congr{f g:Nat→Rat}(h:vP f)(e:∀k,f k=g k):vP g:=by rwa [funext e]at h
theorem oe.eqf{f g:Nat→Rat}{s:Int}(h:oe f s)(e:∀k,f k=g k):oe g s:=by rwa [funext e]at h
theorem xl.add_nul{f g:Nat→Rat}(h:xl f)(h':vP g):xl (fun k=>f k+g k):=by
 obtain⟨e,he,K,hK⟩:=h;obtain⟨h1,h2⟩:=Au he;obtain⟨K',hK'⟩:=h' _ h1;refine⟨_,h1,max K K',fun k hk=>?_⟩;have a:=hK k (by omega);have b:=(hK' k (by omega)).1;grind
theorem xl.add{f g:Nat→Rat}(h:xl f)(h':xl g):xl (fun k=>f k+g k):=by
 obtain⟨e,he,K,hK⟩:=h;obtain⟨e',he',K',hK'⟩:=h';refine⟨e,he,max K K',fun k hk=>?_⟩;have a:=hK k (by omega);have b:=hK' k (by omega);grind
theorem xl.mul{f g:Nat→Rat}(h:xl f)(h':xl g):xl (fun k=>f k*g k):=by
 obtain⟨e,he,K,hK⟩:=h;obtain⟨e',he',K',hK'⟩:=h';refine⟨e*e',fF he he',max K K',fun k hk=>?_⟩;have a:=hK k (by omega);have b:=hK' k (by omega);have h1:0≤(f k-e)*g k:=bD (by grind) (by grind);have h2:0≤e*(g k-e'):=bD (by grind) (by grind);grind
theorem vP.neg{f:Nat→Rat}(h:vP f):vP (fun k=> -f k):=by
 intro e he;obtain⟨K,hK⟩:=h e he;exact⟨K,fun k hk=>by have:=hK k hk;grind⟩
theorem vP.add{f g:Nat→Rat}(h:vP f)(h':vP g):vP (fun k=>f k+g k):=by
 intro e he;obtain⟨h1,h2⟩:=Au he;obtain⟨K,hK⟩:=h _ h1;obtain⟨K',hK'⟩:=h' _ h1;refine⟨max K K',fun k hk=>?_⟩;have a:=hK k (by omega);have b:=hK' k (by omega);grind
theorem AH{c:Rat}(h:0<c):∃d:Rat,0<d∧d*c=1:=by
 refine⟨c⁻¹,Rat.inv_pos.2 h,Rat.inv_mul_cancel _ (by grind)⟩
theorem vP.mul{f g:Nat→Rat}(h:vP f)(h':uO g):vP (fun k=>f k*g k):=by
 intro e he;obtain⟨C,hC,hg⟩:=h';obtain⟨d,hd,hdc⟩:=AH hC;obtain⟨K,hK⟩:=h (e*d) (fF he hd);refine⟨K,fun k hk=>?_⟩;obtain⟨a1,a2⟩:=hK k hk;obtain⟨b1,b2⟩:=hg k;have hb:e*d*C=e:=by rw[Rat.mul_assoc,hdc,sq]
 have h1:0≤(e*d-f k)*(C-g k):=bD (by grind) (by grind);have h2:0≤(e*d-f k)*(C+g k):=bD (by grind) (by grind);have h3:0≤(e*d+f k)*(C-g k):=bD (by grind) (by grind);have h4:0≤(e*d+f k)*(C+g k):=bD (by grind) (by grind);constructor<;>grind
theorem uO.const(x:Rat):uO (fun _=>x):=by
 by_cases h:0≤x
 ·exact⟨x+1,by grind,fun k=>by constructor<;>grind⟩
 ·exact⟨1-x,by grind,fun k=>by constructor<;>grind⟩
theorem uO.add{f g:Nat→Rat}(h:uO f)(h':uO g):uO (fun k=>f k+g k):=by
 obtain⟨C,hC,hf⟩:=h;obtain⟨D,hD,hg⟩:=h';exact⟨C+D,by grind,fun k=>by have:=hf k;have:=hg k;constructor<;>grind⟩
theorem uO.neg{f:Nat→Rat}(h:uO f):uO (fun k=> -f k):=by
 obtain⟨C,hC,hf⟩:=h;exact⟨C,hC,fun k=>by have:=hf k;constructor<;>grind⟩
theorem uO.mul{f g:Nat→Rat}(h:uO f)(h':uO g):uO (fun k=>f k*g k):=by
 obtain⟨C,hC,hf⟩:=h;obtain⟨D,hD,hg⟩:=h';refine⟨C*D,fF hC hD,fun k=>?_⟩;obtain⟨a1,a2⟩:=hf k;obtain⟨b1,b2⟩:=hg k;have h1:0≤(C-f k)*(D-g k):=bD (by grind) (by grind);have h2:0≤(C-f k)*(D+g k):=bD (by grind) (by grind);have h3:0≤(C+f k)*(D-g k):=bD (by grind) (by grind);have h4:0≤(C+f k)*(D+g k):=bD (by grind) (by grind);constructor<;>grind
theorem xl.not_nul{f:Nat→Rat}(h:xl f)(h':vP f):False:=by
 obtain⟨e,he,K,hK⟩:=h;obtain⟨h1,h2⟩:=Au he;obtain⟨K',hK'⟩:=h' _ h1;have a:=hK (max K K') (by omega);have b:=(hK' (max K K') (by omega)).2;grind
theorem xl.not_neg{f:Nat→Rat}(h:xl f)(h':xl (fun k=> -f k)):False:=by
 obtain⟨e,he,K,hK⟩:=h;obtain⟨e',he',K',hK'⟩:=h';have a:=hK (max K K') (by omega);have b:=hK' (max K K') (by omega);grind
theorem oe.unique{f:Nat→Rat}{s t:Int}(h:oe f s)(h':oe f t):s=t:=by
 have nn:∀{g:Nat→Rat},vP (fun k=> -g k)→vP g:=fun{g} h=>h.neg.congr (fun k=>by grind);rcases h with⟨rfl,h⟩|⟨rfl,h⟩|⟨rfl,h⟩<;>rcases h' with⟨rfl,h'⟩|⟨rfl,h'⟩|⟨rfl,h'⟩
 ·rfl
 ·exact(h.not_nul h').elim
 ·exact(h.not_neg h').elim
 ·exact(h'.not_nul h).elim
 ·rfl
 ·exact(h'.not_nul h.neg).elim
 ·exact(h'.not_neg h).elim
 ·exact(h.not_nul h'.neg).elim
 ·rfl
theorem oe.neg{f:Nat→Rat}{s:Int}(h:oe f s):oe (fun k=> -f k) (-s):=by
 rcases h with⟨rfl,h⟩|⟨rfl,h⟩|⟨rfl,h⟩
 ·exact .inr (.inr ⟨rfl,h.congr (fun k=>by grind)⟩)
 ·exact .inr (.inl ⟨rfl,h.neg⟩)
 ·exact .inl ⟨rfl,h⟩
theorem oe.add_nul{f g:Nat→Rat}{s:Int}(h:oe f s)(h':vP g):oe (fun k=>f k+g k) s:=by
 rcases h with⟨rfl,h⟩|⟨rfl,h⟩|⟨rfl,h⟩
 ·exact .inl ⟨rfl,h.add_nul h'⟩
 ·exact .inr (.inl ⟨rfl,h.add h'⟩)
 ·exact .inr (.inr ⟨rfl,(h.add_nul h'.neg).congr (fun k=>by grind)⟩)
theorem oe.add{f g:Nat→Rat}{s t:Int}(h:oe f s)(h':oe g t)(hst:t=0∨s=t):oe (fun k=>f k+g k) s:=by
 rcases h' with⟨rfl,h'⟩|⟨rfl,h'⟩|⟨rfl,h'⟩
 ·rcases h with⟨rfl,h⟩|⟨rfl,h⟩|⟨rfl,h⟩
  ·exact .inl ⟨rfl,h.add h'⟩
  ·simp at hst
  ·simp at hst
 ·exact h.add_nul h'
 ·rcases h with⟨rfl,h⟩|⟨rfl,h⟩|⟨rfl,h⟩
  ·simp at hst
  ·simp at hst
  ·exact .inr (.inr ⟨rfl,(h.add h').congr (fun k=>by grind)⟩)
theorem oe.mul{f g:Nat→Rat}{s t:Int}(h:oe f s)(h':oe g t)(bf:uO f)(bg:uO g):oe (fun k=>f k*g k) (s*t):=by
 rcases h with⟨rfl,h⟩|⟨rfl,h⟩|⟨rfl,h⟩<;>rcases h' with⟨rfl,h'⟩|⟨rfl,h'⟩|⟨rfl,h'⟩
 ·exact .inl ⟨rfl,h.mul h'⟩
 ·exact .inr (.inl ⟨rfl,(h'.mul bf).congr (fun k=>by grind)⟩)
 ·exact .inr (.inr ⟨rfl,(h.mul h').congr (fun k=>by grind)⟩)
 ·exact .inr (.inl ⟨rfl,h.mul bg⟩)
 ·exact .inr (.inl ⟨rfl,h.mul bg⟩)
 ·exact .inr (.inl ⟨rfl,h.mul bg⟩)
 ·exact .inr (.inr ⟨rfl,(h.mul h').congr (fun k=>by grind)⟩)
 ·exact .inr (.inl ⟨rfl,(h'.mul bf).congr (fun k=>by grind)⟩)
 ·exact .inl ⟨rfl,(h.mul h').congr (fun k=>by grind)⟩
theorem oe.congr{f g:Nat→Rat}{s:Int}(h:oe f s)(hn:vP (fun k=>g k-f k)):oe g s:=(h.add_nul hn).eqf (fun k=>by grind)
theorem xl.div{f g:Nat→Rat}(hg:xl g)(bg:uO g)(h:xl (fun k=>f k*g k)):xl f:=by
 obtain⟨e,he,K,hK⟩:=hg;obtain⟨C,hC,hb⟩:=bg;obtain⟨d,hd,K',hK'⟩:=h;obtain⟨i,hi,hic⟩:=AH hC;refine⟨d*i,fF hd hi,max K K',fun k hk=>?_⟩;have a:=hK k (by omega);have b:=hK' k (by omega);have c:=(hb k).2;have hg0:0<g k:=by grind
 have hf0:0≤f k:=by
  by_cases h:0≤f k
  ·exact h
  ·have:0≤ -f k*g k:=bD (by grind) (by grind);grind
 have h1:0≤f k*(C-g k):=bD hf0 (by grind);have h2:0≤(f k*C-d)*i:=bD (by grind) (by grind);have h3:f k*C*i=f k:=by rw[Rat.mul_assoc,Rat.mul_comm C i,hic,sq]
 grind
theorem vP.div{f g:Nat→Rat}(hg:xl g)(h:vP (fun k=>f k*g k)):vP f:=by
 intro δ hδ;obtain⟨e,he,K,hK⟩:=hg;obtain⟨K',hK'⟩:=h (δ*e) (fF hδ he);refine⟨max K K',fun k hk=>?_⟩;have a:=hK k (by omega);obtain⟨b1,b2⟩:=hK' k (by omega);constructor
 ·by_cases hh: -δ≤f k
  ·exact hh
  ·have h1:0<(-δ-f k)*g k:=fF (by grind) (by grind);have h2:0≤δ*(g k-e):=bD (by grind) (by grind);grind
 ·by_cases hh:f k≤δ
  ·exact hh
  ·have h1:0<(f k-δ)*g k:=fF (by grind) (by grind);have h2:0≤δ*(g k-e):=bD (by grind) (by grind);grind
theorem oe.div{f g:Nat→Rat}{s c:Int}(hg:oe g s)(hs:s≠0)(bg:uO g)(h:oe (fun k=>f k*g k) c):oe f (s*c):=by
 have pos:∀{g:Nat→Rat} {c:Int},xl g→uO g→oe (fun k=>f k*g k) c→oe f c:=by
  intro g c hg bg h;rcases h with⟨rfl,h⟩|⟨rfl,h⟩|⟨rfl,h⟩
  ·exact .inl ⟨rfl,hg.div bg h⟩
  ·exact .inr (.inl ⟨rfl,vP.div hg h⟩)
  ·exact .inr (.inr ⟨rfl,hg.div bg (h.congr (fun k=>by grind))⟩)
 rcases hg with⟨rfl,hg⟩|⟨rfl,hg⟩|⟨rfl,hg⟩
 ·rw[Int.one_mul];exact pos hg bg h
 ·simp at hs
 ·rw[Int.neg_one_mul];exact pos hg bg.neg (h.neg.eqf (fun k=>by grind))
theorem oe.const(x:Rat):oe (fun _=>x) x.num.sign:=by
 rw[G2];unfold vx;by_cases h:x<0
 ·rw[if_pos h];exact .inr (.inr ⟨rfl,-x,by grind,0,fun _ _=>by grind⟩)
 ·rw[if_neg h];by_cases h0:x=0
  ·rw[if_pos h0];exact .inr (.inl ⟨rfl,fun e he=>⟨0,fun _ _=>by constructor<;>grind⟩⟩)
  ·rw[if_neg h0];exact .inl ⟨rfl,x,by grind,0,fun _ _=>by grind⟩
theorem vP.zero:vP (fun _=>0):=fun e he=>⟨0,fun _ _=>by constructor<;>grind⟩
theorem Rf(x y:Rat):oe (fun _=>x-y) (vx x y):=by
 have e:vx x y=(x-y).num.sign:=by
  rw[G2];unfold vx;grind
 rw[e];exact oe.const _
def tk(k:Nat):Rat:=Rat.divInt 1 (2^k)
theorem BA(k:Nat):tk k*((2^k:Int):Rat)=1:=by
 have hp:(2:Int)^k≠0:=by have:=Int.pow_pos (n:=(2:Int)) (m:=k) (by decide);omega
 unfold tk;rw[←oq,lI,show(1:Rat)=Rat.divInt 1 1 from rfl,Rat.divInt_eq_divInt_iff (by simpa using hp) (by decide)];grind
theorem EA(k:Nat):(0:Rat)<((2^k:Int):Rat):=by
 have:=Int.pow_pos (n:=(2:Int)) (m:=k) (by decide);exact Rat.intCast_pos.2 this
theorem nD(k:Nat):0<tk k:=by
 have h:=BA k;have h2:=EA k;by_cases hh:0<tk k
 ·exact hh
 ·have:0≤ -tk k*((2^k:Int):Rat):=bD (by grind) (by grind);grind
theorem BB:vP tk:=by
 intro e he;refine⟨e.den,fun k hk=>⟨by have:=nD k;grind,?_⟩⟩;by_cases hh:tk k≤e
 ·exact hh
 ·exfalso
  have h1:0<(tk k-e)*((2^k:Int):Rat):=fF (by grind) (EA k);have h2:=BA k;have hlt:(e.den:Int)≤2^k:=by
   have:e.den<2^e.den:=Nat.lt_two_pow_self;have h3:(2:Nat)^e.den≤2^k:=cW (by decide) hk;have:e.den≤2^k:=by omega
   exact_mod_cast this
  have h3:((e.den:Int):Rat)≤((2^k:Int):Rat):=Rat.intCast_le_intCast.2 hlt;have h4:0≤e*(((2^k:Int):Rat)-((e.den:Int):Rat)):=bD (by grind) (by grind);have h5:e*((e.den:Int):Rat)=((e.num:Int):Rat):=by
   rw[←oq,←oq]
   conv=>lhs;rw[←k9 e]
   rw[lI,Rat.divInt_eq_divInt_iff (by have:=e.den_pos;simp;omega) (by decide)];simp
  have h6:(1:Rat)≤((e.num:Int):Rat):=by
   have:0<e.num:=by rw[Rat.lt_iff]at he;simpa using he
   exact_mod_cast (show(1:Int)≤e.num by omega)
  grind
def lE(m:Int)(k:Nat):Rat:=((xI (m.natAbs*4^k):Int):Rat)*tk k
theorem MJ(k:Nat):lE 0 k=0:=by
 unfold lE;rw[show(0:Int).natAbs*4^k=0 by simp,show xI 0=0 by decide];exact Rat.zero_mul _
theorem mV{m:Int}(hm:0≤m)(k:Nat):0≤lE m k∧lE m k*lE m k≤m∧(m:Rat)<(lE m k+tk k)*(lE m k+tk k):=by
 obtain⟨h1,h2⟩:=wE (m.natAbs*4^k);unfold lE;generalize xI (m.natAbs*4^k)=R at*;have ht:=nD k;have hm2:=BA k;have e4:(4:Nat)^k=2^k*2^k:=by rw[←Nat.mul_pow]
 have z1:(R:Int)*R≤m*(2^k*2^k):=by
  have:((R*R:Nat):Int)≤((m.natAbs*4^k:Nat):Int):=by exact_mod_cast h1
  rw[e4]at this
  push_cast at this
  rwa [show((m.natAbs:Int))=m by omega]at this
 have z2:m*(2^k*2^k)<((R:Int)+1)*(R+1):=by
  have:((m.natAbs*4^k:Nat):Int)<(((R+1)*(R+1):Nat):Int):=by exact_mod_cast h2
  rw[e4]at this
  push_cast at this
  rwa [show((m.natAbs:Int))=m by omega]at this
 have q1:((R:Int):Rat)*((R:Int):Rat)≤(m:Rat)*(((2^k:Int):Rat)*((2^k:Int):Rat)):=by
  rw[←dJ,←dJ,←dJ];exact Rat.intCast_le_intCast.2 z1
 have q2:(m:Rat)*(((2^k:Int):Rat)*((2^k:Int):Rat))<(((R:Int):Rat)+1)*(((R:Int):Rat)+1):=by
  have:((R:Int):Rat)+1=(((R:Int)+1:Int):Rat):=by rw[lx];rfl
  rw[this,←dJ,←dJ,←dJ];exact Rat.intCast_lt_intCast.2 z2
 have hR:(0:Rat)≤((R:Int):Rat):=by exact_mod_cast Int.natCast_nonneg R
 generalize((R:Int):Rat)=r at*;generalize((2^k:Int):Rat)=w at*;generalize tk k=t at*;have htt:0<t*t:=fF ht ht;have one:t*t*(w*w)=1:=by
  have:t*t*(w*w)=(t*w)*(t*w):=by grind
  rw[this,hm2];grind
 refine⟨bD hR (by grind),?_,?_⟩
 ·have h:=bD (show 0≤(m:Rat)*(w*w)-r*r by grind) (show 0≤t*t by grind);have e:((m:Rat)*(w*w)-r*r)*(t*t)=m*(t*t*(w*w))-r*t*(r*t):=by grind
  rw[e,one]at h;grind
 ·have h:=fF (show 0<(r+1)*(r+1)-(m:Rat)*(w*w)by grind) htt;have e:((r+1)*(r+1)-(m:Rat)*(w*w))*(t*t)=(r*t+t)*(r*t+t)-m*(t*t*(w*w)):=by grind
  rw[e,one]at h;grind
theorem tV{m:Int}(hm:0≤m):uO (lE m):=by
 refine⟨(m:Rat)+1,?_,fun k=>?_⟩
 ·have:(0:Rat)≤(m:Rat):=by exact_mod_cast hm
  grind
 ·obtain⟨h1,h2,_⟩:=mV hm k;have:(0:Rat)≤(m:Rat):=by exact_mod_cast hm
  refine⟨by grind,?_⟩;by_cases h:lE m k≤(m:Rat)+1
  ·exact h
  ·have h3:0≤(lE m k-1)*lE m k:=bD (by grind) h1;grind
theorem Qh(k:Nat):tk k≤1:=by
 by_cases h:tk k≤1
 ·exact h
 ·have h1:=BA k;have h2:(1:Rat)≤((2^k:Int):Rat):=by
   have:=Int.pow_pos (n:=(2:Int)) (m:=k) (by decide)
   exact_mod_cast (show(1:Int)≤2^k by omega)
  have h3:0≤(tk k-1)*(((2^k:Int):Rat)-1):=bD (by grind) (by grind);grind
theorem Dv{m:Int}(hm:0≤m):vP (fun k=>lE m k*lE m k-m):=by
 intro e he;have hm':(0:Rat)≤(m:Rat):=by exact_mod_cast hm
 obtain⟨d,hd,hdc⟩:=AH (c:=2*((m:Rat)+1)+1) (by grind);obtain⟨K,hK⟩:=BB (e*d) (fF he hd);refine⟨K,fun k hk=>?_⟩;obtain⟨h1,h2,h3⟩:=mV hm k;have ht:=nD k;have ht1:=Qh k;have hle:=(hK k hk).2;refine⟨?_,by grind⟩;have ha:lE m k≤(m:Rat)+1:=by
  by_cases h:lE m k≤(m:Rat)+1
  ·exact h
  ·have h3:0≤(lE m k-1)*lE m k:=bD (by grind) h1;grind
 show-e≤lE m k*lE m k-(m:Rat);generalize lE m k=a at*;generalize tk k=t at*;have g1:0≤(m+1-a)*t:=bD (by grind) (by grind);have g2:0≤t*(1-t):=bD (by grind) (by grind);have s1:(m:Rat)-a*a≤(2*((m:Rat)+1)+1)*t:=by grind
 have s2:(2*((m:Rat)+1)+1)*t≤e:=by
  have g3:0≤(e*d-t)*(2*((m:Rat)+1)+1):=bD (by grind) (by grind);have g4:e*d*(2*((m:Rat)+1)+1)=e:=by rw[Rat.mul_assoc,hdc,sq]
  generalize 2*((m:Rat)+1)+1=c at*;clear g1 g2 h3 h2 ha s1 hK;have g5:(e*d-t)*c=e*d*c-c*t:=by grind
  rw[g5,g4]at g3;grind
 clear g1 g2 h3 hdc;grind
theorem Rm{m:Int}(hm:0<m):xl (lE m):=by
 refine⟨1,by decide+kernel,0,fun k _=>?_⟩;obtain⟨h1,h2⟩:=wE (m.natAbs*4^k);unfold lE;have e4:(4:Nat)^k=2^k*2^k:=by rw[←Nat.mul_pow]
 have hge:2^k≤xI (m.natAbs*4^k):=by
  by_cases h:2^k≤xI (m.natAbs*4^k)
  ·exact h
  ·have g1:(xI (m.natAbs*4^k)+1)*(xI (m.natAbs*4^k)+1)≤2^k*2^k:=aW (by omega) (by omega);have g2:1*4^k≤m.natAbs*4^k:=bX _ (by omega);omega
 have h3:((2^k:Int):Rat)≤((xI (m.natAbs*4^k):Int):Rat):=Rat.intCast_le_intCast.2 (by exact_mod_cast hge);have h4:0≤(((xI (m.natAbs*4^k):Int):Rat)-((2^k:Int):Rat))*tk k:=bD (by grind) (by have:=nD k;grind);have h5:=BA k;grind
theorem Da{m:Int}(hm:0≤m){f:Nat→Rat}{t:Int}(h:oe f t)(bf:uO f):oe (fun k=>f k*lE m k) (if m.sign=0 then 0 else t):=by
 by_cases h0:m=0
 ·subst h0;rw[if_pos (by rfl)];exact .inr (.inl ⟨rfl,vP.zero.congr (fun k=>by rw[MJ,Rat.mul_zero])⟩)
 ·rw[if_neg (by rw[fO (by omega)];decide)];have:=h.mul (.inl ⟨rfl,Rm (m:=m) (by omega)⟩) bf (tV hm)
  rwa [Int.mul_one]at this
theorem oe.tri{f:Nat→Rat}{s:Int}(h:oe f s):s=1∨s=0∨s= -1:=by
 rcases h with⟨h,_⟩|⟨h,_⟩|⟨h,_⟩<;>omega
theorem Kk{f g:Nat→Rat}{s t c:Int}(hf:oe f s)(hg:oe g t)(bf:uO f)(bg:uO g)(hc:oe (fun k=>f k*f k-g k*g k) c):
  oe (fun k=>f k+g k) (if t=0∨s=t then s else if s=0 then t else s*c):=by
 by_cases h1:t=0∨s=t
 ·rw[if_pos h1];exact hf.add hg h1
 ·rw[if_neg h1];by_cases h2:s=0
  ·rw[if_pos h2];exact(hg.add hf (.inl h2)).eqf (fun k=>by grind)
  ·rw[if_neg h2];have h3: -t=s:=by
    have:=hf.tri;have:=hg.tri;omega
   have hd:oe (fun k=>f k+ -g k) s:=hf.add hg.neg (.inr h3.symm);exact hd.div h2 (bf.add bg.neg) (hc.eqf (fun k=>by grind))
def v1(x y:Rat)(m:Int)(k:Nat):Rat:=x+y*lE m k
theorem BD{m:Int}(hm:0≤m)(x y:Rat):uO (v1 x y m):=(uO.const x).add ((uO.const y).mul (tV hm))
theorem Xs{m:Int}(hm:0≤m)(x y:Rat):oe (v1 x y m) (Bu x y m):=by
 have hy:=Da hm (oe.const y) (uO.const y);refine(Kk (oe.const x) hy (uO.const x) ((uO.const y).mul (tV hm)) (c:=vx (x*x) (y*y*m)) ?_);refine(Rf (x*x) (y*y*m)).congr ?_;exact((Dv hm).mul (uO.const (-(y*y)))).congr (fun k=>by grind)
def Sn.v(S:Sn)(k:Nat):Rat:=v1 S.p S.q S.m k+v1 S.r S.s S.m k*lE S.n k
theorem aaM(S:Sn)(hm:0≤S.m)(hn:0≤S.n):oe S.v S.sg:=by
 have hg:=Da hn (Xs hm S.r S.s) (BD hm _ _);refine(Kk (Xs hm S.p S.q) hg (BD hm _ _) ((BD hm _ _).mul (tV hn)) (c:=Bu (S.p*S.p+S.m*S.q*S.q-S.n*(S.r*S.r+S.m*S.s*S.s)) (2*(S.p*S.q-S.n*S.r*S.s)) S.m) ?_);refine(Xs hm _ _).congr ?_;have n1:=(Dv hm).mul (uO.const (S.q*S.q-S.n*S.s*S.s));have n2:=(Dv hn).mul (((BD hm S.r S.s).mul (BD hm S.r S.s)).neg);exact(n1.add n2).congr (fun k=>by unfold v1;grind)
theorem SI(e:Rat):e*((e.den:Int):Rat)=((e.num:Int):Rat):=by
 rw[←oq,←oq]
 conv=>lhs;rw[←k9 e]
 rw[lI,Rat.divInt_eq_divInt_iff (by have:=e.den_pos;simp;omega) (by decide)];simp
theorem FZ{a b:Rat}(hb:0≤b)(h:a*a≤b*b):a≤b:=by
 by_cases hh:a≤b
 ·exact hh
 ·have:0<(a-b)*(a+b):=fF (by grind) (by grind);grind
theorem vc{a d:Rat}(hd:0<d)(h:0≤a*d):0≤a:=by
 by_cases hh:0≤a
 ·exact hh
 ·have:=fF (show 0< -a by grind) hd;grind
theorem PK{y N D A T R g e:Rat}(hD:0<D)(hy:y*D=N)(hN:0≤N)(hA1:A*D≤T)(hA2:T+1≤(A+1)*D)(hT:0≤T)(t1:T*T≤N*N*R*65536)(t2:N*N*R*65536<(T+1)*(T+1))
  (hg:0≤g)(g1:g*g≤R)(g2:R<(g+e)*(g+e))(he:0≤e):A≤256*(y*g)+256*(y*e)∧256*(y*g)≤A+1:=by
 have hNN:0≤N*N:=bD hN hN;have a1:256*N*g≤T+1:=FZ (by grind) (by
  have:=bD hNN (show 0≤R-g*g by grind);grind)
 have a2:T≤256*N*(g+e):=FZ (bD (by grind) (by grind)) (by
  have:=bD hNN (show 0≤(g+e)*(g+e)-R by grind);grind)
 constructor
 ·have:=vc hD (show 0≤(256*(y*g)+256*(y*e)-A)*D by
   rw[show(256*(y*g)+256*(y*e)-A)*D=256*(y*D)*(g+e)-A*D by grind,hy];grind)
  grind
 ·have:=vc hD (show 0≤(A+1-256*(y*g))*D by
   rw[show(A+1-256*(y*g))*D=(A+1)*D-256*(y*D)*g by grind,hy];grind)
  grind
theorem wL(a b:Nat):(((a*b:Nat):Int):Rat)=((a:Int):Rat)*((b:Int):Rat):=by
 rw[dI,dJ]
theorem oS{a b:Nat}(h:a≤b):((a:Int):Rat)≤((b:Int):Rat):=Rat.intCast_le_intCast.2 (by exact_mod_cast h)
theorem Is{a b:Nat}(h:a<b):((a:Int):Rat)<((b:Int):Rat):=Rat.intCast_lt_intCast.2 (by exact_mod_cast h)
theorem DX(a:Nat):(((a+1:Nat):Int):Rat)=((a:Int):Rat)+1:=by
 rw[Int.natCast_add,lx];rfl
theorem w8(x:Rat){R:Int}(hR:0≤R){g e:Nat→Rat}(hg:∀k,0≤g k∧g k*g k≤(R:Rat)∧(R:Rat)<(g k+e k)*(g k+e k))(VQ:∀k,0≤e k)(he:vP e):
  ∃K,∀k,K≤k→ -1≤((kI x R 8:Int):Rat)-256*(x*g k)∧((kI x R 8:Int):Rat)-256*(x*g k)≤1:=by
 obtain⟨h1,h2⟩:=wE (x.num.natAbs*x.num.natAbs*R.natAbs*2^(2*8));unfold kI;generalize xI (x.num.natAbs*x.num.natAbs*R.natAbs*2^(2*8))=T at*;have acB:=x.den_pos;have hdiv:=fK T x.den;have agL:=fw T acB;have e1:((T:Nat):Int)/(x.den:Int)=((T/x.den:Nat):Int):=by omega
 simp only[e1];generalize T/x.den=A at*;have hA1:A*x.den≤T:=by rw[e_];omega
 have hA2:T+1≤(A+1)*x.den:=by rw[ea,e_ A];omega
 have q1:=oS hA1;have q2:=oS hA2;have ep:(((2^(2*8):Nat):Int):Rat)=65536:=by decide+kernel
 generalize 2^(2*8)=P at*;have q3:=oS h1;have q4:=Is h2;simp only[wL,DX]at q1 q2 q3 q4;have eR:((R.natAbs:Int):Rat)=(R:Rat):=by rw[show(R.natAbs:Int)=R by omega]
 rw[eR,ep]at q3 q4;have hD:(0:Rat)<((x.den:Int):Rat):=by exact_mod_cast (show(0:Int)<x.den by omega)
 have hN:(0:Rat)≤((x.num.natAbs:Int):Rat):=by exact_mod_cast (show(0:Int)≤x.num.natAbs by omega)
 have hT:(0:Rat)≤((T:Int):Rat):=by exact_mod_cast (show(0:Int)≤T by omega)
 have hrd:=SI x;have key:∀y:Rat,y*((x.den:Int):Rat)=((x.num.natAbs:Int):Rat)→∃K,∀k,K≤k→ -1≤((A:Int):Rat)-256*(y*g k)∧((A:Int):Rat)-256*(y*g k)≤1:=by
  intro y hy;obtain⟨K,hK⟩:=(he.mul (uO.const (256*y))) 1 (by decide+kernel);refine⟨K,fun k hk=>?_⟩;obtain⟨g1,g2,g3⟩:=hg k;have:=PK hD hy hN q1 q2 hT q3 q4 g1 g2 g3 (VQ k);have h3:=hK k hk;constructor<;>grind
 by_cases hs:x.num.sign<0
 ·rw[if_pos hs];have hneg:x.num<0:=Int.sign_neg_iff.1 hs;obtain⟨K,hK⟩:=key (-x) (by
   rw[Rat.neg_mul,hrd,←Rat.intCast_neg];exact dF (fun z:Int=>(z:Rat)) (show-x.num=(x.num.natAbs:Int)by omega))
  refine⟨K,fun k hk=>?_⟩;have:=hK k hk;rw[Rat.intCast_neg];constructor<;>grind
 ·rw[if_neg hs];have hpos:¬x.num<0:=fun h=>hs (Int.sign_neg_iff.2 h);exact key x (by rw[hrd];exact dF (fun z:Int=>(z:Rat)) (show x.num=(x.num.natAbs:Int)by omega))
theorem Ro{m n:Int}(hm:0≤m)(hn:0≤n)(k:Nat):0≤lE m k*lE n k∧(lE m k*lE n k)*(lE m k*lE n k)≤((m*n:Int):Rat)∧((m*n:Int):Rat)<(lE m k*lE n k+tk k*(lE m k+lE n k+tk k))*(lE m k*lE n k+tk k*(lE m k+lE n k+tk k)):=by
 obtain⟨a1,a2,a3⟩:=mV hm k;obtain⟨b1,b2,b3⟩:=mV hn k;have ht:=nD k;have hm':(0:Rat)≤(m:Rat):=by exact_mod_cast hm
 have NS:(0:Rat)≤(n:Rat):=by exact_mod_cast hn
 rw[dJ];generalize lE m k=u at*;generalize lE n k=v at*;generalize tk k=t at*;generalize(m:Rat)=m' at*;generalize(n:Rat)=n' at*;refine⟨bD a1 b1,?_,?_⟩
 ·have h1:=bD (show 0≤m'-u*u by grind) NS;have h2:=bD (bD a1 a1) (show 0≤n'-v*v by grind);grind
 ·have h1:=bD (show 0≤(u+t)*(u+t)-m' by grind) NS;have h2:0<(u+t)*(u+t)*((v+t)*(v+t)-n'):=fF (fF (by grind) (by grind)) (by grind);have e:u*v+t*(u+v+t)=(u+t)*(v+t):=by grind
  rw[e];grind
theorem OJ(k:Nat):(0:Rat)≤1∧(1:Rat)*1≤((1:Int):Rat)∧((1:Int):Rat)<(1+tk k)*(1+tk k):=by
 have ht:=nD k;have e:((1:Int):Rat)=1:=rfl;rw[e];have:=fF ht ht;refine⟨by decide+kernel,by grind,by grind⟩
theorem Ga(S:Sn)(hm:0≤S.m)(hn:0≤S.n):∃K,∀k,K≤k→256*((S.low:Int):Rat)-4≤256*S.v k∧256*S.v k≤256*((S.low:Int):Rat)+259:=by
 have hmn:0≤S.m*S.n:=eO hm hn;obtain⟨K1,h1⟩:=w8 S.p (R:=1) (by decide) (g:=fun _=>1) (e:=tk) OJ (fun k=>Rat.le_of_lt (nD k)) BB;obtain⟨K2,h2⟩:=w8 S.q hm (g:=lE S.m) (e:=tk) (mV hm) (fun k=>Rat.le_of_lt (nD k)) BB;obtain⟨K3,h3⟩:=w8 S.r hn (g:=lE S.n) (e:=tk) (mV hn) (fun k=>Rat.le_of_lt (nD k)) BB;obtain⟨K4,h4⟩:=w8 S.s hmn (g:=fun k=>lE S.m k*lE S.n k) (e:=fun k=>tk k*(lE S.m k+lE S.n k+tk k)) (Ro hm hn)
  (fun k=>bD (Rat.le_of_lt (nD k)) (by
   have:=nD k;have:=(mV hm k).1;have:=(mV hn k).1;grind))
  (BB.mul (((tV hm).add (tV hn)).add ⟨1,by decide+kernel,fun k=>by
   have:=nD k;have:=Qh k;constructor<;>grind⟩))
 refine⟨max (max K1 K2) (max K3 K4),fun k hk=>?_⟩;have g1:=h1 k (by omega);have g2:=h2 k (by omega);have g3:=h3 k (by omega);have g4:=h4 k (by omega);have hz:256*S.low≤0+kI S.p 1 8+kI S.q S.m 8+kI S.r S.n 8+kI S.s (S.m*S.n) 8∧0+kI S.p 1 8+kI S.q S.m 8+kI S.r S.n 8+kI S.s (S.m*S.n) 8≤256*S.low+255:=by
  unfold Sn.low;omega
 have z1:((256*S.low:Int):Rat)≤((0+kI S.p 1 8+kI S.q S.m 8+kI S.r S.n 8+kI S.s (S.m*S.n) 8:Int):Rat):=Rat.intCast_le_intCast.2 hz.1;have z2:((0+kI S.p 1 8+kI S.q S.m 8+kI S.r S.n 8+kI S.s (S.m*S.n) 8:Int):Rat)≤((256*S.low+255:Int):Rat):=Rat.intCast_le_intCast.2 hz.2;simp only[lx,dJ]at z1 z2;have c0:((0:Int):Rat)=0:=rfl;have c1:((256:Int):Rat)=256:=rfl;have c2:((255:Int):Rat)=255:=rfl;rw[c0,c1]at z1;rw[c0,c1,c2]at z2;have ev:S.v k=S.p*1+S.q*lE S.m k+S.r*lE S.n k+S.s*(lE S.m k*lE S.n k):=by
  unfold Sn.v v1;grind
 rw[ev];generalize((kI S.p 1 8:Int):Rat)=a at*;generalize((kI S.q S.m 8:Int):Rat)=b at*;generalize((kI S.r S.n 8:Int):Rat)=c at*;generalize((kI S.s (S.m*S.n) 8:Int):Rat)=d at*;generalize((S.low:Int):Rat)=l at*;generalize S.p*1=x at*;generalize S.q*lE S.m k=y at*;generalize S.r*lE S.n k=z at*;generalize S.s*(lE S.m k*lE S.n k)=w at*;constructor<;>grind
theorem zV(S:Sn)(q:Int)(k:Nat):(S.lessq q).v k=S.v k-(q:Rat):=by
 unfold Sn.v v1 Sn.lessq;grind
theorem Zg(S:Sn)(hm:0≤S.m)(hn:0≤S.n):(S.lessq (S.low-1)).sg=1:=by
 obtain⟨K,hK⟩:=Ga S hm hn;refine(aaM (S.lessq (S.low-1)) hm hn).unique (.inl ⟨rfl,Rat.divInt 1 2,by decide+kernel,K,fun k hk=>?_⟩);have:=hK k hk;rw[zV,Rat.intCast_sub];have e:((1:Int):Rat)=1:=rfl;have h2:Rat.divInt 1 2+Rat.divInt 1 2=1:=by decide+kernel
 rw[e];grind
theorem Zf(S:Sn)(hm:0≤S.m)(hn:0≤S.n):(S.lessq (S.low+2)).sg= -1:=by
 obtain⟨K,hK⟩:=Ga S hm hn;refine(aaM (S.lessq (S.low+2)) hm hn).unique (.inr (.inr ⟨rfl,Rat.divInt 1 2,by decide+kernel,K,fun k hk=>?_⟩));have:=hK k hk;simp only;rw[zV,lx];have e:((2:Int):Rat)=2:=rfl;have h2:Rat.divInt 1 2+Rat.divInt 1 2=1:=by decide+kernel
 rw[e];grind
def Sn.fl(S:Sn):Int:=if(S.lessq S.low).sg<0 then S.low-1 else if(S.lessq (S.low+1)).sg<0 then S.low else S.low+1
def Sn.nr(S:Sn):Int:=if(S.half.lessq S.half.fl).sg=0∧(S.half.fl % 2).sign≠0 then S.half.fl-1 else S.half.fl
section
variable{fin:VS→List aC→Prop}{Γ:List aC}{L M K:Nat}
theorem aaB(x:Sw){S:Sn} [aY (SF x) (L,S) Γ](hm:0≤S.m)(hn:0≤S.n)(hL:L≤300:=by omega):
  aw tb Tryz.prog 254 [sv x] Γ (oC (10*L+210) S.fl):=by
 refine aw.of_W az Tryz.func254 rfl ?_;have z1:=Zg S hm hn;have z2:=Zf S hm hn;have Ay:S.low=((((0+(kI S.p 1 8))+(kI S.q S.m 8))+(kI S.r S.n 8))+(kI S.s (S.m*S.n) 8))/256:=rfl;refine W.more rfl (zo (L':=0)) ?_;refine sM x rfl ?_;refine aq [] (cU 1 (by omega) (by omega)) ?_;rintro _ _ ⟨u1,d1,rfl,rfl⟩;refine aq [] (lV x.u x.d x.v x.e) ?_;rintro _ _ ⟨u2,d2,rfl,rfl⟩;refine jP [] 6 ?_;refine aq [30] (wT x.p.n x.p.a x.p.m x.p.b u1 d1 8 rfl) ?_;rintro _ _ ⟨u3,d3,rfl,rfl⟩;refine aq [] (lU ⟨none,0,0⟩ false u3 d3) ?_;rintro _ _ ⟨u4,d4,rfl,rfl⟩;refine aq [30] (wT x.q.n x.q.a x.q.m x.q.b x.u x.d 8 rfl) ?_;rintro _ _ ⟨u5,d5,rfl,rfl⟩;refine aq [] (lU u4 d4 u5 d5) ?_;rintro _ _ ⟨u6,d6,rfl,rfl⟩;refine aq [30] (wT x.r.n x.r.a x.r.m x.r.b x.v x.e 8 rfl) ?_;rintro _ _ ⟨u7,d7,rfl,rfl⟩;refine aq [] (lU u6 d6 u7 d7) ?_;rintro _ _ ⟨u8,d8,rfl,rfl⟩;refine aq [30] (wT x.s.n x.s.a x.s.m x.s.b u2 d2 8 rfl) ?_;rintro _ _ ⟨u9,d9,rfl,rfl⟩;refine aq [] (lU u8 d8 u9 d9) ?_;rintro _ _ ⟨BC,d10,rfl,rfl⟩;refine aq [30] (cU 256 (by omega) (by omega)) ?_;rintro _ _ ⟨u11,d11,rfl,rfl⟩;refine aq [] (iR BC d10 u11 d11 (by omega)) ?_;rintro _ _ ⟨u12,d12,v12,e12,rfl,rfl⟩;refine jP [] 6 ?_;refine aq [] (uv x u12 d12) ?_;rintro _ _ ⟨rfl,rfl⟩;by_cases h1:(S.lessq S.low).sg<0
 ·refine bk [] 50 ((decide ((S.lessq (((((0+(kI S.p 1 8))+(kI S.q S.m 8))+(kI S.r S.n 8))+(kI S.s (S.m*S.n) 8))/256)).sg<0))) (by rw[fG,←Ay];exact h1) ?_;refine aq [50] (IE u12 d12 u1 d1) ?_;rintro _ _ ⟨u14,d14,rfl,rfl⟩;refine aq [] (uv x u14 d14) ?_;rintro _ _ ⟨rfl,rfl⟩;refine aR [] 50 ((decide ((S.lessq ((((((0+(kI S.p 1 8))+(kI S.q S.m 8))+(kI S.r S.n 8))+(kI S.s (S.m*S.n) 8))/256)-1)).sg<0))) (by rw[aV,←Ay];omega) ?_;refine jP [50] 6 ?_;refine aq [] (lU u14 d14 u1 d1) ?_;rintro _ _ ⟨u16,d16,rfl,rfl⟩;refine aq [] (uv x u16 d16) ?_;rintro _ _ ⟨rfl,rfl⟩;refine aR [] 59 (!(decide ((S.lessq (((((((0+(kI S.p 1 8))+(kI S.q S.m 8))+(kI S.r S.n 8))+(kI S.s (S.m*S.n) 8))/256)-1)+1)).sg<0))) (by rw[vl,dG,←Ay,show S.low-1+1=S.low by omega];exact h1) ?_;exact W.r [59] (zv u14 d14) ⟨_,_,rfl,rfl⟩ (kO (by omega) (by unfold Sn.fl;rw[if_pos h1,Ay]))
 ·by_cases h2:(S.lessq (S.low+1)).sg<0
  ·refine aR [] 50 ((decide ((S.lessq (((((0+(kI S.p 1 8))+(kI S.q S.m 8))+(kI S.r S.n 8))+(kI S.s (S.m*S.n) 8))/256)).sg<0))) (by rw[aV,←Ay];exact h1) ?_;refine jP [50] 6 ?_;refine aq [] (lU u12 d12 u1 d1) ?_;rintro _ _ ⟨u14,d14,rfl,rfl⟩;refine aq [] (uv x u14 d14) ?_;rintro _ _ ⟨rfl,rfl⟩;refine aR [] 59 (!(decide ((S.lessq ((((((0+(kI S.p 1 8))+(kI S.q S.m 8))+(kI S.r S.n 8))+(kI S.s (S.m*S.n) 8))/256)+1)).sg<0))) (by rw[vl,dG,←Ay];exact h2) ?_;exact W.r [59] (zv u12 d12) ⟨_,_,rfl,rfl⟩ (kO (by omega) (by unfold Sn.fl;rw[if_neg h1,if_pos h2,Ay]))
  ·refine aR [] 50 ((decide ((S.lessq (((((0+(kI S.p 1 8))+(kI S.q S.m 8))+(kI S.r S.n 8))+(kI S.s (S.m*S.n) 8))/256)).sg<0))) (by rw[aV,←Ay];exact h1) ?_;refine jP [50] 6 ?_;refine aq [] (lU u12 d12 u1 d1) ?_;rintro _ _ ⟨u14,d14,rfl,rfl⟩;refine aq [] (uv x u14 d14) ?_;rintro _ _ ⟨rfl,rfl⟩;refine bk [] 59 (!(decide ((S.lessq ((((((0+(kI S.p 1 8))+(kI S.q S.m 8))+(kI S.r S.n 8))+(kI S.s (S.m*S.n) 8))/256)+1)).sg<0))) (by rw[cD,aV,←Ay];exact h2) ?_;refine aq [59] (lU u12 d12 u1 d1) ?_;rintro _ _ ⟨u16,d16,rfl,rfl⟩;refine aq [] (lU u16 d16 u1 d1) ?_;rintro _ _ ⟨u17,d17,rfl,rfl⟩;refine aq [] (uv x u17 d17) ?_;rintro _ _ ⟨rfl,rfl⟩;refine aR [] 59 (!(decide ((S.lessq (((((((0+(kI S.p 1 8))+(kI S.q S.m 8))+(kI S.r S.n 8))+(kI S.s (S.m*S.n) 8))/256)+1)+1)).sg<0))) (by rw[vl,dG,←Ay,show S.low+1+1=S.low+2 by omega];omega) ?_;exact W.r [59] (zv u16 d16) ⟨_,_,rfl,rfl⟩ (kO (by omega) (by unfold Sn.fl;rw[if_neg h1,if_neg h2,Ay]))
theorem J6(x:Sw){S:Sn} [aY (SF x) (L,S) Γ](hm:0≤S.m)(hn:0≤S.n)(hL:L≤280:=by omega):
  aw tb Tryz.prog 209 [sv x] Γ (oC (10*L+520) S.nr):=by
 refine aw.of_W az Tryz.func209 rfl ?_;refine sM x rfl ?_;refine aq [] (A8 1 2 (by omega) (by omega) (by omega) (by omega) (by omega)) ?_;rintro _ _ ⟨n1,a1,m1,b1,rfl,rfl⟩;refine aq [] (fo x.p.n x.p.a x.p.m x.p.b n1 a1 m1 b1) ?_;rintro _ _ ⟨n2,a2,m2,b2,rfl,rfl⟩;refine gX [] (KT (x:=⟨x.u,x.d,x.v,x.e,⟨n2,a2,m2,b2⟩,x.q,x.r,x.s⟩) (L':=L+10) (S:=S.half) rfl rfl rfl rfl rfl rfl (by omega)) (aaB (S:=S.half) ⟨x.u,x.d,x.v,x.e,⟨n2,a2,m2,b2⟩,x.q,x.r,x.s⟩ hm hn) ?_;rintro _ _ ⟨u3,d3,rfl,rfl⟩;refine aq [] (cg u3 d3) ?_;rintro _ _ ⟨n4,a4,m4,b4,rfl,rfl⟩;refine aq [] (Ed n2 a2 m2 b2 n4 a4 m4 b4) ?_;rintro _ _ ⟨n5,a5,m5,b5,rfl,rfl⟩;refine aq [] (cU 2 (by omega) (by omega)) ?_;rintro _ _ ⟨u6,d6,rfl,rfl⟩;refine aq [] (iR u3 d3 u6 d6 (by omega)) ?_;rintro _ _ ⟨u7,d7,v7,e7,rfl,rfl⟩;refine gX [] (KT (x:=⟨x.u,x.d,x.v,x.e,⟨n5,a5,m5,b5⟩,x.q,x.r,x.s⟩) (L':=12*L+400) (S:=(S.half.lessq S.half.fl)) rfl rfl rfl rfl rfl rfl (by omega)) (J7 ⟨x.u,x.d,x.v,x.e,⟨n5,a5,m5,b5⟩,x.q,x.r,x.s⟩) ?_;rintro _ _ ⟨rfl,rfl⟩;refine W.d [] 42 ((S.half.lessq S.half.fl).sg==0) (fun hb=>?_) (fun hb=>?_)
 ·have hb':=hb;refine aq [42] (mP v7 e7) ?_;rintro _ _ ⟨rfl,rfl⟩;refine W.d [42] 46 (((S.half.fl % 2)).sign != 0) (fun hb=>?_) (fun hb=>?_)
  ·skip
   refine aq [46] (cU 1 (by omega) (by omega)) ?_;rintro _ _ ⟨BC,d10,rfl,rfl⟩;refine aq [] (IE u3 d3 BC d10) ?_;rintro _ _ ⟨u11,d11,rfl,rfl⟩;exact W.r [] (zv u11 d11) ⟨_,_,rfl,rfl⟩ (kO (by omega) (by unfold Sn.nr;rw[if_pos ⟨eq_of_beq hb',fun h=>by rw[h]at hb;simp at hb⟩]))
  ·skip
   exact W.r [46] (zv u3 d3) ⟨_,_,rfl,rfl⟩ (kO (by omega) (by unfold Sn.nr;rw[if_neg (fun h=>h.2 (by simpa using hb))]))
 ·skip
  exact W.r [46,42] (zv u3 d3) ⟨_,_,rfl,rfl⟩ (kO (by omega) (by unfold Sn.nr;rw[if_neg (fun h=>j_ hb h.1)]))
end
section
variable{fin:VS→List aC→Prop}{Γ:List aC}{L M K:Nat}
theorem Bb(u:Sl)(d:Bool)(v:Sl)(e:Bool)(B:Nat)(a:Qw){m n:Int}{x:Rat}{L1:Nat} [h1:aY (ZF u d) (L,m) Γ] [h2:aY (ZF v e) (M,n) Γ] [hr:aY (d_ B) ([(⟨a.n,a.a,a.m,a.b,x⟩:QE)].flatMap QR.cells) Γ] [ha:aY (QG a) (L1,x) Γ](hm:0≤m)(hn:0≤n)
  (hL:L≤100000:=by omega)(hM:M≤100000:=by omega):
  aw tb Tryz.prog 148 [zv u d,zv v e,.slice (some ⟨B,0,none⟩) 1 1] Γ (XR (max (max L M) L1) ⟨m,n,x,0,0,0⟩):=
 (Pt (Γ:=OL QR (some ⟨B,0,none⟩) (L1,[(⟨a.n,a.a,a.m,a.b,x⟩:QE)])::Γ) u d v e (some ⟨B,0,none⟩) 1 1 rfl (by omega) hm hn).weak (fun I w hd hh=>aE.cons ⟨fun q hq=>by
  simp at hq;subst hq;exact ha.p hh,RA.of_row (hr.p hh) (fun _ _ h=>h)⟩ hh) (fun _ _ h=>h)
end
end Go.Proofs.YtgaaopjagcaojaaGreat
