/- Turns: what they are made of. The contracts of octant. Octant's reference; what its laws share. Octant's examples. -/
import Derived.Test.YtlpfkbkpnljieaaGreatSu
import Derived.Test.YtlpfkbkpnljieaaGreatWe
set_option linter.unusedSimpArgs false
set_option linter.unusedVariables false
namespace Go.Proofs.YtlpfkbkpnljieaaGreat
open Go.RowKit Go.IntWalk

/-- What it means. -/
structure On where
  f : Bool
  o : Int
  g : Rat
  a : Rat
  b : Rat
  c : Rat
  d : Rat
/-- The quotients of a turn. -/
structure Q5 where
  g : Qw
  a : Qw
  b : Qw
  c : Qw
  d : Qw
abbrev q2v (a b : Qw) : Value := .agg #[.slice a.n.ao a.n.n a.n.c, .bool a.a, .slice a.m.ao a.m.n a.m.c, .bool a.b, .slice b.n.ao b.n.n b.n.c, .bool b.a, .slice b.m.ao b.m.n b.m.c, .bool b.b]
abbrev ttv (f : Bool) (o : Int) (g a b c d : Qw) : Value := .agg #[.bool f, .int .i64 o, .slice g.n.ao g.n.n g.n.c, .bool g.a, .slice g.m.ao g.m.n g.m.c, .bool g.b, .slice a.n.ao a.n.n a.n.c, .bool a.a, .slice a.m.ao a.m.n a.m.c, .bool a.b,
  .slice b.n.ao b.n.n b.n.c, .bool b.a, .slice b.m.ao b.m.n b.m.c, .bool b.b, .slice c.n.ao c.n.n c.n.c, .bool c.a, .slice c.m.ao c.m.n c.m.c, .bool c.b, .slice d.n.ao d.n.n d.n.c, .bool d.a, .slice d.m.ao d.m.n d.m.c, .bool d.b]
abbrev plv (x y : Sw) : Value := .agg ((sv x).cells ++ (sv y).cells)
abbrev spv (x y : Tw) : Value := .agg ((tv x).cells ++ (tv y).cells)
abbrev otv (V : On) (x : Q5) : Value := ttv V.f V.o x.g x.a x.b x.c x.d
def OF (x : Q5) (a : Nat × On) : Fact where
  p I w := (QG x.g (a.1, a.2.g)).p I w ∧ (QG x.a (a.1, a.2.a)).p I w ∧ (QG x.b (a.1, a.2.b)).p I w ∧ (QG x.c (a.1, a.2.c)).p I w ∧ (QG x.d (a.1, a.2.d)).p I w
  up := by
    rintro I I' w w' ⟨g2, g3, g4, g5, g6⟩ h1 h2 h3
    exact ⟨(QG x.g _).up g2 h1 h2 h3, (QG x.a _).up g3 h1 h2 h3, (QG x.b _).up g4 h1 h2 h3, (QG x.c _).up g5 h1 h2 h3, (QG x.d _).up g6 h1 h2 h3⟩
section
variable {fin : VS → List Fact → Prop} {Γ : List Fact} {L : Nat}
theorem W.of5 {P : Program} {c : Cfg} (x : Q5) {V : On} [h : Has (OF x) (L, V) Γ] (hm : midOps c.k = false)
    (hk : W tb P fin c (QG x.g (L, V.g) :: QG x.a (L, V.a) :: QG x.b (L, V.b) :: QG x.c (L, V.c) :: QG x.d (L, V.d) :: Γ)) : W tb P fin c Γ :=
  W.more (Δ := [QG x.g (L, V.g), QG x.a (L, V.a), QG x.b (L, V.b), QG x.c (L, V.c), QG x.d (L, V.d)]) hm (fun I w _ hh => by
    obtain ⟨g2, g3, g4, g5, g6⟩ := h.p hh
    exact Holds.cons g2 (Holds.cons g3 (Holds.cons g4 (Holds.cons g5 (holds1 g6))))) hk
theorem entO {x : Q5} {L' L1 L2 L3 L4 L5 : Nat} {V : On} {g a b c d : Rat} [h1 : Has (QG x.g) (L1, g) Γ] [h2 : Has (QG x.a) (L2, a) Γ] [h3 : Has (QG x.b) (L3, b) Γ] [h4 : Has (QG x.c) (L4, c) Γ] [h5 : Has (QG x.d) (L5, d) Γ]
    (e1 : g = V.g) (e2 : a = V.a) (e3 : b = V.b) (e4 : c = V.c) (e5 : d = V.d) (hL : L1 ≤ L' ∧ L2 ≤ L' ∧ L3 ≤ L' ∧ L4 ≤ L' ∧ L5 ≤ L') : ∀ (I : Blk) (w : World), DataOK tb I w → Holds Γ I w → Holds [OF x (L', V)] I w := fun I w _ hh => by
  subst e1 e2 e3 e4 e5
  obtain ⟨l1, l2, l3, l4, l5⟩ := hL
  exact holds1 ⟨QF.up2 (h1.p hh) l1, QF.up2 (h2.p hh) l2, QF.up2 (h3.p hh) l3, QF.up2 (h4.p hh) l4, QF.up2 (h5.p hh) l5⟩
theorem OF.up2 {x : Q5} {V : On} {L L' : Nat} {I : Blk} {w : World} (h : (OF x (L, V)).p I w) (hL : L ≤ L') : (OF x (L', V)).p I w := by
  obtain ⟨h1, h2, h3, h4, h5⟩ := h
  exact ⟨QF.up2 h1 hL, QF.up2 h2 hL, QF.up2 h3 hL, QF.up2 h4 hL, QF.up2 h5 hL⟩
end
end Go.Proofs.YtlpfkbkpnljieaaGreat

set_option linter.unusedSimpArgs false
set_option linter.unusedVariables false
namespace Go.Proofs.YtlpfkbkpnljieaaGreat
open Go.RowKit Go.IntWalk

/-- a + b root 2 times c + d root 2 / 2. -/
def tm1 (x y : Rat) (c d : Int) : Rat := x * c + y * d
def tm2 (x y : Rat) (c d : Int) : Rat := y * c + x * Rat.divInt d 2
/-- The cosine and the sine of so many eighths. -/
def pc (o : Int) : Int := if o = 0 then 1 else if o = 4 then -1 else 0
def ps (o : Int) : Int := if o = 2 then 1 else if o = 6 then -1 else 0
def pcr (o : Int) : Int := if o = 1 ∨ o = 7 then 1 else if o = 3 ∨ o = 5 then -1 else 0
def psr (o : Int) : Int := if o = 1 ∨ o = 3 then 1 else if o = 5 ∨ o = 7 then -1 else 0
def On.mag (V : On) : Rat := if V.g.num.sign = 0 then 1 else V.g
def On.sg (V : On) (z : Rat) : Rat := if V.f then -z else z
def On.u0 (V : On) (x y z w : Rat) : Rat := tm1 (x * V.mag) (y * V.mag) (pc V.o) (pcr V.o) + -(tm1 (V.sg z * V.mag) (V.sg w * V.mag) (ps V.o) (psr V.o)) + V.a
def On.u1 (V : On) (x y z w : Rat) : Rat := tm2 (x * V.mag) (y * V.mag) (pc V.o) (pcr V.o) + -(tm2 (V.sg z * V.mag) (V.sg w * V.mag) (ps V.o) (psr V.o)) + V.b
def On.v0 (V : On) (x y z w : Rat) : Rat := tm1 (x * V.mag) (y * V.mag) (ps V.o) (psr V.o) + tm1 (V.sg z * V.mag) (V.sg w * V.mag) (pc V.o) (pcr V.o) + V.c
def On.v1 (V : On) (x y z w : Rat) : Rat := tm2 (x * V.mag) (y * V.mag) (ps V.o) (psr V.o) + tm2 (V.sg z * V.mag) (V.sg w * V.mag) (pc V.o) (pcr V.o) + V.d
/-- A number of root 2's field. -/
def r2 (x y : Rat) : Sn := ⟨2, 0, x, y, 0, 0⟩
/-- Where 0 0 comes to, where a point comes to. -/
def Q2Post (L : Nat) (x y : Rat) (v : Value) (Δ : List Fact) : Prop := ∃ a b : Qw, v = q2v a b ∧ Δ = [QG a (L, x), QG b (L, y)]
def PlPost (L : Nat) (X Y : Sn) (v : Value) (Δ : List Fact) : Prop := ∃ x y : Sw, v = plv x y ∧ Δ = [SF x (L, X), SF y (L, Y)]

def On.then (V U : On) : On := ⟨!(V.f == U.f), if U.f then (-V.o + U.o) % 8 else (V.o + U.o) % 8, V.mag * U.mag, U.u0 V.a V.b V.c V.d, U.u1 V.a V.b V.c V.d, U.v0 V.a V.b V.c V.d, U.v1 V.a V.b V.c V.d⟩
theorem bits8f : ∀ n m : _root_.Fin 8, bits BinOp.and .i64 (IntKind.i64.wrap ((n : Int) + m)) 7 = ((n : Int) + m) % 8 := by decide +kernel
theorem bits8t : ∀ n m : _root_.Fin 8, bits BinOp.and .i64 (IntKind.i64.wrap (IntKind.i64.wrap (0 - (n : Int)) + m)) 7 = (-(n : Int) + m) % 8 := by decide +kernel
theorem fin8 {o : Int} (h : 0 ≤ o ∧ o ≤ 7) : ∃ n : _root_.Fin 8, o = (n : Int) := ⟨⟨o.toNat, by omega⟩, by simp only; omega⟩
theorem bitsf {o u : Int} (h : 0 ≤ o ∧ o ≤ 7) (h' : 0 ≤ u ∧ u ≤ 7) : bits BinOp.and .i64 (IntKind.i64.wrap (o + u)) 7 = (o + u) % 8 := by
  obtain ⟨n, rfl⟩ := fin8 h
  obtain ⟨m, rfl⟩ := fin8 h'
  exact bits8f n m
theorem bitst {o u : Int} (h : 0 ≤ o ∧ o ≤ 7) (h' : 0 ≤ u ∧ u ≤ 7) : bits BinOp.and .i64 (IntKind.i64.wrap (IntKind.i64.wrap (0 - o) + u)) 7 = (-o + u) % 8 := by
  obtain ⟨n, rfl⟩ := fin8 h
  obtain ⟨m, rfl⟩ := fin8 h'
  exact bits8t n m
theorem On.then_o (V U : On) : 0 ≤ (V.then U).o ∧ (V.then U).o ≤ 7 := by
  unfold On.then
  simp only
  split <;> omega
theorem pc_b (o : Int) : -1 ≤ pc o ∧ pc o ≤ 1 := by unfold pc; (repeat' split) <;> omega
theorem ps_b (o : Int) : -1 ≤ ps o ∧ ps o ≤ 1 := by unfold ps; (repeat' split) <;> omega
theorem pcr_b (o : Int) : -1 ≤ pcr o ∧ pcr o ≤ 1 := by unfold pcr; (repeat' split) <;> omega
theorem psr_b (o : Int) : -1 ≤ psr o ∧ psr o ≤ 1 := by unfold psr; (repeat' split) <;> omega

section
variable {fin : VS → List Fact → Prop} {Γ : List Fact} {L M K : Nat}
theorem entG {a : Qw} {L' : Nat} {q q' : Rat} [h : Has (QG a) (L, q) Γ] (hL : L ≤ L') (hq : q = q') : ∀ (I : Blk) (w : World), DataOK tb I w → Holds Γ I w → Holds [QG a (L', q')] I w := fun I w _ hh => by
  subst hq
  exact holds1 (QF.up2 (h.p hh) hL)
theorem entG2 {a b : Qw} {L1 L2 L' : Nat} {q q' r r' : Rat} [h : Has (QG a) (L1, q) Γ] [h' : Has (QG b) (L2, r) Γ] (hL : L1 ≤ L' ∧ L2 ≤ L') (hq : q = q') (hr : r = r') : ∀ (I : Blk) (w : World), DataOK tb I w → Holds Γ I w → Holds [QG a (L', q'), QG b (L', r')] I w := fun I w _ hh => by
  subst hq hr
  exact Holds.cons (QF.up2 (h.p hh) hL.1) (holds1 (QF.up2 (h'.p hh) hL.2))
theorem sig0 {z : Int} (h : (z == 0) = true) : z = 0 := eq_of_beq h
theorem p_opair (o : Int) (h : 0 ≤ o ∧ o ≤ 7) : PCalls tb Tryz.prog 64 [.int .i64 o] Γ (IsV (.agg #[.int .i64 (pc o), .int .i64 (ps o), .int .i64 (pcr o), .int .i64 (psr o)])) := by
  obtain rfl | rfl | rfl | rfl | rfl | rfl | rfl | rfl : o = 0 ∨ o = 1 ∨ o = 2 ∨ o = 3 ∨ o = 4 ∨ o = 5 ∨ o = 6 ∨ o = 7 := by omega
  · exact PCalls.of_W tbOk Tryz.func64 rfl (by kernel_rfl) (W.r [] (.agg #[.int .i64 1, .int .i64 0, .int .i64 0, .int .i64 0]) (by kernel_rfl) ⟨rfl, rfl⟩ ent0)
  · exact PCalls.of_W tbOk Tryz.func64 rfl (by kernel_rfl) (W.r [] (.agg #[.int .i64 0, .int .i64 0, .int .i64 1, .int .i64 1]) (by kernel_rfl) ⟨rfl, rfl⟩ ent0)
  · exact PCalls.of_W tbOk Tryz.func64 rfl (by kernel_rfl) (W.r [] (.agg #[.int .i64 0, .int .i64 1, .int .i64 0, .int .i64 0]) (by kernel_rfl) ⟨rfl, rfl⟩ ent0)
  · exact PCalls.of_W tbOk Tryz.func64 rfl (by kernel_rfl) (W.r [] (.agg #[.int .i64 0, .int .i64 0, .int .i64 (-1), .int .i64 1]) (by kernel_rfl) ⟨rfl, rfl⟩ ent0)
  · exact PCalls.of_W tbOk Tryz.func64 rfl (by kernel_rfl) (W.r [] (.agg #[.int .i64 (-1), .int .i64 0, .int .i64 0, .int .i64 0]) (by kernel_rfl) ⟨rfl, rfl⟩ ent0)
  · exact PCalls.of_W tbOk Tryz.func64 rfl (by kernel_rfl) (W.r [] (.agg #[.int .i64 0, .int .i64 0, .int .i64 (-1), .int .i64 (-1)]) (by kernel_rfl) ⟨rfl, rfl⟩ ent0)
  · exact PCalls.of_W tbOk Tryz.func64 rfl (by kernel_rfl) (W.r [] (.agg #[.int .i64 0, .int .i64 (-1), .int .i64 0, .int .i64 0]) (by kernel_rfl) ⟨rfl, rfl⟩ ent0)
  · exact PCalls.of_W tbOk Tryz.func64 rfl (by kernel_rfl) (W.r [] (.agg #[.int .i64 0, .int .i64 0, .int .i64 1, .int .i64 (-1)]) (by kernel_rfl) ⟨rfl, rfl⟩ ent0)
theorem p_onumber (u : Sl) (d : Bool) (v : Sl) (e : Bool) (a b : Qw) {m n : Int} {x y : Rat} {L1 L2 : Nat} [h1 : Has (ZF u d) (L, m) Γ] [h2 : Has (ZF v e) (M, n) Γ] [ha : Has (QG a) (L1, x) Γ] [hb : Has (QG b) (L2, y) Γ] (hm : 0 ≤ m) (hn : 0 ≤ n)
    (hL : L ≤ 100000 := by omega) (hM : M ≤ 100000 := by omega) :
    PCalls tb Tryz.prog 35 [zv u d, zv v e, q2v a b] Γ (SPost (max (max L M) (max L1 L2)) ⟨m, n, x, y, 0, 0⟩) := by
  refine PCalls.of_W tbOk Tryz.func35 rfl (by kernel_rfl) ?_
  refine W.bs [] 2 ([(⟨a.n, a.a, a.m, a.b, x⟩ : QE), ⟨b.n, b.a, b.m, b.b, y⟩].flatMap QR.cells) tbOk (by kernel_rfl) (fun B => ?_)
  refine W.cl [] (by kernel_rfl) ((p_xof (Γ := OL QR (some ⟨B, 0, none⟩) (max L1 L2, [(⟨a.n, a.a, a.m, a.b, x⟩ : QE), ⟨b.n, b.a, b.m, b.b, y⟩]) :: _) u d v e (some ⟨B, 0, none⟩) 2 2 rfl (by omega) hm hn).weak (fun I w hd hh => Holds.cons ⟨fun q hq => ?_, ?_⟩ hh) (fun _ _ h => h)) ?_
  · simp at hq
    rcases hq with rfl | rfl
    · exact QF.up2 (Has.p (k := QG a) (a := (L1, x)) inferInstance hh) (by omega)
    · exact QF.up2 (Has.p (k := QG b) (a := (L2, y)) inferInstance hh) (by omega)
  · exact RA.of_row (Has.p (k := RowF B) (a := [(⟨a.n, a.a, a.m, a.b, x⟩ : QE), ⟨b.n, b.a, b.m, b.b, y⟩].flatMap QR.cells) inferInstance hh) (fun _ _ h => h)
  rintro _ _ ⟨X, rfl, rfl⟩
  exact W.r [] (sv X) (by kernel_rfl) ⟨X, rfl, rfl⟩ (entS' (by omega) rfl)
theorem p_owhole (n : Int) (h1 : -9223372036854775808 ≤ n) (h2 : n < 9223372036854775808) :
    PCalls tb Tryz.prog 33 [.int .i64 n] Γ (QPost 2 (n : Rat)) := by
  refine PCalls.of_W tbOk Tryz.func33 rfl (by kernel_rfl) ?_
  refine W.cl [] (by kernel_rfl) (p_zof n (by omega) (by omega)) ?_
  rintro _ _ ⟨u1, d1, rfl, rfl⟩   -- n
  refine W.cl [] (by kernel_rfl) (p_qwhole u1 d1) ?_
  rintro _ _ ⟨n2, a2, m2, b2, rfl, rfl⟩   -- (n : Rat)
  exact W.r [] (qv n2 a2 m2 b2) (by kernel_rfl) ⟨_, _, _, _, rfl, rfl⟩ (entQ (by omega) rfl)
theorem p_otwo  :
    PCalls tb Tryz.prog 34 [] Γ (fun v Δ => ∃ (u : Sl) (d : Bool), v = .tuple #[zv u d, zv ⟨none, 0, 0⟩ false] ∧ Δ = [ZF u d (2, 2), ZF ⟨none, 0, 0⟩ false (2, 0)]) := by
  refine PCalls.of_W tbOk Tryz.func34 rfl (by kernel_rfl) ?_
  refine W.cl [] (by kernel_rfl) (p_zof 2 (by omega) (by omega)) ?_
  rintro _ _ ⟨u1, d1, rfl, rfl⟩   -- 2
  exact W.r [] (.tuple #[zv u1 d1, zv ⟨none, 0, 0⟩ false]) (by kernel_rfl) ⟨_, _, rfl, rfl⟩ (entAll (Δ := [_]) (Δ' := [_]) (entZ (by omega) rfl) entZnil)
theorem p_otimes (a b : Qw) (c d : Int) {x y : Rat} [Has (QG a) (L, x) Γ] [Has (QG b) (M, y) Γ] (hc : -9223372036854775808 ≤ c ∧ c < 9223372036854775808) (hd : -9223372036854775808 ≤ d ∧ d < 9223372036854775808) (hL : L ≤ 400000 := by omega) (hM : M ≤ 400000 := by omega) :
    PCalls tb Tryz.prog 66 [q2v a b, .int .i64 c, .int .i64 d] Γ (Q2Post (L + M + 30) (tm1 x y c d) (tm2 x y c d)) := by
  refine PCalls.of_W tbOk Tryz.func66 rfl (by kernel_rfl) ?_
  refine W.cl [] (by kernel_rfl) (p_qof d 2 (by omega) (by omega) (by omega) (by omega) (by omega)) ?_
  rintro _ _ ⟨n1, a1, m1, b1, rfl, rfl⟩   -- (Rat.divInt d 2)
  refine W.cl [] (by kernel_rfl) (p_owhole c (by omega) (by omega)) ?_
  rintro _ _ ⟨n2, a2, m2, b2, rfl, rfl⟩   -- (c : Rat)
  refine W.cl [] (by kernel_rfl) (p_qmul a.n a.a a.m a.b n2 a2 m2 b2) ?_
  rintro _ _ ⟨n3, a3, m3, b3, rfl, rfl⟩   -- (x * (c : Rat))
  refine W.cl [] (by kernel_rfl) (p_owhole d (by omega) (by omega)) ?_
  rintro _ _ ⟨n4, a4, m4, b4, rfl, rfl⟩   -- (d : Rat)
  refine W.cl [] (by kernel_rfl) (p_qmul b.n b.a b.m b.b n4 a4 m4 b4) ?_
  rintro _ _ ⟨n5, a5, m5, b5, rfl, rfl⟩   -- (y * (d : Rat))
  refine W.cl [] (by kernel_rfl) (p_qadd n3 a3 m3 b3 n5 a5 m5 b5) ?_
  rintro _ _ ⟨n6, a6, m6, b6, rfl, rfl⟩   -- ((x * (c : Rat)) + (y * (d : Rat)))
  refine W.cl [] (by kernel_rfl) (p_owhole c (by omega) (by omega)) ?_
  rintro _ _ ⟨n7, a7, m7, b7, rfl, rfl⟩   -- (c : Rat)
  refine W.cl [] (by kernel_rfl) (p_qmul b.n b.a b.m b.b n7 a7 m7 b7) ?_
  rintro _ _ ⟨n8, a8, m8, b8, rfl, rfl⟩   -- (y * (c : Rat))
  refine W.cl [] (by kernel_rfl) (p_qmul a.n a.a a.m a.b n1 a1 m1 b1) ?_
  rintro _ _ ⟨n9, a9, m9, b9, rfl, rfl⟩   -- (x * (Rat.divInt d 2))
  refine W.cl [] (by kernel_rfl) (p_qadd n8 a8 m8 b8 n9 a9 m9 b9) ?_
  rintro _ _ ⟨n10, a10, m10, b10, rfl, rfl⟩   -- ((y * (c : Rat)) + (x * (Rat.divInt d 2)))
  exact W.r [] (q2v ⟨n6, a6, m6, b6⟩ ⟨n10, a10, m10, b10⟩) (by kernel_rfl) ⟨⟨_, _, _, _⟩, ⟨_, _, _, _⟩, rfl, rfl⟩ (entG2 (by omega) rfl rfl)
theorem p_osum (a b c d : Qw) {x y z w : Rat} {L1 L2 L3 L4 : Nat} [Has (QG a) (L1, x) Γ] [Has (QG b) (L2, y) Γ] [Has (QG c) (L3, z) Γ] [Has (QG d) (L4, w) Γ] (hL : L1 ≤ 1000000 ∧ L2 ≤ 1000000 ∧ L3 ≤ 1000000 ∧ L4 ≤ 1000000 := by omega) :
    PCalls tb Tryz.prog 65 [q2v a b, q2v c d] Γ (Q2Post (max L1 L2 + max L3 L4 + 5) (x + z) (y + w)) := by
  refine PCalls.of_W tbOk Tryz.func65 rfl (by kernel_rfl) ?_
  refine W.cl [] (by kernel_rfl) (p_qadd a.n a.a a.m a.b c.n c.a c.m c.b) ?_
  rintro _ _ ⟨n1, a1, m1, b1, rfl, rfl⟩   -- (?a.n + ?c.n)
  refine W.cl [] (by kernel_rfl) (p_qadd b.n b.a b.m b.b d.n d.a d.m d.b) ?_
  rintro _ _ ⟨n2, a2, m2, b2, rfl, rfl⟩   -- (?b.n + ?d.n)
  exact W.r [] (q2v ⟨n1, a1, m1, b1⟩ ⟨n2, a2, m2, b2⟩) (by kernel_rfl) ⟨⟨_, _, _, _⟩, ⟨_, _, _, _⟩, rfl, rfl⟩ (entG2 (by omega) rfl rfl)
theorem p_ominus (a b : Qw) {x y : Rat} {L1 L2 : Nat} [Has (QG a) (L1, x) Γ] [Has (QG b) (L2, y) Γ] (hL : L1 ≤ 1000000 ∧ L2 ≤ 1000000 := by omega) :
    PCalls tb Tryz.prog 63 [q2v a b] Γ (Q2Post (max L1 L2) (-x) (-y)) := by
  refine PCalls.of_W tbOk Tryz.func63 rfl (by kernel_rfl) ?_
  refine W.cl [] (by kernel_rfl) (p_qneg a.n a.a a.m a.b) ?_
  rintro _ _ ⟨n1, a1, m1, b1, rfl, rfl⟩   -- (-?a.n)
  refine W.cl [] (by kernel_rfl) (p_qneg b.n b.a b.m b.b) ?_
  rintro _ _ ⟨n2, a2, m2, b2, rfl, rfl⟩   -- (-?b.n)
  exact W.r [] (q2v ⟨n1, a1, m1, b1⟩ ⟨n2, a2, m2, b2⟩) (by kernel_rfl) ⟨⟨_, _, _, _⟩, ⟨_, _, _, _⟩, rfl, rfl⟩ (entG2 (by omega) rfl rfl)
theorem entG4 {a b c d : Qw} {L1 L2 L3 L4 L' : Nat} {p p' q q' r r' s s' : Rat} [h1 : Has (QG a) (L1, p) Γ] [h2 : Has (QG b) (L2, q) Γ] [h3 : Has (QG c) (L3, r) Γ] [h4 : Has (QG d) (L4, s) Γ] (hL : L1 ≤ L' ∧ L2 ≤ L' ∧ L3 ≤ L' ∧ L4 ≤ L') (e1 : p = p') (e2 : q = q') (e3 : r = r') (e4 : s = s') :
    ∀ (I : Blk) (w : World), DataOK tb I w → Holds Γ I w → Holds [QG a (L', p'), QG b (L', q'), QG c (L', r'), QG d (L', s')] I w := fun I w _ hh => by
  subst e1 e2 e3 e4
  exact Holds.cons (QF.up2 (h1.p hh) hL.1) (Holds.cons (QF.up2 (h2.p hh) hL.2.1) (Holds.cons (QF.up2 (h3.p hh) hL.2.2.1) (holds1 (QF.up2 (h4.p hh) hL.2.2.2))))
theorem entPl {x y : Sw} {L1 L2 L' : Nat} {X X' Y Y' : Sn} [h1 : Has (SF x) (L1, X) Γ] [h2 : Has (SF y) (L2, Y) Γ] (hL : L1 ≤ L' ∧ L2 ≤ L') (e1 : X = X') (e2 : Y = Y') : ∀ (I : Blk) (w : World), DataOK tb I w → Holds Γ I w → Holds [SF x (L', X'), SF y (L', Y')] I w := fun I w hd hh => by
  exact Holds.cons ((entS' (Γ := Γ) (x := x) hL.1 e1) I w hd hh).h0' (entS' (Γ := Γ) (x := y) hL.2 e2 I w hd hh)
theorem p_omag (f : Bool) (o : Int) (g a b c d : Qw) {V : On} [Has (QG g) (L, V.g) Γ] (hL : L ≤ 1000000 := by omega) :
    PCalls tb Tryz.prog 28 [ttv f o g a b c d] Γ (fun v Δ => ∃ g : Qw, v = qv g.n g.a g.m g.b ∧ Δ = [QG g (max L 2, V.mag)]) := by
  refine PCalls.of_W tbOk Tryz.func28 rfl (by kernel_rfl) ?_
  refine W.cl [] (by kernel_rfl) (p_qsign g.n g.a g.m g.b) ?_
  rintro _ _ ⟨rfl, rfl⟩
  refine W.d [] 6 (V.g.num.sign == 0) (by kernel_rfl) (fun hb => ?_) (fun hb => ?_)
  · skip
    refine W.cl [6] (by kernel_rfl) (p_owhole 1 (by omega) (by omega)) ?_
    rintro _ _ ⟨n2, a2, m2, b2, rfl, rfl⟩   -- (1 : Rat)
    exact W.r [] (qv n2 a2 m2 b2) (by kernel_rfl) ⟨⟨_, _, _, _⟩, rfl, rfl⟩ (entQ (by omega) (by unfold On.mag; rw [if_pos (sig0 hb)]; rfl))
  · skip
    exact W.r [6] (qv g.n g.a g.m g.b) (by kernel_rfl) ⟨g, rfl, rfl⟩ (entG (by omega) (by unfold On.mag; rw [if_neg (ne_of_beq_false hb)]))
theorem p_oflip (f : Bool) (o : Int) (g a b c d : Qw) :
    PCalls tb Tryz.prog 27 [ttv f o g a b c d] Γ (IsV (.bool f)) := by
  refine PCalls.of_W tbOk Tryz.func27 rfl (by kernel_rfl) ?_
  exact W.r [] (.bool f) (by kernel_rfl) ⟨rfl, rfl⟩ ent0
theorem p_ooct (f : Bool) (o : Int) (g a b c d : Qw) :
    PCalls tb Tryz.prog 26 [ttv f o g a b c d] Γ (IsV (.int .i64 o)) := by
  refine PCalls.of_W tbOk Tryz.func26 rfl (by kernel_rfl) ?_
  exact W.r [] (.int .i64 o) (by kernel_rfl) ⟨rfl, rfl⟩ ent0
set_option maxHeartbeats 4000000 in
theorem p_olead (V : On) (x : Q5) (p q r s : Qw) {X Y Z U : Rat} {L1 L2 L3 L4 : Nat} [Has (OF x) (L, V) Γ] [Has (QG p) (L1, X) Γ] [Has (QG q) (L2, Y) Γ] [Has (QG r) (L3, Z) Γ] [Has (QG s) (L4, U) Γ] (ho : 0 ≤ V.o ∧ V.o ≤ 7) (hL : L ≤ 10000 ∧ L1 ≤ 10000 ∧ L2 ≤ 10000 ∧ L3 ≤ 10000 ∧ L4 ≤ 10000 := by omega) :
    PCalls tb Tryz.prog 30 [otv V x, q2v p q, q2v r s] Γ (fun v Δ => ∃ a b c d : Qw, v = .tuple #[q2v a b, q2v c d] ∧ Δ = [QG a (5 * L + 4 * max (max L1 L2) (max L3 L4) + 200, V.u0 X Y Z U), QG b (5 * L + 4 * max (max L1 L2) (max L3 L4) + 200, V.u1 X Y Z U), QG c (5 * L + 4 * max (max L1 L2) (max L3 L4) + 200, V.v0 X Y Z U), QG d (5 * L + 4 * max (max L1 L2) (max L3 L4) + 200, V.v1 X Y Z U)]) := by
  refine PCalls.of_W tbOk Tryz.func30 rfl (by kernel_rfl) ?_
  have b1 := pc_b V.o
  have b2 := ps_b V.o
  have b3 := pcr_b V.o
  have b4 := psr_b V.o
  refine W.of5 x rfl ?_
  refine W.d [] 14 (V.f) (by kernel_rfl) (fun hb => ?_) (fun hb => ?_)
  · skip
    refine W.cl [14] (by kernel_rfl) (p_ominus r s) ?_
    rintro _ _ ⟨a1, b1, rfl, rfl⟩
    refine W.cl [] (by kernel_rfl) (p_omag V.f V.o x.g x.a x.b x.c x.d (V := V)) ?_
    rintro _ _ ⟨g2, rfl, rfl⟩
    refine W.unr [] 4 (by kernel_rfl) ?_
    refine W.cl [20] (by kernel_rfl) (p_qmul p.n p.a p.m p.b g2.n g2.a g2.m g2.b) ?_
    rintro _ _ ⟨n3, a3, m3, b3, rfl, rfl⟩   -- (?p.n * ?g2.n)
    refine W.cl [] (by kernel_rfl) (p_qmul a1.n a1.a a1.m a1.b g2.n g2.a g2.m g2.b) ?_
    rintro _ _ ⟨n4, a4, m4, b4, rfl, rfl⟩   -- (?a1.n * ?g2.n)
    refine W.cl [20] (by kernel_rfl) (p_qmul q.n q.a q.m q.b g2.n g2.a g2.m g2.b) ?_
    rintro _ _ ⟨n5, a5, m5, b5, rfl, rfl⟩   -- (?q.n * ?g2.n)
    refine W.cl [] (by kernel_rfl) (p_qmul b1.n b1.a b1.m b1.b g2.n g2.a g2.m g2.b) ?_
    rintro _ _ ⟨n6, a6, m6, b6, rfl, rfl⟩   -- (?b1.n * ?g2.n)
    refine W.cl [20] (by kernel_rfl) (p_opair V.o ho) ?_
    rintro _ _ ⟨rfl, rfl⟩
    refine W.cl [] (by kernel_rfl) (p_otimes ⟨n3, a3, m3, b3⟩ ⟨n5, a5, m5, b5⟩ ((pc V.o)) ((pcr V.o)) (by omega) (by omega)) ?_
    rintro _ _ ⟨a8, b8, rfl, rfl⟩
    refine W.cl [] (by kernel_rfl) (p_otimes ⟨n4, a4, m4, b4⟩ ⟨n6, a6, m6, b6⟩ ((ps V.o)) ((psr V.o)) (by omega) (by omega)) ?_
    rintro _ _ ⟨a9, b9, rfl, rfl⟩
    refine W.cl [] (by kernel_rfl) (p_ominus a9 b9) ?_
    rintro _ _ ⟨a10, b10, rfl, rfl⟩
    refine W.cl [] (by kernel_rfl) (p_osum a8 b8 a10 b10) ?_
    rintro _ _ ⟨a11, b11, rfl, rfl⟩
    refine W.cl [] (by kernel_rfl) (p_otimes ⟨n3, a3, m3, b3⟩ ⟨n5, a5, m5, b5⟩ ((ps V.o)) ((psr V.o)) (by omega) (by omega)) ?_
    rintro _ _ ⟨a12, b12, rfl, rfl⟩
    refine W.cl [] (by kernel_rfl) (p_otimes ⟨n4, a4, m4, b4⟩ ⟨n6, a6, m6, b6⟩ ((pc V.o)) ((pcr V.o)) (by omega) (by omega)) ?_
    rintro _ _ ⟨a13, b13, rfl, rfl⟩
    refine W.cl [] (by kernel_rfl) (p_osum a12 b12 a13 b13) ?_
    rintro _ _ ⟨a14, b14, rfl, rfl⟩
    refine W.cl [] (by kernel_rfl) (p_osum a11 b11 x.a x.b) ?_
    rintro _ _ ⟨a15, b15, rfl, rfl⟩
    refine W.cl [] (by kernel_rfl) (p_osum a14 b14 x.c x.d) ?_
    rintro _ _ ⟨a16, b16, rfl, rfl⟩
    exact W.r [] (.tuple #[q2v a15 b15, q2v a16 b16]) (by kernel_rfl) ⟨_, _, _, _, rfl, rfl⟩ (entG4 (by omega) (by unfold On.u0 On.sg; rw [hb]; rfl) (by unfold On.u1 On.sg; rw [hb]; rfl) (by unfold On.v0 On.sg; rw [hb]; rfl) (by unfold On.v1 On.sg; rw [hb]; rfl))
  · skip
    refine W.cl [14] (by kernel_rfl) (p_omag V.f V.o x.g x.a x.b x.c x.d (V := V)) ?_
    rintro _ _ ⟨g17, rfl, rfl⟩
    refine W.unr [] 4 (by kernel_rfl) ?_
    refine W.cl [20] (by kernel_rfl) (p_qmul p.n p.a p.m p.b g17.n g17.a g17.m g17.b) ?_
    rintro _ _ ⟨n18, a18, m18, b18, rfl, rfl⟩   -- (?p.n * ?g17.n)
    refine W.cl [] (by kernel_rfl) (p_qmul r.n r.a r.m r.b g17.n g17.a g17.m g17.b) ?_
    rintro _ _ ⟨n19, a19, m19, b19, rfl, rfl⟩   -- (?r.n * ?g17.n)
    refine W.cl [20] (by kernel_rfl) (p_qmul q.n q.a q.m q.b g17.n g17.a g17.m g17.b) ?_
    rintro _ _ ⟨n20, a20, m20, b20, rfl, rfl⟩   -- (?q.n * ?g17.n)
    refine W.cl [] (by kernel_rfl) (p_qmul s.n s.a s.m s.b g17.n g17.a g17.m g17.b) ?_
    rintro _ _ ⟨n21, a21, m21, b21, rfl, rfl⟩   -- (?s.n * ?g17.n)
    refine W.cl [20] (by kernel_rfl) (p_opair V.o ho) ?_
    rintro _ _ ⟨rfl, rfl⟩
    refine W.cl [] (by kernel_rfl) (p_otimes ⟨n18, a18, m18, b18⟩ ⟨n20, a20, m20, b20⟩ ((pc V.o)) ((pcr V.o)) (by omega) (by omega)) ?_
    rintro _ _ ⟨a23, b23, rfl, rfl⟩
    refine W.cl [] (by kernel_rfl) (p_otimes ⟨n19, a19, m19, b19⟩ ⟨n21, a21, m21, b21⟩ ((ps V.o)) ((psr V.o)) (by omega) (by omega)) ?_
    rintro _ _ ⟨a24, b24, rfl, rfl⟩
    refine W.cl [] (by kernel_rfl) (p_ominus a24 b24) ?_
    rintro _ _ ⟨a25, b25, rfl, rfl⟩
    refine W.cl [] (by kernel_rfl) (p_osum a23 b23 a25 b25) ?_
    rintro _ _ ⟨a26, b26, rfl, rfl⟩
    refine W.cl [] (by kernel_rfl) (p_otimes ⟨n18, a18, m18, b18⟩ ⟨n20, a20, m20, b20⟩ ((ps V.o)) ((psr V.o)) (by omega) (by omega)) ?_
    rintro _ _ ⟨a27, b27, rfl, rfl⟩
    refine W.cl [] (by kernel_rfl) (p_otimes ⟨n19, a19, m19, b19⟩ ⟨n21, a21, m21, b21⟩ ((pc V.o)) ((pcr V.o)) (by omega) (by omega)) ?_
    rintro _ _ ⟨a28, b28, rfl, rfl⟩
    refine W.cl [] (by kernel_rfl) (p_osum a27 b27 a28 b28) ?_
    rintro _ _ ⟨a29, b29, rfl, rfl⟩
    refine W.cl [] (by kernel_rfl) (p_osum a26 b26 x.a x.b) ?_
    rintro _ _ ⟨a30, b30, rfl, rfl⟩
    refine W.cl [] (by kernel_rfl) (p_osum a29 b29 x.c x.d) ?_
    rintro _ _ ⟨a31, b31, rfl, rfl⟩
    exact W.r [] (.tuple #[q2v a30 b30, q2v a31 b31]) (by kernel_rfl) ⟨_, _, _, _, rfl, rfl⟩ (entG4 (by omega) (by unfold On.u0 On.sg; rw [hb]; rfl) (by unfold On.u1 On.sg; rw [hb]; rfl) (by unfold On.v0 On.sg; rw [hb]; rfl) (by unfold On.v1 On.sg; rw [hb]; rfl))
theorem p_oat (V : On) (x : Q5) (a b : Int) [Has (OF x) (L, V) Γ] (ho : 0 ≤ V.o ∧ V.o ≤ 7) (ha : -9223372036854775808 ≤ a ∧ a < 9223372036854775808) (hb : -9223372036854775808 ≤ b ∧ b < 9223372036854775808) (hL : L ≤ 10000 := by omega) :
    PCalls tb Tryz.prog 11 [otv V x, .agg #[.int .i64 a, .int .i64 b]] Γ (PlPost (5 * L + 208) (r2 (V.u0 a 0 b 0) (V.u1 a 0 b 0)) (r2 (V.v0 a 0 b 0) (V.v1 a 0 b 0))) := by
  refine PCalls.of_W tbOk Tryz.func11 rfl (by kernel_rfl) ?_
  refine W.more rfl (entQ0 (L' := 0)) ?_
  refine W.cl [] (by kernel_rfl) (p_owhole a (by omega) (by omega)) ?_
  rintro _ _ ⟨n1, a1, m1, b1, rfl, rfl⟩   -- (a : Rat)
  refine W.cl [] (by kernel_rfl) (p_owhole b (by omega) (by omega)) ?_
  rintro _ _ ⟨n2, a2, m2, b2, rfl, rfl⟩   -- (b : Rat)
  refine W.cl [] (by kernel_rfl) (p_olead V x ⟨n1, a1, m1, b1⟩ nilQ ⟨n2, a2, m2, b2⟩ nilQ ho) ?_
  rintro _ _ ⟨a3, b3, c3, d3, rfl, rfl⟩
  refine W.cl [] (by kernel_rfl) (p_otwo) ?_
  rintro _ _ ⟨u4, d4, rfl, rfl⟩   -- 
  refine W.cl [] (by kernel_rfl) (p_onumber u4 d4 ⟨none, 0, 0⟩ false a3 b3 (by omega) (by omega)) ?_
  rintro _ _ ⟨X5, rfl, rfl⟩
  refine W.cl [] (by kernel_rfl) (p_onumber u4 d4 ⟨none, 0, 0⟩ false c3 d3 (by omega) (by omega)) ?_
  rintro _ _ ⟨X6, rfl, rfl⟩
  exact W.r [] (plv X5 X6) (by kernel_rfl) ⟨_, _, rfl, rfl⟩ (entPl (by omega) rfl rfl)
theorem p_omove (V : On) (x : Q5) [Has (OF x) (L, V) Γ] (hL : L ≤ 10000 := by omega) :
    PCalls tb Tryz.prog 14 [otv V x] Γ (PlPost (max L 2) (r2 V.a V.b) (r2 V.c V.d)) := by
  refine PCalls.of_W tbOk Tryz.func14 rfl (by kernel_rfl) ?_
  refine W.of5 x rfl ?_
  refine W.cl [] (by kernel_rfl) (p_otwo) ?_
  rintro _ _ ⟨u1, d1, rfl, rfl⟩   -- 
  refine W.cl [] (by kernel_rfl) (p_onumber u1 d1 ⟨none, 0, 0⟩ false x.a x.b (by omega) (by omega)) ?_
  rintro _ _ ⟨X2, rfl, rfl⟩
  refine W.cl [] (by kernel_rfl) (p_onumber u1 d1 ⟨none, 0, 0⟩ false x.c x.d (by omega) (by omega)) ?_
  rintro _ _ ⟨X3, rfl, rfl⟩
  exact W.r [] (plv X2 X3) (by kernel_rfl) ⟨_, _, rfl, rfl⟩ (entPl (by omega) rfl rfl)
theorem p_omake (f : Bool) (g : Qw) (o : Int) (a c : Qw) {X Y Z : Rat} {L1 L2 L3 : Nat} [Has (QG g) (L1, X) Γ] [Has (QG a) (L2, Y) Γ] [Has (QG c) (L3, Z) Γ] (ho : 0 ≤ o ∧ o ≤ 7) (hX : 0 < X.num.sign) (hL : L1 ≤ 1000000 := by omega) :
    PCalls tb Tryz.prog 22 [.bool f, qv g.n g.a g.m g.b, .int .i64 o, qv a.n a.a a.m a.b, qv c.n c.a c.m c.b] Γ (fun v Δ => v = .tuple #[ttv f o g a nilQ c nilQ, .int .i64 0] ∧ Δ = [OF ⟨g, a, nilQ, c, nilQ⟩ (max L1 (max L2 L3), ⟨f, o, X, Y, 0, Z, 0⟩)]) := by
  refine PCalls.of_W tbOk Tryz.func22 rfl (by kernel_rfl) ?_
  refine W.more rfl (entQ0 (L' := 0)) ?_
  refine W.df [] 15 (decide (o < 0)) (by kernel_rfl) (by rw [decide_eq_false_iff_not]; omega) ?_
  refine W.df [15] 12 (decide (o > 7)) (by kernel_rfl) (by rw [decide_eq_false_iff_not]; omega) ?_
  refine W.cl [12] (by kernel_rfl) (p_qsign g.n g.a g.m g.b) ?_
  rintro _ _ ⟨rfl, rfl⟩
  refine W.df [] 20 (decide (X.num.sign ≤ 0)) (by kernel_rfl) (by rw [decide_eq_false_iff_not]; omega) ?_
  exact W.r [20] (.tuple #[ttv f o g a ⟨⟨none, 0, 0⟩, false, ⟨none, 0, 0⟩, false⟩ c ⟨⟨none, 0, 0⟩, false, ⟨none, 0, 0⟩, false⟩, .int .i64 0]) (by kernel_rfl) ⟨rfl, rfl⟩ (entO rfl rfl rfl rfl rfl (by omega))
theorem p_othen (V U : On) (x y : Q5) [Has (OF x) (L, V) Γ] [Has (OF y) (M, U) Γ] (ho : 0 ≤ V.o ∧ V.o ≤ 7) (hu : 0 ≤ U.o ∧ U.o ≤ 7) (hL : L ≤ 10000 ∧ M ≤ 10000 := by omega) :
    PCalls tb Tryz.prog 8 [otv V x, otv U y] Γ (fun v Δ => ∃ q : Q5, v = otv (V.then U) q ∧ Δ = [OF q (5 * M + 4 * L + 300, V.then U)]) := by
  refine PCalls.of_W tbOk Tryz.func8 rfl (by kernel_rfl) ?_
  refine W.more (Δ := [QG y.g (M, U.g)]) rfl (fun I w _ hh => holds1 (Has.p (k := OF y) (a := (M, U)) inferInstance hh).1) ?_
  refine W.of5 x rfl ?_
  refine W.cl [] (by kernel_rfl) (p_olead U y x.a x.b x.c x.d hu) ?_
  rintro _ _ ⟨a1, b1, c1, d1, rfl, rfl⟩
  refine W.d [] 20 (U.f) (by kernel_rfl) (fun hb => ?_) (fun hb => ?_)
  · skip
    refine W.cl [20] (by kernel_rfl) (p_omag V.f V.o x.g x.a x.b x.c x.d (V := V)) ?_
    rintro _ _ ⟨g2, rfl, rfl⟩
    refine W.cl [] (by kernel_rfl) (p_omag U.f U.o y.g y.a y.b y.c y.d (V := U)) ?_
    rintro _ _ ⟨g3, rfl, rfl⟩
    refine W.cl [] (by kernel_rfl) (p_qmul g2.n g2.a g2.m g2.b g3.n g3.a g3.m g3.b) ?_
    rintro _ _ ⟨n4, a4, m4, b4, rfl, rfl⟩   -- (?g2.n * ?g3.n)
    exact W.r [] (ttv (!V.f == U.f) (bits BinOp.and .i64 (IntKind.i64.wrap (IntKind.i64.wrap (0 - V.o) + U.o)) 7) ⟨n4, a4, m4, b4⟩ a1 b1 c1 d1) (by kernel_rfl) ⟨⟨⟨_, _, _, _⟩, _, _, _, _⟩, congrArg (fun z => ttv (!(V.f == U.f)) z _ _ _ _ _) (by rw [bitst ho hu]; unfold On.then; simp only; rw [hb, if_pos rfl]), rfl⟩ (entO rfl rfl rfl rfl rfl (by omega))
  · skip
    refine W.cl [20] (by kernel_rfl) (p_omag V.f V.o x.g x.a x.b x.c x.d (V := V)) ?_
    rintro _ _ ⟨g5, rfl, rfl⟩
    refine W.cl [] (by kernel_rfl) (p_omag U.f U.o y.g y.a y.b y.c y.d (V := U)) ?_
    rintro _ _ ⟨g6, rfl, rfl⟩
    refine W.cl [] (by kernel_rfl) (p_qmul g5.n g5.a g5.m g5.b g6.n g6.a g6.m g6.b) ?_
    rintro _ _ ⟨n7, a7, m7, b7, rfl, rfl⟩   -- (?g5.n * ?g6.n)
    exact W.r [] (ttv (!V.f == U.f) (bits BinOp.and .i64 (IntKind.i64.wrap (V.o + U.o)) 7) ⟨n7, a7, m7, b7⟩ a1 b1 c1 d1) (by kernel_rfl) ⟨⟨⟨_, _, _, _⟩, _, _, _, _⟩, congrArg (fun z => ttv (!(V.f == U.f)) z _ _ _ _ _) (by rw [bitsf ho hu]; unfold On.then; simp only; rw [hb, if_neg (by simp)]), rfl⟩ (entO rfl rfl rfl rfl rfl (by omega))
end
end Go.Proofs.YtlpfkbkpnljieaaGreat

set_option linter.unusedSimpArgs false
set_option linter.unusedVariables false
namespace Go.Proofs.YtlpfkbkpnljieaaGreat
open Go.RowKit Go.IntWalk

section
variable {fin : VS → List Fact → Prop} {Γ : List Fact} {L M K : Nat}
theorem p_zsmallT (s : Sl) (b : Bool) {x : Int} [Has (ZF s b) (L, x) Γ] (h : small x = true) (hL : L ≤ 1000000000000 := by omega) : PCalls tb Tryz.prog 59 [zv s b] Γ (IsV (.tuple #[.int .i64 x, .bool true])) := by
  have g := p_zsmall (Γ := Γ) s b (x := x)
  simpa only [h, if_true] using g
theorem p_xnearT (x : Sw) {S : Sn} [Has (SF x) (L, S) Γ] (a : Int) (ha : S.near = a) (hf : S.half.floors = true) (hL : L ≤ 280 := by omega) : PCalls tb Tryz.prog 58 [sv x] Γ (ZPost (10 * L + 500) a) := by
  subst ha
  exact p_xnear x hf
theorem p_ogrid (x y : Sw) {X Y : Sn} [Has (SF x) (L, X) Γ] [Has (SF y) (M, Y) Γ] (hX : X.half.floors = true) (hY : Y.half.floors = true) (a b : Int) (ha : X.near = a) (hb : Y.near = b) (sa : small a = true) (sb : small b = true) (ba : -1000 ≤ a ∧ a ≤ 1000) (bb : -1000 ≤ b ∧ b ≤ 1000) (hL : L ≤ 280 := by omega) (hM : M ≤ 280 := by omega) :
    PCalls tb Tryz.prog 25 [plv x y] Γ (IsV (.tuple #[.agg #[.int .i64 a, .int .i64 b], .int .i64 0])) := by
  refine PCalls.of_W tbOk Tryz.func25 rfl (by kernel_rfl) ?_
  refine W.cl [] (by kernel_rfl) (p_xnearT x a ha hX) ?_
  rintro _ _ ⟨u1, d1, rfl, rfl⟩   -- NEAR
  refine W.cl [] (by kernel_rfl) (p_zsmallT u1 d1 sa) ?_
  rintro _ _ ⟨rfl, rfl⟩
  refine W.cl [] (by kernel_rfl) (p_xnearT y b hb hY) ?_
  rintro _ _ ⟨u3, d3, rfl, rfl⟩   -- NEAR
  refine W.cl [] (by kernel_rfl) (p_zsmallT u3 d3 sb) ?_
  rintro _ _ ⟨rfl, rfl⟩
  refine W.df [] 24 (!true) (by kernel_rfl) (rfl) ?_
  refine W.df [24] 28 (!true) (by kernel_rfl) (rfl) ?_
  refine W.df [28] 32 (decide (a < -2147483648)) (by kernel_rfl) (by rw [decide_eq_false_iff_not]; omega) ?_
  refine W.df [32] 36 (decide (a > 2147483647)) (by kernel_rfl) (by rw [decide_eq_false_iff_not]; omega) ?_
  refine W.df [36] 40 (decide (b < -2147483648)) (by kernel_rfl) (by rw [decide_eq_false_iff_not]; omega) ?_
  refine W.df [40] 43 (decide (b > 2147483647)) (by kernel_rfl) (by rw [decide_eq_false_iff_not]; omega) ?_
  exact W.r [43] (.tuple #[.agg #[.int .i64 a, .int .i64 b], .int .i64 0]) (by kernel_rfl) ⟨rfl, rfl⟩ ent0
end
end Go.Proofs.YtlpfkbkpnljieaaGreat

set_option linter.unusedSimpArgs false
set_option linter.unusedVariables false
namespace Go.Proofs.YtlpfkbkpnljieaaGreat
open Go.RowKit Go.IntWalk

/-- The examples' turns. -/
def ox1 : On := ⟨false, 1, ((1 : Int) : Rat), 0, 0, 0, 0⟩
def ox7 : On := ⟨false, 7, ((1 : Int) : Rat), 0, 0, 0, 0⟩
def ox2 : On := ⟨true, 2, ((1 : Int) : Rat), 0, 0, 0, 0⟩

section
variable {fin : VS → List Fact → Prop} {Γ : List Fact} {L M K : Nat}

set_option maxHeartbeats 4000000 in
theorem p_oknown : PCalls tb Tryz.prog 7 [] Γ (IsV (.bool true)) := by
  refine PCalls.of_W tbOk Tryz.func7 rfl (by kernel_rfl) ?_
  refine W.more (Δ := [QG nilQ (0, 0)]) rfl entQ0 ?_
  refine W.cl [] (by kernel_rfl) (p_zof 1 (by omega) (by omega)) ?_
  rintro _ _ ⟨u1, d1, rfl, rfl⟩
  refine W.cl [] (by kernel_rfl) (p_qwhole u1 d1) ?_
  rintro _ _ ⟨n2, a2, m2, b2, rfl, rfl⟩
  obtain ⟨x, hx⟩ : ∃ x : Q5, x = ⟨⟨n2, a2, m2, b2⟩, nilQ, nilQ, nilQ, nilQ⟩ := ⟨_, rfl⟩
  refine W.cl [] (by kernel_rfl) (p_omake false ⟨n2, a2, m2, b2⟩ 1 nilQ nilQ (by omega) (by decide +kernel)) ?_
  rintro _ _ ⟨rfl, h1⟩
  subst h1
  refine W.cl [] (by kernel_rfl) (p_omake false ⟨n2, a2, m2, b2⟩ 7 nilQ nilQ (by omega) (by decide +kernel)) ?_
  rintro _ _ ⟨rfl, rfl⟩
  refine W.cl [] (by kernel_rfl) (p_omake true ⟨n2, a2, m2, b2⟩ 2 nilQ nilQ (by omega) (by decide +kernel)) ?_
  rintro _ _ ⟨rfl, rfl⟩
  refine W.cx [] (Γ' := [OF ⟨⟨n2, a2, m2, b2⟩, nilQ, nilQ, nilQ, nilQ⟩ (2, ox1)]) (by kernel_rfl) (entO rfl rfl rfl rfl rfl (by omega)) (p_oat ox1 ⟨⟨n2, a2, m2, b2⟩, nilQ, nilQ, nilQ, nilQ⟩ 1 0 (by decide) (by omega) (by omega)) ?_
  rintro _ _ ⟨X6, Y6, rfl, rfl⟩
  refine W.cl [] (by kernel_rfl) (p_ogrid X6 Y6 (by decide +kernel) (by decide +kernel) 1 1 (by decide +kernel) (by decide +kernel) (by decide) (by decide) (by omega) (by omega)) ?_
  rintro _ _ ⟨rfl, rfl⟩
  refine W.cx [] (Γ' := [OF ⟨⟨n2, a2, m2, b2⟩, nilQ, nilQ, nilQ, nilQ⟩ (2, ox2)]) (by kernel_rfl) (entO rfl rfl rfl rfl rfl (by omega)) (p_oat ox2 ⟨⟨n2, a2, m2, b2⟩, nilQ, nilQ, nilQ, nilQ⟩ 3 1 (by decide) (by omega) (by omega)) ?_
  rintro _ _ ⟨X8, Y8, rfl, rfl⟩
  refine W.cl [] (by kernel_rfl) (p_ogrid X8 Y8 (by decide +kernel) (by decide +kernel) 1 3 (by decide +kernel) (by decide +kernel) (by decide) (by decide) (by omega) (by omega)) ?_
  rintro _ _ ⟨rfl, rfl⟩
  refine W.cx [] (Γ' := [OF ⟨⟨n2, a2, m2, b2⟩, nilQ, nilQ, nilQ, nilQ⟩ (2, ox1)] ++ [OF ⟨⟨n2, a2, m2, b2⟩, nilQ, nilQ, nilQ, nilQ⟩ (2, ox7)]) (by kernel_rfl) (entAll (entO rfl rfl rfl rfl rfl (by omega)) (entO rfl rfl rfl rfl rfl (by omega)))
    (@p_othen _ 2 2 ox1 ox7 ⟨⟨n2, a2, m2, b2⟩, nilQ, nilQ, nilQ, nilQ⟩ ⟨⟨n2, a2, m2, b2⟩, nilQ, nilQ, nilQ, nilQ⟩ ⟨by simp⟩ ⟨by simp⟩ (by decide) (by decide) (by omega)) ?_
  rintro _ _ ⟨q, rfl, rfl⟩
  refine W.eqv [55, 59, 63, 67, 72, 76, 81, 86, 91] 57 #[.int .i64 1, .int .i64 1] 3 (by kernel_rfl) (by omega) (by kernel_rfl) (by kernel_rfl) (by kernel_rfl) (by kernel_rfl) ?_
  refine W.eqv [55, 59, 63, 67, 72, 76, 81, 86, 91] 57 #[.int .i64 1, .int .i64 3] 3 (by kernel_rfl) (by omega) (by kernel_rfl) (by kernel_rfl) (by kernel_rfl) (by kernel_rfl) ?_
  refine W.cl [55, 59, 63, 67, 72, 76, 81, 86, 91] (by kernel_rfl) (p_ooct (ox1.then ox7).f (ox1.then ox7).o q.g q.a q.b q.c q.d) ?_
  rintro _ _ ⟨rfl, rfl⟩
  refine W.cl [55, 59, 63, 67, 72, 76, 81, 86, 91] (by kernel_rfl) (p_oflip (ox1.then ox7).f (ox1.then ox7).o q.g q.a q.b q.c q.d) ?_
  rintro _ _ ⟨rfl, rfl⟩
  refine W.cx [55, 59, 63, 67, 72, 76, 81, 86, 91] (Γ' := [QG q.g (5 * 2 + 4 * 2 + 300, (ox1.then ox7).g)]) (by kernel_rfl) (fun I w _ hh => holds1 (Has.p (k := OF q) (a := (5 * 2 + 4 * 2 + 300, ox1.then ox7)) inferInstance hh).1) (p_omag (ox1.then ox7).f (ox1.then ox7).o q.g q.a q.b q.c q.d (V := ox1.then ox7)) ?_
  rintro _ _ ⟨g15, rfl, rfl⟩
  refine W.cl [55, 59, 63, 67, 72, 76, 81, 86, 91] (by kernel_rfl) (p_qcmp g15.n g15.a g15.m g15.b n2 a2 m2 b2) ?_
  rintro _ _ ⟨rfl, rfl⟩
  exact W.r [55, 59, 63, 67, 72, 76, 81, 86, 91] (.bool (cmpQ (ox1.then ox7).mag ((1 : Int) : Rat) == 0)) (by kernel_rfl) ⟨congrArg _ (by decide +kernel), rfl⟩ ent0

theorem r2_ext {x x' y y' : Rat} (h1 : x = x') (h2 : y = y') : r2 x y = r2 x' y' := by rw [h1, h2]
end
end Go.Proofs.YtlpfkbkpnljieaaGreat
