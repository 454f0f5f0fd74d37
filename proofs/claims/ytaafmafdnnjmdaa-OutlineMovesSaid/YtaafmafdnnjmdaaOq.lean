/- The reference's turns; turns out of texts. Turns out of texts. Turns one behind the other: plain laws. Turns, by bits: how great they grow; the contracts with that. Places of whichever field, as numbers of root 2's field. The reference's turn of a point; it is the program's. -/
import Derived.Test.YtaafmafdnnjmdaaOo
import Derived.Test.YtaafmafdnnjmdaaRc
import Derived.Test.YtaafmafdnnjmdaaRk
set_option linter.unusedSimpArgs false
set_option linter.unusedVariables false
namespace Go.Proofs.Ytaafmafdnnjmdaa
open Go.RowKit Go.IntWalk

structure Rn where
  A : Sn
  B : Sn
  C : Sn
  D : Sn
  E : Sn
  F : Sn
theorem TF.up2 {x : Tw} {S : Sn} {L L' : Nat} {I : Blk} {w : World} (h : (TF x (L, S)).p I w) (hL : L ≤ L') : (TF x (L', S)).p I w := by
  obtain ⟨g1, g2, g3, g4, g5, g6⟩ := h
  exact ⟨YF.up2 g1 hL, YF.up2 g2 hL, PF.up2 g3 hL, PF.up2 g4 hL, PF.up2 g5 hL, PF.up2 g6 hL⟩
section
variable {fin : VS → List Fact → Prop} {Γ : List Fact} {L M K : Nat}
end
end Go.Proofs.Ytaafmafdnnjmdaa

set_option linter.unusedSimpArgs false
set_option linter.unusedVariables false
namespace Go.Proofs.Ytaafmafdnnjmdaa
open Go.RowKit Go.IntWalk

section
variable {fin : VS → List Fact → Prop} {Γ : List Fact} {L M K : Nat}
end
end Go.Proofs.Ytaafmafdnnjmdaa

set_option linter.unusedSimpArgs false
set_option linter.unusedVariables false
namespace Go.Proofs.Ytaafmafdnnjmdaa
open Go.RowKit Go.IntWalk

/-- What a turn does to a point, by four numbers. -/
structure P4 where
  x : Rat
  y : Rat
  z : Rat
  w : Rat
def On.ap (V : On) (p : P4) : P4 := ⟨V.u0 p.x p.y p.z p.w, V.u1 p.x p.y p.z p.w, V.v0 p.x p.y p.z p.w, V.v1 p.x p.y p.z p.w⟩
theorem P4.ext' {p q : P4} (h1 : p.x = q.x) (h2 : p.y = q.y) (h3 : p.z = q.z) (h4 : p.w = q.w) : p = q := by
  cases p; cases q; simp_all
end Go.Proofs.Ytaafmafdnnjmdaa

set_option linter.unusedSimpArgs false
set_option linter.unusedVariables false
namespace Go.Proofs.Ytaafmafdnnjmdaa
open Go.RowKit Go.IntWalk

def bO (b : Nat) (V : On) : Prop := bq b V.g ∧ bq b V.a ∧ bq b V.b ∧ bq b V.c ∧ bq b V.d
def bP (b : Nat) (p : P4) : Prop := bq b p.x ∧ bq b p.y ∧ bq b p.z ∧ bq b p.w
theorem bq.pos {b : Nat} {q : Rat} (h : bq b q) : 1 ≤ b := by
  have h2 := h.2
  have := q.den_pos
  cases b with
  | zero => simp at h2; omega
  | succ b => omega
theorem bO.mag {b : Nat} {V : On} (h : bO b V) : bq b V.mag := by
  unfold On.mag
  split
  · exact bq.int (z := 1) (Nat.one_lt_two_pow (by have := h.1.pos; omega)) h.1.pos
  · exact h.1
theorem bq.sg {b : Nat} {V : On} {z : Rat} (h : bq b z) : bq b (V.sg z) := by
  unfold On.sg
  split
  · exact h.neg
  · exact h
theorem unit_bits {c : Int} (h : -1 ≤ c ∧ c ≤ 1) : bq 1 (c : Rat) := bq.int (by show c.natAbs < 2; omega) (by omega)
theorem half_bits {c : Int} (h : -1 ≤ c ∧ c ≤ 1) : bq 2 (Rat.divInt c 2) := bq.of (by decide) rfl (by show c.natAbs < 4; omega) (by decide)
theorem bq.tm1 {p : Nat} {x y : Rat} {c d : Int} (hx : bq p x) (hy : bq p y) (hc : -1 ≤ c ∧ c ≤ 1) (hd : -1 ≤ d ∧ d ≤ 1) : bq (2 * p + 3) (tm1 x y c d) :=
  ((hx.mul (unit_bits hc)).add (hy.mul (unit_bits hd))).mono (by omega)
theorem bq.tm2 {p : Nat} {x y : Rat} {c d : Int} (hx : bq p x) (hy : bq p y) (hc : -1 ≤ c ∧ c ≤ 1) (hd : -1 ≤ d ∧ d ≤ 1) : bq (2 * p + 4) (tm2 x y c d) :=
  ((hy.mul (unit_bits hc)).add (hx.mul (half_bits hd))).mono (by omega)
theorem bO.ap {b p : Nat} {V : On} {q : P4} (h : bO b V) (g : bP p q) : bP (4 * p + 5 * b + 10) (V.ap q) := by
  have hm := h.mag
  obtain ⟨h1, h2, h3, h4, h5⟩ := h
  obtain ⟨g1, g2, g3, g4⟩ := g
  have c1 := pc_b V.o
  have c2 := ps_b V.o
  have c3 := pcr_b V.o
  have c4 := psr_b V.o
  have x := g1.mul hm
  have y := g2.mul hm
  have z := (g3.sg (V := V)).mul hm
  have w := (g4.sg (V := V)).mul hm
  refine ⟨?_, ?_, ?_, ?_⟩
  · exact (((bq.tm1 x y c1 c3).add (bq.tm1 z w c2 c4).neg).add h2).mono (by omega)
  · exact (((bq.tm2 x y c1 c3).add (bq.tm2 z w c2 c4).neg).add h3).mono (by omega)
  · exact (((bq.tm1 x y c2 c4).add (bq.tm1 z w c1 c3)).add h4).mono (by omega)
  · exact (((bq.tm2 x y c2 c4).add (bq.tm2 z w c1 c3)).add h5).mono (by omega)
theorem bO.then {b c : Nat} {V U : On} (h : bO b V) (g : bO c U) : bO (4 * b + 5 * c + 10) (V.then U) := by
  have k := g.ap (q := ⟨V.a, V.b, V.c, V.d⟩) ⟨h.2.1, h.2.2.1, h.2.2.2.1, h.2.2.2.2⟩
  exact ⟨(h.mag.mul g.mag).mono (by omega), k.1, k.2.1, k.2.2.1, k.2.2.2⟩
theorem bS.r2 {b : Nat} {x y : Rat} (hx : bq b x) (hy : bq b y) (hb : 2 ≤ b) : bS b (r2 x y) :=
  ⟨Nat.lt_of_lt_of_le (by decide : 2 < 2 ^ 2) (pow_mono2 hb), Nat.two_pow_pos b, hx, hy, bq.zero b (by omega), bq.zero b (by omega)⟩
theorem int_bits {z : Int} (h : -9223372036854775808 ≤ z ∧ z < 9223372036854775808) : bq 64 (z : Rat) := bq.int (by
  have : (2 : Nat) ^ 64 = 18446744073709551616 := by decide
  omega) (by omega)
theorem OF.tight {x : Q5} {L k : Nat} {V : On} {I : Blk} {w : World} (h : (OF x (L, V)).p I w) (hq : bO k V) : (OF x (k / 32 + 1, V)).p I w := by
  obtain ⟨h1, h2, h3, h4, h5⟩ := h
  obtain ⟨g1, g2, g3, g4, g5⟩ := hq
  exact ⟨QF.tight h1 g1, QF.tight h2 g2, QF.tight h3 g3, QF.tight h4 g4, QF.tight h5 g5⟩
def On.X (V : On) (x y : Rat) : Sn := r2 (V.u0 x 0 y 0) (V.u1 x 0 y 0)
def On.Y (V : On) (x y : Rat) : Sn := r2 (V.v0 x 0 y 0) (V.v1 x 0 y 0)

section
variable {fin : VS → List Fact → Prop} {Γ : List Fact} {L M K : Nat}
theorem PCalls.plT {f : FuncId} {args : List Value} {X Y : Sn} {k : Nat} (h : PCalls tb Try.prog f args Γ (PlPost L X Y)) (h1 : bS k X) (h2 : bS k Y) : PCalls tb Try.prog f args Γ (PlPost (k / 32 + 1) X Y) :=
  h.entH (fun v Δ ⟨x, y, e1, e2⟩ => ⟨_, ⟨x, y, e1, rfl⟩, fun I w hh => by
    subst e2
    exact Holds.cons (SF.tight (hh (SF x (L, X)) (List.Mem.head _)) h1) (holds1 (SF.tight (hh (SF y (L, Y)) (List.Mem.tail _ (List.Mem.head _))) h2))⟩)
theorem bO.X {b : Nat} {V : On} (h : bO b V) {x y : Int} (hx : -9223372036854775808 ≤ x ∧ x < 9223372036854775808) (hy : -9223372036854775808 ≤ y ∧ y < 9223372036854775808) : bS (5 * b + 266) (V.X x y) ∧ bS (5 * b + 266) (V.Y x y) := by
  have k := h.ap (q := ⟨x, 0, y, 0⟩) ⟨int_bits hx, bq.zero 64 (by omega), int_bits hy, bq.zero 64 (by omega)⟩
  exact ⟨bS.r2 (k.1.mono (by omega)) (k.2.1.mono (by omega)) (by omega), bS.r2 (k.2.2.1.mono (by omega)) (k.2.2.2.mono (by omega)) (by omega)⟩
theorem p_oatT (V : On) (x : Q5) (a b : Int) {k : Nat} [Has (OF x) (L, V) Γ] (hk : bO k V) (ho : 0 ≤ V.o ∧ V.o ≤ 7) (ha : -9223372036854775808 ≤ a ∧ a < 9223372036854775808) (hb : -9223372036854775808 ≤ b ∧ b < 9223372036854775808) (hL : L ≤ 10000 := by omega) :
    PCalls tb Try.prog 19 [otv V x, .agg #[.int .i64 a, .int .i64 b]] Γ (PlPost ((5 * k + 266) / 32 + 1) (V.X a b) (V.Y a b)) :=
  by
  obtain ⟨k1, k2⟩ := hk.X ha hb
  have h := p_oat (Γ := Γ) V x a b ho ha hb hL
  unfold On.X at k1 ⊢
  unfold On.Y at k2 ⊢
  exact h.plT k1 k2
theorem p_oatE (V : On) (x : Q5) (a b : Int) {k : Nat} {X Y : Sn} [Has (OF x) (L, V) Γ] (hk : bO k V) (ho : 0 ≤ V.o ∧ V.o ≤ 7) (ha : -9223372036854775808 ≤ a ∧ a < 9223372036854775808) (hb : -9223372036854775808 ≤ b ∧ b < 9223372036854775808) (hX : V.X a b = X) (hY : V.Y a b = Y) (hL : L ≤ 10000 := by omega) :
    PCalls tb Try.prog 19 [otv V x, .agg #[.int .i64 a, .int .i64 b]] Γ (PlPost ((5 * k + 266) / 32 + 1) X Y) := by
  subst hX hY
  exact p_oatT V x a b hk ho ha hb hL
end
end Go.Proofs.Ytaafmafdnnjmdaa

set_option linter.unusedSimpArgs false
set_option linter.unusedVariables false
namespace Go.Proofs.Ytaafmafdnnjmdaa
open Go.RowKit Go.IntWalk

def rt0 (n : Int) : Rat := if n = 2 then 0 else (n : Rat)
def rt1 (n : Int) : Rat := if n = 2 then 1 else 0
def nm0 (a b c d : Rat) : Rat := a * c + (2 : Int) * b * d
def nm1 (a b c d : Rat) : Rat := a * d + b * c
/-- A number whose radicands are 0, 1, 2, by parts of 1 and root 2. -/
def Sn.n0 (S : Sn) : Rat := 0 + nm0 S.p 0 (1 : Int) 0 + nm0 S.q 0 (rt0 S.m) (rt1 S.m) + nm0 S.r 0 (rt0 S.n) (rt1 S.n) + nm0 S.s 0 (nm0 (rt0 S.m) (rt1 S.m) (rt0 S.n) (rt1 S.n)) (nm1 (rt0 S.m) (rt1 S.m) (rt0 S.n) (rt1 S.n))
def Sn.n1 (S : Sn) : Rat := 0 + nm1 S.p 0 (1 : Int) 0 + nm1 S.q 0 (rt0 S.m) (rt1 S.m) + nm1 S.r 0 (rt0 S.n) (rt1 S.n) + nm1 S.s 0 (nm0 (rt0 S.m) (rt1 S.m) (rt0 S.n) (rt1 S.n)) (nm1 (rt0 S.m) (rt1 S.m) (rt0 S.n) (rt1 S.n))
section
variable {fin : VS → List Fact → Prop} {Γ : List Fact} {L M K : Nat}
theorem p_olike (x y : Sw) {X Y : Sn} [Has (SF x) (L, X) Γ] [Has (SF y) (M, Y) Γ] (em : X.m = Y.m) (en : X.n = Y.n) (hL : L ≤ 100000 := by omega) (hM : M ≤ 100000 := by omega) :
    PCalls tb Try.prog 52 [plv x y] Γ (IsV (.bool true)) := by
  refine PCalls.of_W tbOk Try.func52 rfl (by kernel_rfl) ?_
  refine W.cl [] (by kernel_rfl) (p_xsub x y em en) ?_
  rintro _ _ ⟨X1, rfl, rfl⟩
  exact W.r [] (.bool (0 == 0)) (by kernel_rfl) ⟨rfl, rfl⟩ ent0
theorem p_oroot (u : Sl) (d : Bool) {n : Int} [Has (ZF u d) (L, n) Γ] (hn : 0 ≤ n ∧ n ≤ 2) (hL : L ≤ 1000000 := by omega) :
    PCalls tb Try.prog 97 [zv u d] Γ (fun v Δ => ∃ a b : Qw, v = .tuple #[q2v a b, .bool true] ∧ Δ = [QG a (2, rt0 n), QG b (2, rt1 n)]) := by
  have hs : small n = true := by unfold small; simp only [Bool.and_eq_true, decide_eq_true_eq]; omega
  refine PCalls.of_W tbOk Try.func97 rfl (by kernel_rfl) ?_
  refine W.more rfl (entQ0 (L' := 0)) ?_
  refine W.cl [] (by kernel_rfl) (p_zsmallT u d hs) ?_
  rintro _ _ ⟨rfl, rfl⟩
  refine W.df [] 14 (!true) (by kernel_rfl) rfl ?_
  refine W.df [14] 11 (decide (n > 2)) (by kernel_rfl) (by rw [decide_eq_false_iff_not]; omega) ?_
  by_cases h2 : n = 2
  · refine W.dt [11] 19 (n == 2) (by kernel_rfl) (by rw [h2]; rfl) ?_
    refine W.cl [19] (by kernel_rfl) (p_owhole 1 (by omega) (by omega)) ?_
    rintro _ _ ⟨n2, a2, m2, b2, rfl, rfl⟩
    exact W.r [] (.tuple #[q2v nilQ ⟨n2, a2, m2, b2⟩, .bool true]) (by kernel_rfl) ⟨_, _, rfl, rfl⟩ (entG2 (by omega) (by unfold rt0; rw [if_pos h2]) (by unfold rt1; rw [if_pos h2]; rfl))
  · refine W.df [11] 19 (n == 2) (by kernel_rfl) (by rw [beq_eq_false_iff_ne]; exact h2) ?_
    refine W.cl [19] (by kernel_rfl) (p_owhole n (by omega) (by omega)) ?_
    rintro _ _ ⟨n3, a3, m3, b3, rfl, rfl⟩
    exact W.r [] (.tuple #[q2v ⟨n3, a3, m3, b3⟩ nilQ, .bool true]) (by kernel_rfl) ⟨_, _, rfl, rfl⟩ (entG2 (by omega) (by unfold rt0; rw [if_neg h2]) (by unfold rt1; rw [if_neg h2]))
theorem p_orootF (u : Sl) (d : Bool) {n : Int} [Has (ZF u d) (L, n) Γ] (hn : 2 < n) (hL : L ≤ 1000000 := by omega) :
    PCalls tb Try.prog 97 [zv u d] Γ (IsV (.tuple #[q2v nilQ nilQ, .bool false])) := by
  refine PCalls.of_W tbOk Try.func97 rfl (by kernel_rfl) ?_
  refine W.cl [] (by kernel_rfl) (p_zsmall u d) ?_
  rintro _ _ ⟨rfl, rfl⟩
  by_cases hs : small n = true
  · refine W.df [] 14 (!(small n)) (by kernel_rfl) (by rw [hs]; rfl) ?_
    refine W.dt [14] 11 (decide ((if small n = true then n else 0) > 2)) (by kernel_rfl) (by rw [if_pos hs, decide_eq_true_iff]; omega) ?_
    exact W.r [11] (.tuple #[q2v nilQ nilQ, .bool false]) (by kernel_rfl) ⟨rfl, rfl⟩ ent0
  · refine W.dt [] 14 (!(small n)) (by kernel_rfl) (by rw [Bool.eq_false_iff.2 hs]; rfl) ?_
    exact W.r [11, 14] (.tuple #[q2v nilQ nilQ, .bool false]) (by kernel_rfl) ⟨rfl, rfl⟩ ent0
theorem p_onmul (a b c d : Qw) {x y z w : Rat} {L1 L2 L3 L4 : Nat} [Has (QG a) (L1, x) Γ] [Has (QG b) (L2, y) Γ] [Has (QG c) (L3, z) Γ] [Has (QG d) (L4, w) Γ] (hL : L1 ≤ 100000 ∧ L2 ≤ 100000 ∧ L3 ≤ 100000 ∧ L4 ≤ 100000 := by omega) :
    PCalls tb Try.prog 98 [q2v a b, q2v c d] Γ (Q2Post (L1 + L2 + L3 + L4 + 25) (nm0 x y z w) (nm1 x y z w)) := by
  refine PCalls.of_W tbOk Try.func98 rfl (by kernel_rfl) ?_
  refine W.cl [] (by kernel_rfl) (p_qmul a.n a.a a.m a.b c.n c.a c.m c.b) ?_
  rintro _ _ ⟨n1, a1, m1, b1, rfl, rfl⟩   -- (?a.n * ?c.n)
  refine W.cl [] (by kernel_rfl) (p_owhole 2 (by omega) (by omega)) ?_
  rintro _ _ ⟨n2, a2, m2, b2, rfl, rfl⟩   -- (2 : Rat)
  refine W.cl [] (by kernel_rfl) (p_qmul n2 a2 m2 b2 b.n b.a b.m b.b) ?_
  rintro _ _ ⟨n3, a3, m3, b3, rfl, rfl⟩   -- ((2 : Rat) * ?b.n)
  refine W.cl [] (by kernel_rfl) (p_qmul n3 a3 m3 b3 d.n d.a d.m d.b) ?_
  rintro _ _ ⟨n4, a4, m4, b4, rfl, rfl⟩   -- (((2 : Rat) * ?b.n) * ?d.n)
  refine W.cl [] (by kernel_rfl) (p_qadd n1 a1 m1 b1 n4 a4 m4 b4) ?_
  rintro _ _ ⟨n5, a5, m5, b5, rfl, rfl⟩   -- ((?a.n * ?c.n) + (((2 : Rat) * ?b.n) * ?d.n))
  refine W.cl [] (by kernel_rfl) (p_qmul a.n a.a a.m a.b d.n d.a d.m d.b) ?_
  rintro _ _ ⟨n6, a6, m6, b6, rfl, rfl⟩   -- (?a.n * ?d.n)
  refine W.cl [] (by kernel_rfl) (p_qmul b.n b.a b.m b.b c.n c.a c.m c.b) ?_
  rintro _ _ ⟨n7, a7, m7, b7, rfl, rfl⟩   -- (?b.n * ?c.n)
  refine W.cl [] (by kernel_rfl) (p_qadd n6 a6 m6 b6 n7 a7 m7 b7) ?_
  rintro _ _ ⟨n8, a8, m8, b8, rfl, rfl⟩   -- ((?a.n * ?d.n) + (?b.n * ?c.n))
  exact W.r [] (q2v ⟨n5, a5, m5, b5⟩ ⟨n8, a8, m8, b8⟩) (by kernel_rfl) ⟨_, _, rfl, rfl⟩ (entG2 (by omega) rfl rfl)
set_option maxHeartbeats 4000000 in
theorem p_onarrow (x : Sw) {S : Sn} [Has (SF x) (L, S) Γ] (hm : 0 ≤ S.m ∧ S.m ≤ 2) (hn : 0 ≤ S.n ∧ S.n ≤ 2) (hL : L ≤ 20000 := by omega) :
    PCalls tb Try.prog 53 [sv x] Γ (fun v Δ => ∃ a b : Qw, v = .tuple #[q2v a b, .bool true] ∧ Δ = [QG a (4 * L + 200, S.n0), QG b (4 * L + 200, S.n1)]) := by
  refine PCalls.of_W tbOk Try.func53 rfl (by kernel_rfl) ?_
  refine W.more rfl (entQ0 (L' := 0)) ?_
  refine W.sf x rfl ?_
  refine W.cl [] (by kernel_rfl) (p_xfield x) ?_
  rintro _ _ ⟨rfl, rfl⟩   -- 
  refine W.cl [] (by kernel_rfl) (p_oroot x.u x.d hm) ?_
  rintro _ _ ⟨a2, b2, rfl, rfl⟩
  refine W.cl [] (by kernel_rfl) (p_oroot x.v x.e hn) ?_
  rintro _ _ ⟨a3, b3, rfl, rfl⟩
  refine W.df [] 31 (!true) (by kernel_rfl) rfl ?_
  refine W.df [31] 34 (!true) (by kernel_rfl) rfl ?_
  refine W.cl [34] (by kernel_rfl) (p_owhole 1 (by omega) (by omega)) ?_
  rintro _ _ ⟨n4, a4, m4, b4, rfl, rfl⟩   -- (1 : Rat)
  refine W.cl [] (by kernel_rfl) (p_onmul a2 b2 a3 b3) ?_
  rintro _ _ ⟨a5, b5, rfl, rfl⟩
  refine W.unr [] 6 (by kernel_rfl) ?_
  refine W.cl [46] (by kernel_rfl) (p_xparts x) ?_
  rintro _ _ ⟨rfl, rfl⟩
  refine W.cl [] (by kernel_rfl) (p_onmul x.p nilQ ⟨n4, a4, m4, b4⟩ nilQ) ?_
  rintro _ _ ⟨a7, b7, rfl, rfl⟩
  refine W.cl [] (by kernel_rfl) (p_osum nilQ nilQ a7 b7) ?_
  rintro _ _ ⟨a8, b8, rfl, rfl⟩
  refine W.cl [46] (by kernel_rfl) (p_xparts x) ?_
  rintro _ _ ⟨rfl, rfl⟩
  refine W.cl [] (by kernel_rfl) (p_onmul x.q nilQ a2 b2) ?_
  rintro _ _ ⟨a10, b10, rfl, rfl⟩
  refine W.cl [] (by kernel_rfl) (p_osum a8 b8 a10 b10) ?_
  rintro _ _ ⟨a11, b11, rfl, rfl⟩
  refine W.cl [46] (by kernel_rfl) (p_xparts x) ?_
  rintro _ _ ⟨rfl, rfl⟩
  refine W.cl [] (by kernel_rfl) (p_onmul x.r nilQ a3 b3) ?_
  rintro _ _ ⟨a13, b13, rfl, rfl⟩
  refine W.cl [] (by kernel_rfl) (p_osum a11 b11 a13 b13) ?_
  rintro _ _ ⟨a14, b14, rfl, rfl⟩
  refine W.cl [46] (by kernel_rfl) (p_xparts x) ?_
  rintro _ _ ⟨rfl, rfl⟩
  refine W.cl [] (by kernel_rfl) (p_onmul x.s nilQ a5 b5) ?_
  rintro _ _ ⟨a16, b16, rfl, rfl⟩
  refine W.cl [] (by kernel_rfl) (p_osum a14 b14 a16 b16) ?_
  rintro _ _ ⟨a17, b17, rfl, rfl⟩
  exact W.r [46] (.tuple #[q2v a17 b17, .bool true]) (by kernel_rfl) ⟨_, _, rfl, rfl⟩ (entG2 (by omega) rfl rfl)
theorem p_onarrowF (x : Sw) {S : Sn} [Has (SF x) (L, S) Γ] (h0 : 0 ≤ S.m ∧ 0 ≤ S.n) (hmn : 2 < S.m ∨ 2 < S.n) (hL : L ≤ 20000 := by omega) :
    PCalls tb Try.prog 53 [sv x] Γ (IsV (.tuple #[q2v nilQ nilQ, .bool false])) := by
  refine PCalls.of_W tbOk Try.func53 rfl (by kernel_rfl) ?_
  refine W.sf x rfl ?_
  refine W.cl [] (by kernel_rfl) (p_xfield x) ?_
  rintro _ _ ⟨rfl, rfl⟩
  by_cases hm : 2 < S.m
  · refine W.cl [] (by kernel_rfl) (p_orootF x.u x.d hm) ?_
    rintro _ _ ⟨rfl, rfl⟩
    by_cases hn : 2 < S.n
    · refine W.cl [] (by kernel_rfl) (p_orootF x.v x.e hn) ?_
      rintro _ _ ⟨rfl, rfl⟩
      refine W.dt [] 31 (!false) (by kernel_rfl) rfl ?_
      exact W.r [34, 31] (.tuple #[q2v nilQ nilQ, .bool false]) (by kernel_rfl) ⟨rfl, rfl⟩ ent0
    · refine W.cl [] (by kernel_rfl) (p_oroot x.v x.e ⟨h0.2, by omega⟩) ?_
      rintro _ _ ⟨a3, b3, rfl, rfl⟩
      refine W.dt [] 31 (!false) (by kernel_rfl) rfl ?_
      exact W.r [34, 31] (.tuple #[q2v nilQ nilQ, .bool false]) (by kernel_rfl) ⟨rfl, rfl⟩ ent0
  · have hn : 2 < S.n := by omega
    refine W.cl [] (by kernel_rfl) (p_oroot x.u x.d ⟨h0.1, by omega⟩) ?_
    rintro _ _ ⟨a2, b2, rfl, rfl⟩
    refine W.cl [] (by kernel_rfl) (p_orootF x.v x.e hn) ?_
    rintro _ _ ⟨rfl, rfl⟩
    refine W.df [] 31 (!true) (by kernel_rfl) rfl ?_
    refine W.dt [31] 34 (!false) (by kernel_rfl) rfl ?_
    exact W.r [34] (.tuple #[q2v nilQ nilQ, .bool false]) (by kernel_rfl) ⟨rfl, rfl⟩ ent0
def FarPost (L : Nat) (X Y : Sn) (v : Value) (Δ : List Fact) : Prop := ∃ x y : Sw, v = .tuple #[plv x y, .int .i64 0] ∧ Δ = [SF x (L, X), SF y (L, Y)]
set_option maxHeartbeats 4000000 in
theorem p_ofarS (V : On) (t : Q5) (x y : Sw) {X Y : Sn} {L1 : Nat} [Has (OF t) (L1, V) Γ] [Has (SF x) (L, X) Γ] [Has (SF y) (M, Y) Γ] (ho : 0 ≤ V.o ∧ V.o ≤ 7) (em : X.m = Y.m) (en : X.n = Y.n) (hm : 0 ≤ X.m ∧ X.m ≤ 2) (hn : 0 ≤ X.n ∧ X.n ≤ 2) (hL : L ≤ 2000 ∧ M ≤ 2000 ∧ L1 ≤ 10000 := by omega) :
    PCalls tb Try.prog 20 [otv V t, plv x y] Γ (FarPost (5 * L1 + 16 * max L M + 1100) (r2 (V.u0 X.n0 X.n1 Y.n0 Y.n1) (V.u1 X.n0 X.n1 Y.n0 Y.n1)) (r2 (V.v0 X.n0 X.n1 Y.n0 Y.n1) (V.v1 X.n0 X.n1 Y.n0 Y.n1))) := by
  refine PCalls.of_W tbOk Try.func20 rfl (by kernel_rfl) ?_
  refine W.cl [] (by kernel_rfl) (p_olike x y em en) ?_
  rintro _ _ ⟨rfl, rfl⟩
  refine W.df [] 24 (!true) (by kernel_rfl) rfl ?_
  refine W.cl [24] (by kernel_rfl) (p_onarrow x hm hn) ?_
  rintro _ _ ⟨a2, b2, rfl, rfl⟩
  refine W.dt [] 32 (true) (by kernel_rfl) rfl ?_
  refine W.cl [32] (by kernel_rfl) (p_onarrow y (em ▸ hm) (en ▸ hn)) ?_
  rintro _ _ ⟨a3, b3, rfl, rfl⟩
  refine W.cl [] (by kernel_rfl) (p_olead V t a2 b2 a3 b3 ho) ?_
  rintro _ _ ⟨a4, b4, c4, d4, rfl, rfl⟩
  refine W.cl [] (by kernel_rfl) (p_otwo) ?_
  rintro _ _ ⟨u5, d5, rfl, rfl⟩   -- 
  refine W.cl [] (by kernel_rfl) (p_onumber u5 d5 ⟨none, 0, 0⟩ false a4 b4 (by omega) (by omega)) ?_
  rintro _ _ ⟨X6, rfl, rfl⟩
  refine W.cl [] (by kernel_rfl) (p_onumber u5 d5 ⟨none, 0, 0⟩ false c4 d4 (by omega) (by omega)) ?_
  rintro _ _ ⟨X7, rfl, rfl⟩
  exact W.r [] (.tuple #[plv X6 X7, .int .i64 0]) (by kernel_rfl) ⟨_, _, rfl, rfl⟩ (entPl (by omega) rfl rfl)
end
end Go.Proofs.Ytaafmafdnnjmdaa

set_option linter.unusedSimpArgs false
set_option linter.unusedVariables false
namespace Go.Proofs.Ytaafmafdnnjmdaa
open Go.RowKit Go.IntWalk

def Rn.X (U : Rn) (P Q : Sn) : Sn := ((U.A.mul P).add (U.B.mul Q)).add U.E
def Rn.Y (U : Rn) (P Q : Sn) : Sn := ((U.C.mul P).add (U.D.mul Q)).add U.F
section
variable {fin : VS → List Fact → Prop} {Γ : List Fact} {L M K : Nat}
theorem p_ofarE (V : On) (t : Q5) (x y : Sw) {X Y X' Y' : Sn} {L1 : Nat} [Has (OF t) (L1, V) Γ] [Has (SF x) (L, X) Γ] [Has (SF y) (M, Y) Γ] (ho : 0 ≤ V.o ∧ V.o ≤ 7) (em : X.m = Y.m) (en : X.n = Y.n) (hm : 0 ≤ X.m ∧ X.m ≤ 2) (hn : 0 ≤ X.n ∧ X.n ≤ 2)
    (hX : r2 (V.u0 X.n0 X.n1 Y.n0 Y.n1) (V.u1 X.n0 X.n1 Y.n0 Y.n1) = X') (hY : r2 (V.v0 X.n0 X.n1 Y.n0 Y.n1) (V.v1 X.n0 X.n1 Y.n0 Y.n1) = Y') (hL : L ≤ 2000 ∧ M ≤ 2000 ∧ L1 ≤ 10000 := by omega) :
    PCalls tb Try.prog 20 [otv V t, plv x y] Γ (FarPost (5 * L1 + 16 * max L M + 1100) X' Y') := by
  subst hX hY
  exact p_ofarS V t x y ho em en hm hn hL
end
end Go.Proofs.Ytaafmafdnnjmdaa
