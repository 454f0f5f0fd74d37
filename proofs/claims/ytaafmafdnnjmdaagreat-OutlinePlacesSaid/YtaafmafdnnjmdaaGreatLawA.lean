/- The reference's turns; turns out of texts. Turns out of texts. Turns one behind the other: plain laws. Turns, by bits: how great they grow; the contracts with that. Places of whichever field, as numbers of root 2's field. The reference's turn of a point; it is the program's. -/
import Derived.Test.YtaafmafdnnjmdaaGreatOo
import Derived.Test.YtaafmafdnnjmdaaGreatRc
import Derived.Test.YtaafmafdnnjmdaaGreatRk
import Derived.Test.YtaafmafdnnjmdaaGreatProg
import Derived.Test.YtaafmafdnnjmdaaGreatRefU
import Derived.Test.YtaafmafdnnjmdaaGreatNatO
import Derived.Test.YtaafmafdnnjmdaaGreatBase
import Derived.Deep.RegionHeld3
import Derived.Deep.RegionWith
import Derived.Deep.DrawnRows
import Derived.BigRegion
set_option linter.unusedSimpArgs false
set_option linter.unusedVariables false
namespace Go.Proofs.YtaafmafdnnjmdaaGreat
open Go.RowKit Go.IntWalk

/-- The reference's turn: four numbers, and where 0 0 comes to. -/
structure R6 where
  A : Tw
  B : Tw
  C : Tw
  D : Tw
  E : Tw
  F : Tw
structure Rn where
  A : Sn
  B : Sn
  C : Sn
  D : Sn
  E : Sn
  F : Sn
theorem TF.up2 {x : Tw} {S : Sn} {L L' : Nat} {I : Blk} {w : World} (h : (TF x (L, S)).p I w) (hL : L ≤ L') : (TF x (L', S)).p I w := by
  obtain ⟨g1, g2, g3, g4, g5, g6⟩ := h
  exact ⟨YF.up2 g1 hL, YF.up2 g2 hL, PF.up2 g3 hL, PF.up2 g4 hL, PF.up2 g5 hL, PF.up2 g6 hL⟩
section
variable {fin : VS → List Fact → Prop} {Γ : List Fact} {L M K : Nat}
end
end Go.Proofs.YtaafmafdnnjmdaaGreat

set_option linter.unusedSimpArgs false
set_option linter.unusedVariables false
namespace Go.Proofs.YtaafmafdnnjmdaaGreat
open Go.RowKit Go.IntWalk

section
variable {fin : VS → List Fact → Prop} {Γ : List Fact} {L M K : Nat}
end
end Go.Proofs.YtaafmafdnnjmdaaGreat

set_option linter.unusedSimpArgs false
set_option linter.unusedVariables false
namespace Go.Proofs.YtaafmafdnnjmdaaGreat
open Go.RowKit Go.IntWalk

/-- What a turn does to a point, by four numbers. -/
structure P4 where
  x : Rat
  y : Rat
  z : Rat
  w : Rat
def On.ap (V : On) (p : P4) : P4 := ⟨V.u0 p.x p.y p.z p.w, V.u1 p.x p.y p.z p.w, V.v0 p.x p.y p.z p.w, V.v1 p.x p.y p.z p.w⟩
theorem P4.ext' {p q : P4} (h1 : p.x = q.x) (h2 : p.y = q.y) (h3 : p.z = q.z) (h4 : p.w = q.w) : p = q := by
  cases p; cases q; simp_all
end Go.Proofs.YtaafmafdnnjmdaaGreat

set_option linter.unusedSimpArgs false
set_option linter.unusedVariables false
namespace Go.Proofs.YtaafmafdnnjmdaaGreat
open Go.RowKit Go.IntWalk

def bO (b : Nat) (V : On) : Prop := bq b V.g ∧ bq b V.a ∧ bq b V.b ∧ bq b V.c ∧ bq b V.d
def bP (b : Nat) (p : P4) : Prop := bq b p.x ∧ bq b p.y ∧ bq b p.z ∧ bq b p.w
theorem bq.pos {b : Nat} {q : Rat} (h : bq b q) : 1 ≤ b := by
  have h2 := h.2
  have := q.den_pos
  cases b with
  | zero => simp at h2; omega
  | succ b => omega
theorem bO.mag {b : Nat} {V : On} (h : bO b V) : bq b V.mag := by
  unfold On.mag
  split
  · exact bq.int (z := 1) (Nat.one_lt_two_pow (by have := h.1.pos; omega)) h.1.pos
  · exact h.1
theorem bq.sg {b : Nat} {V : On} {z : Rat} (h : bq b z) : bq b (V.sg z) := by
  unfold On.sg
  split
  · exact h.neg
  · exact h
theorem unit_bits {c : Int} (h : -1 ≤ c ∧ c ≤ 1) : bq 1 (c : Rat) := bq.int (by show c.natAbs < 2; omega) (by omega)
theorem half_bits {c : Int} (h : -1 ≤ c ∧ c ≤ 1) : bq 2 (Rat.divInt c 2) := bq.of (by decide) rfl (by show c.natAbs < 4; omega) (by decide)
theorem bq.tm1 {p : Nat} {x y : Rat} {c d : Int} (hx : bq p x) (hy : bq p y) (hc : -1 ≤ c ∧ c ≤ 1) (hd : -1 ≤ d ∧ d ≤ 1) : bq (2 * p + 3) (tm1 x y c d) :=
  ((hx.mul (unit_bits hc)).add (hy.mul (unit_bits hd))).mono (by omega)
theorem bq.tm2 {p : Nat} {x y : Rat} {c d : Int} (hx : bq p x) (hy : bq p y) (hc : -1 ≤ c ∧ c ≤ 1) (hd : -1 ≤ d ∧ d ≤ 1) : bq (2 * p + 4) (tm2 x y c d) :=
  ((hy.mul (unit_bits hc)).add (hx.mul (half_bits hd))).mono (by omega)
theorem bO.ap {b p : Nat} {V : On} {q : P4} (h : bO b V) (g : bP p q) : bP (4 * p + 5 * b + 10) (V.ap q) := by
  have hm := h.mag
  obtain ⟨h1, h2, h3, h4, h5⟩ := h
  obtain ⟨g1, g2, g3, g4⟩ := g
  have c1 := pc_b V.o
  have c2 := ps_b V.o
  have c3 := pcr_b V.o
  have c4 := psr_b V.o
  have x := g1.mul hm
  have y := g2.mul hm
  have z := (g3.sg (V := V)).mul hm
  have w := (g4.sg (V := V)).mul hm
  refine ⟨?_, ?_, ?_, ?_⟩
  · exact (((bq.tm1 x y c1 c3).add (bq.tm1 z w c2 c4).neg).add h2).mono (by omega)
  · exact (((bq.tm2 x y c1 c3).add (bq.tm2 z w c2 c4).neg).add h3).mono (by omega)
  · exact (((bq.tm1 x y c2 c4).add (bq.tm1 z w c1 c3)).add h4).mono (by omega)
  · exact (((bq.tm2 x y c2 c4).add (bq.tm2 z w c1 c3)).add h5).mono (by omega)
theorem bO.then {b c : Nat} {V U : On} (h : bO b V) (g : bO c U) : bO (4 * b + 5 * c + 10) (V.then U) := by
  have k := g.ap (q := ⟨V.a, V.b, V.c, V.d⟩) ⟨h.2.1, h.2.2.1, h.2.2.2.1, h.2.2.2.2⟩
  exact ⟨(h.mag.mul g.mag).mono (by omega), k.1, k.2.1, k.2.2.1, k.2.2.2⟩
theorem bS.r2 {b : Nat} {x y : Rat} (hx : bq b x) (hy : bq b y) (hb : 2 ≤ b) : bS b (r2 x y) :=
  ⟨Nat.lt_of_lt_of_le (by decide : 2 < 2 ^ 2) (pow_mono2 hb), Nat.two_pow_pos b, hx, hy, bq.zero b (by omega), bq.zero b (by omega)⟩
theorem int_bits {z : Int} (h : -9223372036854775808 ≤ z ∧ z < 9223372036854775808) : bq 64 (z : Rat) := bq.int (by
  have : (2 : Nat) ^ 64 = 18446744073709551616 := by decide
  omega) (by omega)
def On.X (V : On) (x y : Rat) : Sn := r2 (V.u0 x 0 y 0) (V.u1 x 0 y 0)
def On.Y (V : On) (x y : Rat) : Sn := r2 (V.v0 x 0 y 0) (V.v1 x 0 y 0)

section
variable {fin : VS → List Fact → Prop} {Γ : List Fact} {L M K : Nat}
theorem bO.X {b : Nat} {V : On} (h : bO b V) {x y : Int} (hx : -9223372036854775808 ≤ x ∧ x < 9223372036854775808) (hy : -9223372036854775808 ≤ y ∧ y < 9223372036854775808) : bS (5 * b + 266) (V.X x y) ∧ bS (5 * b + 266) (V.Y x y) := by
  have k := h.ap (q := ⟨x, 0, y, 0⟩) ⟨int_bits hx, bq.zero 64 (by omega), int_bits hy, bq.zero 64 (by omega)⟩
  exact ⟨bS.r2 (k.1.mono (by omega)) (k.2.1.mono (by omega)) (by omega), bS.r2 (k.2.2.1.mono (by omega)) (k.2.2.2.mono (by omega)) (by omega)⟩
end
end Go.Proofs.YtaafmafdnnjmdaaGreat

set_option linter.unusedSimpArgs false
set_option linter.unusedVariables false
namespace Go.Proofs.YtaafmafdnnjmdaaGreat
open Go.RowKit Go.IntWalk

def rt0 (n : Int) : Rat := if n = 2 then 0 else (n : Rat)
def rt1 (n : Int) : Rat := if n = 2 then 1 else 0
def nm0 (a b c d : Rat) : Rat := a * c + (2 : Int) * b * d
def nm1 (a b c d : Rat) : Rat := a * d + b * c
/-- A number whose radicands are 0, 1, 2, by parts of 1 and root 2. -/
def Sn.n0 (S : Sn) : Rat := 0 + nm0 S.p 0 (1 : Int) 0 + nm0 S.q 0 (rt0 S.m) (rt1 S.m) + nm0 S.r 0 (rt0 S.n) (rt1 S.n) + nm0 S.s 0 (nm0 (rt0 S.m) (rt1 S.m) (rt0 S.n) (rt1 S.n)) (nm1 (rt0 S.m) (rt1 S.m) (rt0 S.n) (rt1 S.n))
def Sn.n1 (S : Sn) : Rat := 0 + nm1 S.p 0 (1 : Int) 0 + nm1 S.q 0 (rt0 S.m) (rt1 S.m) + nm1 S.r 0 (rt0 S.n) (rt1 S.n) + nm1 S.s 0 (nm0 (rt0 S.m) (rt1 S.m) (rt0 S.n) (rt1 S.n)) (nm1 (rt0 S.m) (rt1 S.m) (rt0 S.n) (rt1 S.n))
section
variable {fin : VS → List Fact → Prop} {Γ : List Fact} {L M K : Nat}
end
end Go.Proofs.YtaafmafdnnjmdaaGreat

set_option linter.unusedSimpArgs false
set_option linter.unusedVariables false
namespace Go.Proofs.YtaafmafdnnjmdaaGreat
open Go.RowKit Go.IntWalk

def Rn.X (U : Rn) (P Q : Sn) : Sn := ((U.A.mul P).add (U.B.mul Q)).add U.E
def Rn.Y (U : Rn) (P Q : Sn) : Sn := ((U.C.mul P).add (U.D.mul Q)).add U.F
section
variable {fin : VS → List Fact → Prop} {Γ : List Fact} {L M K : Nat}
end
end Go.Proofs.YtaafmafdnnjmdaaGreat


/- The law's helpers: few, same. -/
namespace Go.Proofs.YtaafmafdnnjmdaaGreat
open Go.RowKit

end Go.Proofs.YtaafmafdnnjmdaaGreat
