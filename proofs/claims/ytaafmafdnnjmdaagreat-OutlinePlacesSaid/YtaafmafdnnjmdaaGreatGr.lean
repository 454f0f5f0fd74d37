/- Points of the grid: the program's and the reference's. -/
import Derived.Test.YtaafmafdnnjmdaaGreatLawA
import Derived.Test.YtaafmafdnnjmdaaGreatRr
set_option linter.unusedSimpArgs false
set_option linter.unusedVariables false
namespace Go.Proofs.YtaafmafdnnjmdaaGreat
open Go.RowKit Go.IntWalk

/-- On the grid. -/
def inG (z : Int) : Prop := -2147483648 ≤ z ∧ z ≤ 2147483647
instance (z : Int) : Decidable (inG z) := inferInstanceAs (Decidable (_ ∧ _))
/-- The digits of a number of the reference. -/
def IL (s : Sl) (l : List Nat) : Fact where
  p I w := IntsAt w 3 .i64 s l ∧ SlIn I s
  up := by
    rintro I I' w w' ⟨h, hi⟩ h1 h2 _
    obtain ⟨g1, g2⟩ := h.blk hi h1 h2
    exact ⟨g1, g2⟩
section
variable {fin : VS → List Fact → Prop} {Γ : List Fact} {L M K : Nat}
theorem IL.cell {b off n c : Nat} {l : List Nat} {I : Blk} {w : World} (h : (IL ⟨some ⟨b, off, none⟩, n, c⟩ l).p I w) {i : Nat} (hi : i < n) : w.cell? ⟨b, off + i, none⟩ = some (.int .i64 ((dg l i : Nat) : Int)) := by
  obtain ⟨⟨h1, h2, h3, h4⟩, _⟩ := h
  obtain ⟨b', off', cur, ha, hb, hc, hr⟩ := h4 (by simp only; omega)
  simp only [Option.some.injEq, Addr.mk.injEq] at ha
  obtain ⟨rfl, rfl, _⟩ := ha
  have := hr i hi
  simp [World.cell?, hb, this]
end
end Go.Proofs.YtaafmafdnnjmdaaGreat
