/- Points of the grid: the program's and the reference's. -/
import Derived.Test.YtaafmafdnnjmdaaOq
import Derived.Test.YtaafmafdnnjmdaaRr
set_option linter.unusedSimpArgs false
set_option linter.unusedVariables false
namespace Go.Proofs.Ytaafmafdnnjmdaa
open Go.RowKit Go.IntWalk

/-- On the grid. -/
def inG (z : Int) : Prop := -2147483648 ≤ z ∧ z ≤ 2147483647
instance (z : Int) : Decidable (inG z) := inferInstanceAs (Decidable (_ ∧ _))
theorem inG_small {z : Int} (h : inG z) : small z = true := by
  unfold small
  unfold inG at h
  simp only [Bool.and_eq_true, decide_eq_true_eq]
  omega
/-- The digits of a number of the reference. -/
def IL (s : Sl) (l : List Nat) : Fact where
  p I w := IntsAt w 3 .i64 s l ∧ SlIn I s
  up := by
    rintro I I' w w' ⟨h, hi⟩ h1 h2 _
    obtain ⟨g1, g2⟩ := h.blk hi h1 h2
    exact ⟨g1, g2⟩
section
variable {fin : VS → List Fact → Prop} {Γ : List Fact} {L M K : Nat}
theorem IL.cell {b off n c : Nat} {l : List Nat} {I : Blk} {w : World} (h : (IL ⟨some ⟨b, off, none⟩, n, c⟩ l).p I w) {i : Nat} (hi : i < n) : w.cell? ⟨b, off + i, none⟩ = some (.int .i64 ((dg l i : Nat) : Int)) := by
  obtain ⟨⟨h1, h2, h3, h4⟩, _⟩ := h
  obtain ⟨b', off', cur, ha, hb, hc, hr⟩ := h4 (by simp only; omega)
  simp only [Option.some.injEq, Addr.mk.injEq] at ha
  obtain ⟨rfl, rfl, _⟩ := ha
  have := hr i hi
  simp [World.cell?, hb, this]
theorem p_ogrT (x y : Sw) {X Y : Sn} [Has (SF x) (L, X) Γ] [Has (SF y) (M, Y) Γ] (hm : 0 ≤ X.m) (hn : 0 ≤ X.n) (hm' : 0 ≤ Y.m) (hn' : 0 ≤ Y.n) (ha : inG X.nr) (hb : inG Y.nr) (hL : L ≤ 280 := by omega) (hM : M ≤ 280 := by omega) :
    PCalls tb Try.prog 18 [plv x y] Γ (IsV (.tuple #[.agg #[.int .i64 X.nr, .int .i64 Y.nr], .int .i64 0])) := by
  refine PCalls.of_W tbOk Try.func18 rfl (by kernel_rfl) ?_
  refine W.cl [] (by kernel_rfl) (p_xnr x hm hn) ?_
  rintro _ _ ⟨u1, d1, rfl, rfl⟩
  refine W.cl [] (by kernel_rfl) (p_zsmallT u1 d1 (inG_small ha)) ?_
  rintro _ _ ⟨rfl, rfl⟩
  refine W.cl [] (by kernel_rfl) (p_xnr y hm' hn') ?_
  rintro _ _ ⟨u3, d3, rfl, rfl⟩
  refine W.cl [] (by kernel_rfl) (p_zsmallT u3 d3 (inG_small hb)) ?_
  rintro _ _ ⟨rfl, rfl⟩
  unfold inG at ha hb
  refine W.df [] 24 (!true) (by kernel_rfl) rfl ?_
  refine W.df [24] 28 (!true) (by kernel_rfl) rfl ?_
  refine W.df [28] 32 (decide (X.nr < -2147483648)) (by kernel_rfl) (by rw [decide_eq_false_iff_not]; omega) ?_
  refine W.df [32] 36 (decide (X.nr > 2147483647)) (by kernel_rfl) (by rw [decide_eq_false_iff_not]; omega) ?_
  refine W.df [36] 40 (decide (Y.nr < -2147483648)) (by kernel_rfl) (by rw [decide_eq_false_iff_not]; omega) ?_
  refine W.df [40] 43 (decide (Y.nr > 2147483647)) (by kernel_rfl) (by rw [decide_eq_false_iff_not]; omega) ?_
  exact W.r [43] (.tuple #[.agg #[.int .i64 X.nr, .int .i64 Y.nr], .int .i64 0]) (by kernel_rfl) ⟨rfl, rfl⟩ ent0
end
end Go.Proofs.Ytaafmafdnnjmdaa
