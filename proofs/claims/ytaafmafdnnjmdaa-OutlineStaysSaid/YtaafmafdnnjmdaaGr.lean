
/- Points of the grid: the program's and the reference's. -/
import Derived.Test.YtaafmafdnnjmdaaOq
import Derived.Test.YtaafmafdnnjmdaaRr
set_option linter.unusedSimpArgs false
set_option linter.unusedVariables false
namespace Go.Proofs.Ytaafmafdnnjmdaa
open Go.RowKit Go.IntWalk

/-- On the grid. -/
def inG (z : Int) : Prop := -2147483648 ≤ z ∧ z ≤ 2147483647
instance (z : Int) : Decidable (inG z) := inferInstanceAs (Decidable (_ ∧ _))
theorem inG_small {z : Int} (h : inG z) : small z = true := by
  unfold small
  unfold inG at h
  simp only [Bool.and_eq_true, decide_eq_true_eq]
  omega
/-- The digits of a number of the reference. -/
def IL (s : Sl) (l : List Nat) : Fact where
  p I w := IntsAt w 3 .i64 s l ∧ SlIn I s
  up := by
    rintro I I' w w' ⟨h, hi⟩ h1 h2 _
    obtain ⟨g1, g2⟩ := h.blk hi h1 h2
    exact ⟨g1, g2⟩
section
variable {fin : VS → List Fact → Prop} {Γ : List Fact} {L M K : Nat}
theorem W.il {P : Program} {c : Cfg} (s : Sl) {x : Nat} [h : Has (RF s) (L, x) Γ] (hm : midOps c.k = false) (hk : ∀ l : List Nat, s.n = l.length → val 10000 l = x → (∀ d ∈ l, d < 10000) → (0 < s.n → ∃ b off, s.ao = some ⟨b, off, none⟩) → W tb P fin c (IL s l :: Γ)) : W tb P fin c Γ :=
  W.elim (α := List Nat) (fun l => s.n = l.length ∧ val 10000 l = x ∧ (∀ d ∈ l, d < 10000) ∧ (0 < s.n → ∃ b off, s.ao = some ⟨b, off, none⟩)) (fun l => [IL s l]) hm (fun I w _ hh => by
    obtain ⟨⟨l, hi, hd, hn, hv⟩, h2, h3⟩ := h.p hh
    exact ⟨l, ⟨hi.1, hv, hd, fun hp => by
      obtain ⟨b, off, cur, ha, _⟩ := hi.2.2.2 hp
      exact ⟨b, off, ha⟩⟩, holds1 ⟨hi, h2⟩⟩) (fun l ⟨h1, h2, h3, h4⟩ => hk l h1 h2 h3 h4)
theorem IL.cell {b off n c : Nat} {l : List Nat} {I : Blk} {w : World} (h : (IL ⟨some ⟨b, off, none⟩, n, c⟩ l).p I w) {i : Nat} (hi : i < n) : w.cell? ⟨b, off + i, none⟩ = some (.int .i64 ((dg l i : Nat) : Int)) := by
  obtain ⟨⟨h1, h2, h3, h4⟩, _⟩ := h
  obtain ⟨b', off', cur, ha, hb, hc, hr⟩ := h4 (by simp only; omega)
  simp only [Option.some.injEq, Addr.mk.injEq] at ha
  obtain ⟨rfl, rfl, _⟩ := ha
  have := hr i hi
  simp [World.cell?, hb, this]
theorem p_ogrT (x y : Sw) {X Y : Sn} [Has (SF x) (L, X) Γ] [Has (SF y) (M, Y) Γ] (hm : 0 ≤ X.m) (hn : 0 ≤ X.n) (hm' : 0 ≤ Y.m) (hn' : 0 ≤ Y.n) (ha : inG X.nr) (hb : inG Y.nr) (hL : L ≤ 280 := by omega) (hM : M ≤ 280 := by omega) :
    PCalls tb Try.prog 18 [plv x y] Γ (IsV (.tuple #[.agg #[.int .i64 X.nr, .int .i64 Y.nr], .int .i64 0])) := by
  refine PCalls.of_W tbOk Try.func18 rfl (by kernel_rfl) ?_
  refine W.cl [] (by kernel_rfl) (p_xnr x hm hn) ?_
  rintro _ _ ⟨u1, d1, rfl, rfl⟩
  refine W.cl [] (by kernel_rfl) (p_zsmallT u1 d1 (inG_small ha)) ?_
  rintro _ _ ⟨rfl, rfl⟩
  refine W.cl [] (by kernel_rfl) (p_xnr y hm' hn') ?_
  rintro _ _ ⟨u3, d3, rfl, rfl⟩
  refine W.cl [] (by kernel_rfl) (p_zsmallT u3 d3 (inG_small hb)) ?_
  rintro _ _ ⟨rfl, rfl⟩
  unfold inG at ha hb
  refine W.df [] 24 (!true) (by kernel_rfl) rfl ?_
  refine W.df [24] 28 (!true) (by kernel_rfl) rfl ?_
  refine W.df [28] 32 (decide (X.nr < -2147483648)) (by kernel_rfl) (by rw [decide_eq_false_iff_not]; omega) ?_
  refine W.df [32] 36 (decide (X.nr > 2147483647)) (by kernel_rfl) (by rw [decide_eq_false_iff_not]; omega) ?_
  refine W.df [36] 40 (decide (Y.nr < -2147483648)) (by kernel_rfl) (by rw [decide_eq_false_iff_not]; omega) ?_
  refine W.df [40] 43 (decide (Y.nr > 2147483647)) (by kernel_rfl) (by rw [decide_eq_false_iff_not]; omega) ?_
  exact W.r [43] (.tuple #[.agg #[.int .i64 X.nr, .int .i64 Y.nr], .int .i64 0]) (by kernel_rfl) ⟨rfl, rfl⟩ ent0
theorem p_ogrF (x y : Sw) {X Y : Sn} [Has (SF x) (L, X) Γ] [Has (SF y) (M, Y) Γ] (hm : 0 ≤ X.m) (hn : 0 ≤ X.n) (hm' : 0 ≤ Y.m) (hn' : 0 ≤ Y.n) (h : ¬ (inG X.nr ∧ inG Y.nr)) (hL : L ≤ 280 := by omega) (hM : M ≤ 280 := by omega) :
    PCalls tb Try.prog 18 [plv x y] Γ (IsV (.tuple #[.agg #[.int .i64 0, .int .i64 0], .int .i64 26])) := by
  refine PCalls.of_W tbOk Try.func18 rfl (by kernel_rfl) ?_
  refine W.cl [] (by kernel_rfl) (p_xnr x hm hn) ?_
  rintro _ _ ⟨u1, d1, rfl, rfl⟩
  refine W.cl [] (by kernel_rfl) (p_zsmall u1 d1) ?_
  rintro _ _ ⟨rfl, rfl⟩
  refine W.cl [] (by kernel_rfl) (p_xnr y hm' hn') ?_
  rintro _ _ ⟨u3, d3, rfl, rfl⟩
  refine W.cl [] (by kernel_rfl) (p_zsmall u3 d3) ?_
  rintro _ _ ⟨rfl, rfl⟩
  generalize X.nr = a at *
  generalize Y.nr = b at *
  cases sa : small a with
  | false =>
    refine W.dt [] 24 (!false) (by kernel_rfl) rfl ?_
    exact W.r [43, 40, 36, 32, 28, 24] (.tuple #[.agg #[.int .i64 0, .int .i64 0], .int .i64 26]) (by kernel_rfl) ⟨rfl, rfl⟩ ent0
  | true =>
  refine W.df [] 24 (!true) (by kernel_rfl) rfl ?_
  cases sb : small b with
  | false =>
    refine W.dt [24] 28 (!false) (by kernel_rfl) rfl ?_
    exact W.r [43, 40, 36, 32, 28] (.tuple #[.agg #[.int .i64 0, .int .i64 0], .int .i64 26]) (by kernel_rfl) ⟨rfl, rfl⟩ ent0
  | true =>
  refine W.df [24] 28 (!true) (by kernel_rfl) rfl ?_
  by_cases h1 : a < -2147483648
  · refine W.dt [28] 32 (decide (a < -2147483648)) (by kernel_rfl) (by rw [decide_eq_true_iff]; exact h1) ?_
    exact W.r [43, 40, 36, 32] (.tuple #[.agg #[.int .i64 0, .int .i64 0], .int .i64 26]) (by kernel_rfl) ⟨rfl, rfl⟩ ent0
  refine W.df [28] 32 (decide (a < -2147483648)) (by kernel_rfl) (by rw [decide_eq_false_iff_not]; exact h1) ?_
  by_cases h2 : a > 2147483647
  · refine W.dt [32] 36 (decide (a > 2147483647)) (by kernel_rfl) (by rw [decide_eq_true_iff]; exact h2) ?_
    exact W.r [43, 40, 36] (.tuple #[.agg #[.int .i64 0, .int .i64 0], .int .i64 26]) (by kernel_rfl) ⟨rfl, rfl⟩ ent0
  refine W.df [32] 36 (decide (a > 2147483647)) (by kernel_rfl) (by rw [decide_eq_false_iff_not]; exact h2) ?_
  by_cases h3 : b < -2147483648
  · refine W.dt [36] 40 (decide (b < -2147483648)) (by kernel_rfl) (by rw [decide_eq_true_iff]; exact h3) ?_
    exact W.r [43, 40] (.tuple #[.agg #[.int .i64 0, .int .i64 0], .int .i64 26]) (by kernel_rfl) ⟨rfl, rfl⟩ ent0
  refine W.df [36] 40 (decide (b < -2147483648)) (by kernel_rfl) (by rw [decide_eq_false_iff_not]; exact h3) ?_
  refine W.dt [40] 43 (decide (b > 2147483647)) (by kernel_rfl) (by rw [decide_eq_true_iff]; unfold inG at h; omega) ?_
  exact W.r [43] (.tuple #[.agg #[.int .i64 0, .int .i64 0], .int .i64 26]) (by kernel_rfl) ⟨rfl, rfl⟩ ent0
end
end Go.Proofs.Ytaafmafdnnjmdaa
