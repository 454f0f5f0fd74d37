
/- Points of the grid: the program's and the reference's. -/
import Derived.Test.YtabpaiboodllbaaGreatOq
import Derived.Test.YtabpaiboodllbaaGreatRr
set_option linter.unusedSimpArgs false
set_option linter.unusedVariables false
namespace Go.Proofs.YtabpaiboodllbaaGreat
open Go.RowKit Go.IntWalk

/-- On the grid. -/
def inG (z : Int) : Prop := -2147483648 ≤ z ∧ z ≤ 2147483647
instance (z : Int) : Decidable (inG z) := inferInstanceAs (Decidable (_ ∧ _))
theorem inG_small {z : Int} (h : inG z) : small z = true := by
  unfold small
  unfold inG at h
  simp only [Bool.and_eq_true, decide_eq_true_eq]
  omega
/-- The digits of a number of the reference. -/
def IL (s : Sl) (l : List Nat) : Fact where
  p I w := IntsAt w 3 .i64 s l ∧ SlIn I s
  up := by
    rintro I I' w w' ⟨h, hi⟩ h1 h2 _
    obtain ⟨g1, g2⟩ := h.blk hi h1 h2
    exact ⟨g1, g2⟩
section
variable {fin : VS → List Fact → Prop} {Γ : List Fact} {L M K : Nat}
theorem W.il {P : Program} {c : Cfg} (s : Sl) {x : Nat} [h : Has (RF s) (L, x) Γ] (hm : midOps c.k = false) (hk : ∀ l : List Nat, s.n = l.length → val 10000 l = x → (∀ d ∈ l, d < 10000) → (0 < s.n → ∃ b off, s.ao = some ⟨b, off, none⟩) → W tb P fin c (IL s l :: Γ)) : W tb P fin c Γ :=
  W.elim (α := List Nat) (fun l => s.n = l.length ∧ val 10000 l = x ∧ (∀ d ∈ l, d < 10000) ∧ (0 < s.n → ∃ b off, s.ao = some ⟨b, off, none⟩)) (fun l => [IL s l]) hm (fun I w _ hh => by
    obtain ⟨⟨l, hi, hd, hn, hv⟩, h2, h3⟩ := h.p hh
    exact ⟨l, ⟨hi.1, hv, hd, fun hp => by
      obtain ⟨b, off, cur, ha, _⟩ := hi.2.2.2 hp
      exact ⟨b, off, ha⟩⟩, holds1 ⟨hi, h2⟩⟩) (fun l ⟨h1, h2, h3, h4⟩ => hk l h1 h2 h3 h4)
theorem IL.cell {b off n c : Nat} {l : List Nat} {I : Blk} {w : World} (h : (IL ⟨some ⟨b, off, none⟩, n, c⟩ l).p I w) {i : Nat} (hi : i < n) : w.cell? ⟨b, off + i, none⟩ = some (.int .i64 ((dg l i : Nat) : Int)) := by
  obtain ⟨⟨h1, h2, h3, h4⟩, _⟩ := h
  obtain ⟨b', off', cur, ha, hb, hc, hr⟩ := h4 (by simp only; omega)
  simp only [Option.some.injEq, Addr.mk.injEq] at ha
  obtain ⟨rfl, rfl, _⟩ := ha
  have := hr i hi
  simp [World.cell?, hb, this]
set_option maxHeartbeats 4000000 in
theorem r_int8T (S : Int) (s : Sl) {z : Int} [Has (YF S s) (L, z) Γ] (hz : inG z) (hL : L ≤ 1000000 := by omega) :
    PCalls tb Tryz.prog 95 [yv S s] Γ (IsV (.tuple #[.int .i64 z, .bool true])) := by
  unfold inG at hz
  refine PCalls.of_W tbOk Tryz.func95 rfl (by kernel_rfl) ?_
  refine W.yr S s rfl ?_
  intro hS hs0
  refine W.il s rfl (fun l hl hv hd hao => ?_)
  refine W.cl [] (by kernel_rfl) (p_yof (-2147483648) (by omega) (by omega)) ?_
  rintro _ _ ⟨S1, t1, rfl, rfl⟩
  refine W.cl [] (by kernel_rfl) (p_ycmp S s S1 t1) ?_
  rintro _ _ ⟨rfl, rfl⟩
  refine W.df [] 10 (decide (cmpZ z (-2147483648) < 0)) (by kernel_rfl) (by rw [decide_eq_false_iff_not]; unfold cmpZ; split <;> (try split) <;> omega) ?_
  refine W.cl [10] (by kernel_rfl) (p_yof 2147483647 (by omega) (by omega)) ?_
  rintro _ _ ⟨S3, t3, rfl, rfl⟩
  refine W.cl [10] (by kernel_rfl) (p_ycmp S s S3 t3) ?_
  rintro _ _ ⟨rfl, rfl⟩
  refine W.df [10] 15 (decide (cmpZ z 2147483647 > 0)) (by kernel_rfl) (by rw [decide_eq_false_iff_not]; unfold cmpZ; split <;> (try split) <;> omega) ?_
  have hlen : l.length ≤ 1000000 ∨ True := .inr trivial
  have hvk : ∀ k, val 10000 (l.drop k) ≤ 2147483648 := fun k => by
    rw [val_drop 10000 (by decide) l k hd, hv]
    exact Nat.le_trans (Nat.div_le_self _ _) (by omega)
  refine W.know (s.n ≤ L) (by kernel_rfl) (fun I w _ hh => (Has.p (k := YF S s) (a := (L, z)) inferInstance hh).1.2.2) (fun hsn => ?_)
  refine W.lp [15] [4, 5] (fun a : Nat × Int × Int => [(4, .int .i64 a.2.1), (5, .int .i64 a.2.2)]) (fun _ => []) (fun _ => [IL s l]) (fun a => a.1 ≤ s.n ∧ a.2.1 = (val 10000 (l.drop a.1) : Nat) ∧ a.2.2 = (a.1 : Int) - 1) (fun a => a.1) (s.n, 0, IntKind.i64.wrap ((s.n : Int) - 1)) (by kernel_rfl) (by kernel_rfl) ⟨Nat.le_refl _, by rw [hl, List.drop_length]; rfl, i64_in _ (by omega)⟩ (fun I w hd hh => holds1 (Has.p (k := IL s) (a := l) inferInstance hh)) ?_
  rintro ⟨k, v, i⟩ R ⟨hk, hvv, hi⟩ close
  simp only at hk hvv hi
  by_cases hk0 : k = 0
  · refine W.df [] 22 (decide (i ≥ 0)) (by kernel_rfl) (by rw [decide_eq_false_iff_not]; omega) ?_
    refine W.r [22] (.tuple #[.int .i64 (IntKind.i64.wrap (v * S)), .bool true]) (by kernel_rfl) ⟨?_, rfl⟩ ent0
    subst hk0
    rw [List.drop_zero, hv] at hvv
    have e : v * S = z := by
      rw [hvv, hS]
      rw [Int.mul_comm]
      exact Int.sign_mul_natAbs z
    rw [e, i64_in _ (by omega)]
  · obtain ⟨b, off, hb⟩ := hao (by omega)
    obtain ⟨ao, n, c⟩ := s
    simp only at hb hk hl hsn
    subst hb
    have hstep := val_drop_step (B := 10000) (l := l) (k := k - 1) (by omega)
    rw [show k - 1 + 1 = k by omega] at hstep
    have hb1 := hvk (k - 1)
    have hb2 := hvk k
    refine W.dt [] 22 (decide (i ≥ 0)) (by kernel_rfl) (by rw [decide_eq_true_iff]; omega) ?_
    refine W.ia [22] 1 b off n c .i64 (k - 1) i (by omega) tbOk (by kernel_rfl) (by omega) ?_
    refine W.ld [] 1 b (off + (k - 1) * 1) (.int .i64 ((dg l (k - 1) : Nat) : Int)) tbOk (by kernel_rfl) (fun I w _ hh => by
      rw [Nat.mul_one]
      exact IL.cell (Has.p (k := IL ⟨some ⟨b, off, none⟩, n, c⟩) (a := l) inferInstance hh) (by omega)) ?_
    refine close [] _ _ (k - 1, IntKind.i64.wrap (IntKind.i64.wrap (10000 * v) + ((dg l (k - 1) : Nat) : Int)), IntKind.i64.wrap (i - 1)) (by kernel_rfl) (by kernel_rfl) ⟨by simp only; omega, ?_, ?_⟩ (by simp only; omega) (fun I w hd hh => holds1 (Has.p (k := IL ⟨some ⟨b, off, none⟩, n, c⟩) (a := l) inferInstance hh))
    · simp only
      rw [i64_in (10000 * v) (by omega), i64_in _ (by omega)]
      omega
    · simp only
      rw [i64_in _ (by omega)]
      omega
theorem r_int8F (S : Int) (s : Sl) {z : Int} [Has (YF S s) (L, z) Γ] (hz : ¬ inG z) (hL : L ≤ 1000000 := by omega) :
    PCalls tb Tryz.prog 95 [yv S s] Γ (IsV (.tuple #[.int .i64 0, .bool false])) := by
  unfold inG at hz
  refine PCalls.of_W tbOk Tryz.func95 rfl (by kernel_rfl) ?_
  refine W.cl [] (by kernel_rfl) (p_yof (-2147483648) (by omega) (by omega)) ?_
  rintro _ _ ⟨S1, t1, rfl, rfl⟩
  refine W.cl [] (by kernel_rfl) (p_ycmp S s S1 t1) ?_
  rintro _ _ ⟨rfl, rfl⟩
  by_cases h1 : z < -2147483648
  · refine W.dt [] 10 (decide (cmpZ z (-2147483648) < 0)) (by kernel_rfl) (by rw [decide_eq_true_iff]; unfold cmpZ; rw [if_pos h1]; decide) ?_
    exact W.r [15, 10] (.tuple #[.int .i64 0, .bool false]) (by kernel_rfl) ⟨rfl, rfl⟩ ent0
  refine W.df [] 10 (decide (cmpZ z (-2147483648) < 0)) (by kernel_rfl) (by rw [decide_eq_false_iff_not]; unfold cmpZ; split <;> (try split) <;> omega) ?_
  refine W.cl [10] (by kernel_rfl) (p_yof 2147483647 (by omega) (by omega)) ?_
  rintro _ _ ⟨S3, t3, rfl, rfl⟩
  refine W.cl [10] (by kernel_rfl) (p_ycmp S s S3 t3) ?_
  rintro _ _ ⟨rfl, rfl⟩
  refine W.dt [10] 15 (decide (cmpZ z 2147483647 > 0)) (by kernel_rfl) (by rw [decide_eq_true_iff]; unfold cmpZ; rw [if_neg (by omega), if_neg (by omega)]; decide) ?_
  exact W.r [15] (.tuple #[.int .i64 0, .bool false]) (by kernel_rfl) ⟨rfl, rfl⟩ ent0
theorem p_ogrT (x y : Sw) {X Y : Sn} [Has (SF x) (L, X) Γ] [Has (SF y) (M, Y) Γ] (hm : 0 ≤ X.m) (hn : 0 ≤ X.n) (hm' : 0 ≤ Y.m) (hn' : 0 ≤ Y.n) (ha : inG X.nr) (hb : inG Y.nr) (hL : L ≤ 280 := by omega) (hM : M ≤ 280 := by omega) :
    PCalls tb Tryz.prog 27 [plv x y] Γ (IsV (.tuple #[.agg #[.int .i64 X.nr, .int .i64 Y.nr], .int .i64 0])) := by
  refine PCalls.of_W tbOk Tryz.func27 rfl (by kernel_rfl) ?_
  refine W.cl [] (by kernel_rfl) (p_xnr x hm hn) ?_
  rintro _ _ ⟨u1, d1, rfl, rfl⟩
  refine W.cl [] (by kernel_rfl) (p_zsmallT u1 d1 (inG_small ha)) ?_
  rintro _ _ ⟨rfl, rfl⟩
  refine W.cl [] (by kernel_rfl) (p_xnr y hm' hn') ?_
  rintro _ _ ⟨u3, d3, rfl, rfl⟩
  refine W.cl [] (by kernel_rfl) (p_zsmallT u3 d3 (inG_small hb)) ?_
  rintro _ _ ⟨rfl, rfl⟩
  unfold inG at ha hb
  refine W.df [] 24 (!true) (by kernel_rfl) rfl ?_
  refine W.df [24] 28 (!true) (by kernel_rfl) rfl ?_
  refine W.df [28] 32 (decide (X.nr < -2147483648)) (by kernel_rfl) (by rw [decide_eq_false_iff_not]; omega) ?_
  refine W.df [32] 36 (decide (X.nr > 2147483647)) (by kernel_rfl) (by rw [decide_eq_false_iff_not]; omega) ?_
  refine W.df [36] 40 (decide (Y.nr < -2147483648)) (by kernel_rfl) (by rw [decide_eq_false_iff_not]; omega) ?_
  refine W.df [40] 43 (decide (Y.nr > 2147483647)) (by kernel_rfl) (by rw [decide_eq_false_iff_not]; omega) ?_
  exact W.r [43] (.tuple #[.agg #[.int .i64 X.nr, .int .i64 Y.nr], .int .i64 0]) (by kernel_rfl) ⟨rfl, rfl⟩ ent0
theorem p_ogrF (x y : Sw) {X Y : Sn} [Has (SF x) (L, X) Γ] [Has (SF y) (M, Y) Γ] (hm : 0 ≤ X.m) (hn : 0 ≤ X.n) (hm' : 0 ≤ Y.m) (hn' : 0 ≤ Y.n) (h : ¬ (inG X.nr ∧ inG Y.nr)) (hL : L ≤ 280 := by omega) (hM : M ≤ 280 := by omega) :
    PCalls tb Tryz.prog 27 [plv x y] Γ (IsV (.tuple #[.agg #[.int .i64 0, .int .i64 0], .int .i64 26])) := by
  refine PCalls.of_W tbOk Tryz.func27 rfl (by kernel_rfl) ?_
  refine W.cl [] (by kernel_rfl) (p_xnr x hm hn) ?_
  rintro _ _ ⟨u1, d1, rfl, rfl⟩
  refine W.cl [] (by kernel_rfl) (p_zsmall u1 d1) ?_
  rintro _ _ ⟨rfl, rfl⟩
  refine W.cl [] (by kernel_rfl) (p_xnr y hm' hn') ?_
  rintro _ _ ⟨u3, d3, rfl, rfl⟩
  refine W.cl [] (by kernel_rfl) (p_zsmall u3 d3) ?_
  rintro _ _ ⟨rfl, rfl⟩
  generalize X.nr = a at *
  generalize Y.nr = b at *
  cases sa : small a with
  | false =>
    refine W.dt [] 24 (!false) (by kernel_rfl) rfl ?_
    exact W.r [43, 40, 36, 32, 28, 24] (.tuple #[.agg #[.int .i64 0, .int .i64 0], .int .i64 26]) (by kernel_rfl) ⟨rfl, rfl⟩ ent0
  | true =>
  refine W.df [] 24 (!true) (by kernel_rfl) rfl ?_
  cases sb : small b with
  | false =>
    refine W.dt [24] 28 (!false) (by kernel_rfl) rfl ?_
    exact W.r [43, 40, 36, 32, 28] (.tuple #[.agg #[.int .i64 0, .int .i64 0], .int .i64 26]) (by kernel_rfl) ⟨rfl, rfl⟩ ent0
  | true =>
  refine W.df [24] 28 (!true) (by kernel_rfl) rfl ?_
  by_cases h1 : a < -2147483648
  · refine W.dt [28] 32 (decide (a < -2147483648)) (by kernel_rfl) (by rw [decide_eq_true_iff]; exact h1) ?_
    exact W.r [43, 40, 36, 32] (.tuple #[.agg #[.int .i64 0, .int .i64 0], .int .i64 26]) (by kernel_rfl) ⟨rfl, rfl⟩ ent0
  refine W.df [28] 32 (decide (a < -2147483648)) (by kernel_rfl) (by rw [decide_eq_false_iff_not]; exact h1) ?_
  by_cases h2 : a > 2147483647
  · refine W.dt [32] 36 (decide (a > 2147483647)) (by kernel_rfl) (by rw [decide_eq_true_iff]; exact h2) ?_
    exact W.r [43, 40, 36] (.tuple #[.agg #[.int .i64 0, .int .i64 0], .int .i64 26]) (by kernel_rfl) ⟨rfl, rfl⟩ ent0
  refine W.df [32] 36 (decide (a > 2147483647)) (by kernel_rfl) (by rw [decide_eq_false_iff_not]; exact h2) ?_
  by_cases h3 : b < -2147483648
  · refine W.dt [36] 40 (decide (b < -2147483648)) (by kernel_rfl) (by rw [decide_eq_true_iff]; exact h3) ?_
    exact W.r [43, 40] (.tuple #[.agg #[.int .i64 0, .int .i64 0], .int .i64 26]) (by kernel_rfl) ⟨rfl, rfl⟩ ent0
  refine W.df [36] 40 (decide (b < -2147483648)) (by kernel_rfl) (by rw [decide_eq_false_iff_not]; exact h3) ?_
  refine W.dt [40] 43 (decide (b > 2147483647)) (by kernel_rfl) (by rw [decide_eq_true_iff]; unfold inG at h; omega) ?_
  exact W.r [43] (.tuple #[.agg #[.int .i64 0, .int .i64 0], .int .i64 26]) (by kernel_rfl) ⟨rfl, rfl⟩ ent0
theorem r_nearQ (x : Tw) {X : Sn} {p q : Rat} {A D : Nat} [Has (TF x) (L, X) Γ] (hX : X = r2F p q) (hp : md A D p) (hq : md A D q) (hE : 4 * D + 2 * A + 60 < 8192) (hA : A ≤ 1800) (hL : L ≤ 30000 := by omega) :
    PCalls tb Tryz.prog 18 [tv x] Γ (YPost ((A + 6) / 13 + 8) X.nr) := by
  subst hX
  exact r_nearR x hp hq hE hA hL
set_option maxHeartbeats 4000000 in
theorem r_grid8T (x y : Tw) {X Y : Sn} {p q r s : Rat} {A D : Nat} [Has (TF x) (L, X) Γ] [Has (TF y) (M, Y) Γ] (hX : X = r2F p q) (hY : Y = r2F r s) (hp : md A D p) (hq : md A D q) (hr : md A D r) (hs : md A D s) (hE : 4 * D + 2 * A + 60 < 8192) (hA : A ≤ 1800)
    (ha : inG X.nr) (hb : inG Y.nr) (hL : L ≤ 30000 := by omega) (hM : M ≤ 30000 := by omega) :
    PCalls tb Tryz.prog 29 [spv x y] Γ (IsV (.tuple #[.int .i64 X.nr, .int .i64 Y.nr, .bool true])) := by
  refine PCalls.of_W tbOk Tryz.func29 rfl (by kernel_rfl) ?_
  refine W.cl [] (by kernel_rfl) (r_nearQ x hX hp hq hE hA) ?_
  rintro _ _ ⟨S1, t1, rfl, rfl⟩
  refine W.cl [] (by kernel_rfl) (r_int8T S1 t1 ha) ?_
  rintro _ _ ⟨rfl, rfl⟩
  refine W.cl [] (by kernel_rfl) (r_nearQ y hY hr hs hE hA) ?_
  rintro _ _ ⟨S3, t3, rfl, rfl⟩
  refine W.cl [] (by kernel_rfl) (r_int8T S3 t3 hb) ?_
  rintro _ _ ⟨rfl, rfl⟩
  refine W.dt [] 26 true (by kernel_rfl) rfl ?_
  exact W.r [26] (.tuple #[.int .i64 X.nr, .int .i64 Y.nr, .bool true]) (by kernel_rfl) ⟨rfl, rfl⟩ ent0
set_option maxHeartbeats 4000000 in
theorem r_grid8F (x y : Tw) {X Y : Sn} {p q r s : Rat} {A D : Nat} [Has (TF x) (L, X) Γ] [Has (TF y) (M, Y) Γ] (hX : X = r2F p q) (hY : Y = r2F r s) (hp : md A D p) (hq : md A D q) (hr : md A D r) (hs : md A D s) (hE : 4 * D + 2 * A + 60 < 8192) (hA : A ≤ 1800)
    (h : ¬ (inG X.nr ∧ inG Y.nr)) (hL : L ≤ 30000 := by omega) (hM : M ≤ 30000 := by omega) :
    PCalls tb Tryz.prog 29 [spv x y] Γ (fun v Δ => ∃ a b : Int, v = .tuple #[.int .i64 a, .int .i64 b, .bool false] ∧ Δ = []) := by
  refine PCalls.of_W tbOk Tryz.func29 rfl (by kernel_rfl) ?_
  refine W.cl [] (by kernel_rfl) (r_nearQ x hX hp hq hE hA) ?_
  rintro _ _ ⟨S1, t1, rfl, rfl⟩
  by_cases ha : inG X.nr
  · have hb : ¬ inG Y.nr := fun hb => h ⟨ha, hb⟩
    refine W.cl [] (by kernel_rfl) (r_int8T S1 t1 ha) ?_
    rintro _ _ ⟨rfl, rfl⟩
    refine W.cl [] (by kernel_rfl) (r_nearQ y hY hr hs hE hA) ?_
    rintro _ _ ⟨S3, t3, rfl, rfl⟩
    refine W.cl [] (by kernel_rfl) (r_int8F S3 t3 hb) ?_
    rintro _ _ ⟨rfl, rfl⟩
    refine W.dt [] 26 true (by kernel_rfl) rfl ?_
    exact W.r [26] (.tuple #[.int .i64 X.nr, .int .i64 0, .bool false]) (by kernel_rfl) ⟨_, _, rfl, rfl⟩ ent0
  · refine W.cl [] (by kernel_rfl) (r_int8F S1 t1 ha) ?_
    rintro _ _ ⟨rfl, rfl⟩
    refine W.cl [] (by kernel_rfl) (r_nearQ y hY hr hs hE hA) ?_
    rintro _ _ ⟨S3, t3, rfl, rfl⟩
    by_cases hb : inG Y.nr
    · refine W.cl [] (by kernel_rfl) (r_int8T S3 t3 hb) ?_
      rintro _ _ ⟨rfl, rfl⟩
      refine W.df [] 26 false (by kernel_rfl) rfl ?_
      exact W.r [26] (.tuple #[.int .i64 0, .int .i64 Y.nr, .bool false]) (by kernel_rfl) ⟨_, _, rfl, rfl⟩ ent0
    · refine W.cl [] (by kernel_rfl) (r_int8F S3 t3 hb) ?_
      rintro _ _ ⟨rfl, rfl⟩
      refine W.df [] 26 false (by kernel_rfl) rfl ?_
      exact W.r [26] (.tuple #[.int .i64 0, .int .i64 0, .bool false]) (by kernel_rfl) ⟨_, _, rfl, rfl⟩ ent0
end
end Go.Proofs.YtabpaiboodllbaaGreat
