
/- The reference's sign: it is the sign, where its search ends. -/
import Derived.Test.YtabpaiboodllbaaGreatRs
set_option linter.unusedSimpArgs false
set_option linter.unusedVariables false
namespace Go.Proofs.YtabpaiboodllbaaGreat
open Go.RowKit Go.IntWalk

theorem sign_nz {q : Rat} : (q.num.sign == 0) = true ↔ q = 0 := by rw [beq_iff_eq, sign_eq0]
theorem sgn_lo {q : Rat} : q.num.sign > 0 ↔ 0 < q := by
  constructor
  · intro h
    by_cases h0 : q = 0
    · rw [sign_eq0.2 h0] at h; simp at h
    · by_cases h1 : q < 0
      · have := sign_lt0.2 h1; omega
      · grind
  · intro h
    exact sign_pos_q h
where
  sign_pos_q {q : Rat} (h : 0 < q) : q.num.sign > 0 := by
    have h1 : ¬ q.num.sign < 0 := fun e => by rw [sign_lt0] at e; grind
    have h2 : ¬ q.num.sign = 0 := fun e => by rw [sign_eq0] at e; grind
    omega
section
variable {fin : VS → List Fact → Prop} {Γ : List Fact} {L M K : Nat}
set_option maxHeartbeats 8000000 in
theorem r_sgn (x : Tw) {S : Sn} [Has (TF x) (L, S) Γ] (hm : 0 ≤ S.m) (hn : 0 ≤ S.n) (hsep : ¬ S.fold.nil → 0 < S.fold.lo 8192 ∨ S.fold.hi 8192 < 0) (hL : L ≤ 4000 := by omega) :
    PCalls tb Tryz.prog 22 [tv x] Γ (IsV (.int .i64 S.sg)) := by
  have fm := fold_mn S
  have fs := fold_sg S hm hn
  refine PCalls.of_W tbOk Tryz.func22 rfl (by kernel_rfl) ?_
  refine W.cl [] (by kernel_rfl) (r_fold x hm hn) ?_
  rintro _ _ ⟨Y1, rfl, rfl⟩
  obtain ⟨F, hF⟩ : ∃ F, F = S.fold := ⟨_, rfl⟩
  rw [← hF] at fm fs hsep ⊢
  have fm0 : 0 ≤ F.m := by omega
  have fn0 : 0 ≤ F.n := by omega
  refine W.code 999 ?_
  refine W.tf Y1 (by kernel_rfl) ?_
  refine W.pn Y1.p.n Y1.p.a Y1.p.m Y1.p.b (by kernel_rfl) (fun hp => ?_)
  refine W.pn Y1.q.n Y1.q.a Y1.q.m Y1.q.b (by kernel_rfl) (fun hq => ?_)
  refine W.pn Y1.r.n Y1.r.a Y1.r.m Y1.r.b (by kernel_rfl) (fun hr => ?_)
  refine W.pn Y1.s.n Y1.s.a Y1.s.m Y1.s.b (by kernel_rfl) (fun hs => ?_)
  refine W.lp [] [4, 5] (fun a : Nat × Bool => [(4, .bool a.2), (5, .int .i64 (a.1 : Int))]) (fun _ => []) (fun _ => [TF Y1 (20 * L + 400, F)]) (fun a => a.1 ≤ 4 ∧ (a.2 = true ↔ ((0 < a.1 → F.p = 0) ∧ (1 < a.1 → F.q = 0) ∧ (2 < a.1 → F.r = 0) ∧ (3 < a.1 → F.s = 0)))) (fun a => 4 - a.1) (0, true) (by kernel_rfl) (by kernel_rfl) ⟨by decide, by simp⟩ (fun I w hd hh => holds1 (Has.p (k := TF Y1) (a := (20 * L + 400, F)) inferInstance hh)) ?_
  rintro ⟨i, z⟩ R ⟨hi, hz⟩ close
  simp only at hi hz
  by_cases h4 : i < 4
  · refine W.dt [] 12 (decide ((i : Int) < 4)) (by kernel_rfl) (by rw [decide_eq_true_iff]; omega) ?_
    have hcase : i = 0 ∨ i = 1 ∨ i = 2 ∨ i = 3 := by omega
    by_cases hzt : z = true
    · have hz1 := hz.1 hzt
      rcases hcase with rfl | rfl | rfl | rfl
      · refine W.dt [12] 16 z (by kernel_rfl) hzt ?_
        refine close [16] _ _ (1, Y1.p.n == 0) (by kernel_rfl) (by kernel_rfl) ⟨by simp only; omega, ?_⟩ (by simp only; omega) (fun I w hd hh => holds1 (Has.p (k := TF Y1) (a := (20 * L + 400, F)) inferInstance hh))
        simp only
        rw [hp, sign_nz]
        exact ⟨fun e => ⟨fun _ => e, fun h => absurd h (by omega), fun h => absurd h (by omega), fun h => absurd h (by omega)⟩, fun h => h.1 (by omega)⟩
      · refine W.dt [12] 16 z (by kernel_rfl) hzt ?_
        refine close [16] _ _ (2, Y1.q.n == 0) (by kernel_rfl) (by kernel_rfl) ⟨by simp only; omega, ?_⟩ (by simp only; omega) (fun I w hd hh => holds1 (Has.p (k := TF Y1) (a := (20 * L + 400, F)) inferInstance hh))
        simp only
        rw [hq, sign_nz]
        exact ⟨fun e => ⟨fun _ => hz1.1 (by omega), fun h => e, fun h => absurd h (by omega), fun h => absurd h (by omega)⟩, fun h => h.2.1 (by omega)⟩
      · refine W.dt [12] 16 z (by kernel_rfl) hzt ?_
        refine close [16] _ _ (3, Y1.r.n == 0) (by kernel_rfl) (by kernel_rfl) ⟨by simp only; omega, ?_⟩ (by simp only; omega) (fun I w hd hh => holds1 (Has.p (k := TF Y1) (a := (20 * L + 400, F)) inferInstance hh))
        simp only
        rw [hr, sign_nz]
        exact ⟨fun e => ⟨fun _ => hz1.1 (by omega), fun h => hz1.2.1 (by omega), fun h => e, fun h => absurd h (by omega)⟩, fun h => h.2.2.1 (by omega)⟩
      · refine W.dt [12] 16 z (by kernel_rfl) hzt ?_
        refine close [16] _ _ (4, Y1.s.n == 0) (by kernel_rfl) (by kernel_rfl) ⟨by simp only; omega, ?_⟩ (by simp only; omega) (fun I w hd hh => holds1 (Has.p (k := TF Y1) (a := (20 * L + 400, F)) inferInstance hh))
        simp only
        rw [hs, sign_nz]
        exact ⟨fun e => ⟨fun _ => hz1.1 (by omega), fun h => hz1.2.1 (by omega), fun h => hz1.2.2.1 (by omega), fun h => e⟩, fun h => h.2.2.2 (by omega)⟩
    · rcases hcase with rfl | rfl | rfl | rfl
      · refine W.df [12] 16 z (by kernel_rfl) (by simpa using hzt) ?_
        refine close [16] _ _ (1, false) (by kernel_rfl) (by kernel_rfl) ⟨by simp only; omega, ?_⟩ (by simp only; omega) (fun I w hd hh => holds1 (Has.p (k := TF Y1) (a := (20 * L + 400, F)) inferInstance hh))
        simp only
        exact ⟨fun e => by simp at e, fun h => absurd (hz.2 ⟨fun g => absurd g (by omega), fun g => absurd g (by omega), fun g => absurd g (by omega), fun g => absurd g (by omega)⟩) hzt⟩
      · refine W.df [12] 16 z (by kernel_rfl) (by simpa using hzt) ?_
        refine close [16] _ _ (2, false) (by kernel_rfl) (by kernel_rfl) ⟨by simp only; omega, ?_⟩ (by simp only; omega) (fun I w hd hh => holds1 (Has.p (k := TF Y1) (a := (20 * L + 400, F)) inferInstance hh))
        simp only
        exact ⟨fun e => by simp at e, fun h => absurd (hz.2 ⟨fun g => h.1 (by omega), fun g => absurd g (by omega), fun g => absurd g (by omega), fun g => absurd g (by omega)⟩) hzt⟩
      · refine W.df [12] 16 z (by kernel_rfl) (by simpa using hzt) ?_
        refine close [16] _ _ (3, false) (by kernel_rfl) (by kernel_rfl) ⟨by simp only; omega, ?_⟩ (by simp only; omega) (fun I w hd hh => holds1 (Has.p (k := TF Y1) (a := (20 * L + 400, F)) inferInstance hh))
        simp only
        exact ⟨fun e => by simp at e, fun h => absurd (hz.2 ⟨fun g => h.1 (by omega), fun g => h.2.1 (by omega), fun g => absurd g (by omega), fun g => absurd g (by omega)⟩) hzt⟩
      · refine W.df [12] 16 z (by kernel_rfl) (by simpa using hzt) ?_
        refine close [16] _ _ (4, false) (by kernel_rfl) (by kernel_rfl) ⟨by simp only; omega, ?_⟩ (by simp only; omega) (fun I w hd hh => holds1 (Has.p (k := TF Y1) (a := (20 * L + 400, F)) inferInstance hh))
        simp only
        exact ⟨fun e => by simp at e, fun h => absurd (hz.2 ⟨fun g => h.1 (by omega), fun g => h.2.1 (by omega), fun g => h.2.2.1 (by omega), fun g => absurd g (by omega)⟩) hzt⟩
  · obtain rfl : i = 4 := by omega
    refine W.df [] 12 (decide (((4 : Nat) : Int) < 4)) (by kernel_rfl) (by decide) ?_
    by_cases hzt : z = true
    · refine W.dt [12] 25 z (by kernel_rfl) hzt ?_
      have h0 := hz.1 hzt
      exact W.r [25] (.int .i64 0) (by kernel_rfl) ⟨congrArg _ (by rw [← fs]; exact (Sn.sg_zero (h0.1 (by omega)) (h0.2.1 (by omega)) (h0.2.2.1 (by omega)) (h0.2.2.2 (by omega))).symm), rfl⟩ ent0
    · have hnil : ¬ F.nil := fun h => hzt (hz.2 ⟨fun _ => h.1, fun _ => h.2.1, fun _ => h.2.2.1, fun _ => h.2.2.2⟩)
      have hs8 := hsep hnil
      refine W.df [12] 25 z (by kernel_rfl) (by simpa using hzt) ?_
      refine W.lp [25] [2, 6] (fun k : Nat => [(2, .int .i64 0), (6, .int .i64 ((8 * 2 ^ k : Nat) : Int))]) (fun _ => []) (fun _ => [TF Y1 (20 * L + 400, F)]) (fun k => k ≤ 10 ∨ (k = 11 ∧ ¬ 0 < F.lo 8192 ∧ ¬ F.hi 8192 < 0)) (fun k => 11 - k) 0 (by kernel_rfl) (by kernel_rfl) (.inl (by omega)) (fun I w hd hh => holds1 (Has.p (k := TF Y1) (a := (20 * L + 400, F)) inferInstance hh)) ?_
      rintro k R' hk close'
      by_cases hk10 : k ≤ 10
      · have hpow : 8 * 2 ^ k ≤ 8192 := by
          have := Nat.pow_le_pow_right (show 0 < 2 by decide) hk10
          omega
        refine W.dt [] 27 (decide (((8 * 2 ^ k : Nat) : Int) < 10000)) (by kernel_rfl) (by rw [decide_eq_true_iff]; omega) ?_
        refine W.cl [27] (by kernel_rfl) (r_between Y1 (8 * 2 ^ k) (by omega) fm0 fn0) ?_
        rintro _ _ ⟨S4, s4, R4, t4, V4, v4, W4, w4, rfl, rfl⟩
        refine W.code 999 ?_
        refine W.pn S4 s4 R4 t4 (by kernel_rfl) (fun hlo => ?_)
        refine W.pn V4 v4 W4 w4 (by kernel_rfl) (fun hhi => ?_)
        by_cases h1 : 0 < F.lo (8 * 2 ^ k)
        · refine W.dt [] 39 (decide (S4 > 0)) (by kernel_rfl) (by rw [decide_eq_true_iff, hlo]; exact sgn_lo.2 h1) ?_
          exact W.r [39] (.int .i64 1) (by kernel_rfl) ⟨congrArg _ (by rw [← fs]; exact (lo_pos F fm0 fn0 h1).symm), rfl⟩ ent0
        refine W.df [] 39 (decide (S4 > 0)) (by kernel_rfl) (by rw [decide_eq_false_iff_not, hlo]; exact fun h => h1 (sgn_lo.1 h)) ?_
        by_cases h2 : F.hi (8 * 2 ^ k) < 0
        · refine W.dt [39] 43 (decide (V4 < 0)) (by kernel_rfl) (by rw [decide_eq_true_iff, hhi]; exact sign_lt0.2 h2) ?_
          exact W.r [43] (.int .i64 (-1)) (by kernel_rfl) ⟨congrArg _ (by rw [← fs]; exact (hi_neg F fm0 fn0 h2).symm), rfl⟩ ent0
        refine W.df [39] 43 (decide (V4 < 0)) (by kernel_rfl) (by rw [decide_eq_false_iff_not, hhi]; exact fun h => h2 (sign_lt0.1 h)) ?_
        have hw : IntKind.i64.wrap (2 * ((8 * 2 ^ k : Nat) : Int)) = ((8 * 2 ^ (k + 1) : Nat) : Int) := by
          rw [i64_in _ (by omega), Nat.pow_succ]
          omega
        refine close' [43] _ _ (k + 1) (by kernel_rfl) (by rw [← hw]; kernel_rfl) ?_ (by omega) (fun I w hd hh => holds1 (Has.p (k := TF Y1) (a := (20 * L + 400, F)) inferInstance hh))
        by_cases e : k = 10
        · subst e
          exact .inr ⟨rfl, h1, h2⟩
        · exact .inl (by omega)
      · rcases hk with h | ⟨_, h1, h2⟩
        · exact absurd h hk10
        · rcases hs8 with h | h <;> contradiction
end
end Go.Proofs.YtabpaiboodllbaaGreat
