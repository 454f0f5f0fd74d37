
/- The reference's search for the sign ends. Plain laws. -/
import Derived.Test.YtabpaiboodllbaaGreatSp
set_option linter.unusedSimpArgs false
set_option linter.unusedVariables false
namespace Go.Proofs.YtabpaiboodllbaaGreat
open Go.RowKit Go.IntWalk

theorem decide_sign (F : Sn) (hm : 0 ≤ F.m) (hn : 0 ≤ F.n) {A k E : Nat} (hp : -(tw A) ≤ F.p ∧ F.p ≤ tw A) (hq : -(tw A) ≤ F.q ∧ F.q ≤ tw A) (hr : -(tw A) ≤ F.r ∧ F.r ≤ tw A) (hs : -(tw A) ≤ F.s ∧ F.s ≤ tw A)
    (hv : ∃ K, ∀ j, K ≤ j → tk E ≤ F.v j ∨ F.v j ≤ -tk E) (hE : A + 2 + E < k) : 0 < F.lo k ∨ F.hi k < 0 := by
  by_cases h1 : 0 < F.lo k
  · exact .inl h1
  by_cases h2 : F.hi k < 0
  · exact .inr h2
  exfalso
  have hδ : 4 * (tw A * tk k) < tk E := by
    have e1 : k = (k - (A + 2)) + (A + 2) := by omega
    have e2 := tk_add (k - (A + 2)) (A + 2)
    rw [← e1] at e2
    have e3 : tw (A + 2) = tw A * 4 := by rw [tw_add]; rfl
    rw [e3] at e2
    have e4 := tk_lt (show E < k - (A + 2) by omega)
    grind
  obtain ⟨K1, g1⟩ := near_zero F hm hn (Rat.le_of_lt (tw_pos A)) h1 h2 hq hr hs hp hδ
  obtain ⟨K2, g2⟩ := hv
  have a1 := g1 (max K1 K2) (by omega)
  have a2 := g2 (max K1 K2) (by omega)
  rcases a2 with h | h <;> grind

theorem isq_le (x : Nat) : isq x ≤ x := by
  have h := (isq_spec x).1
  rcases Nat.eq_zero_or_pos (isq x) with e | e
  · omega
  · have : isq x * 1 ≤ isq x * isq x := Nat.mul_le_mul_left _ e
    omega
theorem md.rt {c : Nat} {n : Int} (h : n.natAbs ≤ 2 ^ c) : md c 0 (rtq n) := md.int (z := ((isq n.natAbs : Nat) : Int)) (Nat.le_trans (isq_le _) h)
theorem md.z {a d : Nat} {x : Rat} (h : md a d x) : md a d (0 + x) := by
  rw [Rat.zero_add]
  exact h
theorem md.b {a d : Nat} {x : Rat} (h : md a d x) : -(tw a) ≤ x ∧ x ≤ tw a := ⟨h.1, h.2.1⟩
theorem mul_bits {m n : Int} {c : Nat} (cm : m.natAbs ≤ 2 ^ c) (cn : n.natAbs ≤ 2 ^ c) : (m * n).natAbs ≤ 2 ^ (2 * c) := by
  rw [Int.natAbs_mul, show 2 * c = c + c by omega, Nat.pow_add]
  exact Nat.mul_le_mul cm cn
theorem md.rtm {c : Nat} {m n : Int} (hm : 0 < m) (cm : m.natAbs ≤ 2 ^ c) (cn : n.natAbs ≤ 2 ^ c) : md (2 * c) c (rtq (m * n) / (m : Rat)) := by
  have h := md.rt (mul_bits cm cn)
  have hmq : (1 : Rat) ≤ (m : Rat) := by exact_mod_cast (show (1 : Int) ≤ m by omega)
  have h0 : 0 ≤ rtq (m * n) := by unfold rtq; exact_mod_cast Int.natCast_nonneg _
  have hne : (m : Rat) ≠ 0 := fun e => by rw [e] at hmq; exact absurd hmq (by decide +kernel)
  have hmul : (m : Rat) * (m : Rat)⁻¹ = 1 := Rat.mul_inv_cancel _ hne
  have e : rtq (m * n) / (m : Rat) = Rat.divInt ((isq (m * n).natAbs : Nat) : Int) m := by
    rw [Rat.divInt_eq_div]; rfl
  refine ⟨?_, ?_, ?_⟩
  · have hp := tw_pos (2 * c)
    have : 0 ≤ rtq (m * n) / (m : Rat) := nonneg_of_mul (show 0 < (m : Rat) by grind) (by
      rw [Rat.div_def]
      generalize (m : Rat)⁻¹ = i at *
      have : rtq (m * n) * i * m = rtq (m * n) * (m * i) := by grind
      rw [this, hmul]
      grind)
    grind
  · have h2 := h.2.1
    have : 0 ≤ tw (2 * c) - rtq (m * n) / (m : Rat) := nonneg_of_mul (show 0 < (m : Rat) by grind) (by
      rw [Rat.div_def]
      generalize (m : Rat)⁻¹ = i at *
      have : (tw (2 * c) - rtq (m * n) * i) * m = tw (2 * c) * m - rtq (m * n) * (m * i) := by grind
      rw [this, hmul]
      have := Rat.mul_nonneg (show 0 ≤ tw (2 * c) by have := tw_pos (2 * c); grind) (show 0 ≤ (m : Rat) - 1 by grind)
      grind)
    grind
  · have := den_of hm e
    exact Nat.le_trans this cm

theorem v_pq (F : Sn) (hr : F.r = 0) (hs : F.s = 0) (j : Nat) : F.v j = F.p + F.q * apx F.m j := by
  unfold Sn.v v1
  rw [hr, hs]
  grind
theorem v_pr (F : Sn) (hq : F.q = 0) (hs : F.s = 0) (j : Nat) : F.v j = F.p + F.r * apx F.n j := by
  unfold Sn.v v1
  rw [hq, hs]
  grind
/-- Whether all parts are 0. -/
def Sn.nil (F : Sn) : Prop := F.p = 0 ∧ F.q = 0 ∧ F.r = 0 ∧ F.s = 0
theorem sep_all (S : Sn) {A D c : Nat} (hm : 0 ≤ S.m) (hn : 0 ≤ S.n) (cm : S.m.natAbs ≤ 2 ^ c) (cn : S.n.natAbs ≤ 2 ^ c) (hp : md A D S.p) (hq : md A D S.q) (hr : md A D S.r) (hs : md A D S.s)
    {k : Nat} (hE : 24 * D + 9 * c + 4 * A + 40 < k) (h0 : ¬ S.fold.nil) : 0 < S.fold.lo k ∨ S.fold.hi k < 0 := by
  have fm := fold_mn S
  have z0 : ∀ a : Nat, -(tw a) ≤ (0 : Rat) ∧ (0 : Rat) ≤ tw a := fun a => (md.zero a 0).b
  by_cases sm : isSq S.m = true
  · have e1 : S.f1 = ⟨S.m, S.n, 0 + S.p + rtq S.m * S.q, 0, 0 + S.r + rtq S.m * S.s, 0⟩ := by unfold Sn.f1; rw [if_pos sm]
    have m1 : md (c + A + 1) (2 * D) (0 + S.p + rtq S.m * S.q) := (hp.z.add ((md.rt cm).mul hq)).mono (by omega) (by omega)
    have m2 : md (c + A + 1) (2 * D) (0 + S.r + rtq S.m * S.s) := (hr.z.add ((md.rt cm).mul hs)).mono (by omega) (by omega)
    by_cases sn : isSq S.n = true
    · have e2 : S.fold = ⟨S.m, S.n, 0 + (0 + S.p + rtq S.m * S.q) + rtq S.n * (0 + S.r + rtq S.m * S.s), 0 + 0 + rtq S.n * 0, 0, 0⟩ := by
        unfold Sn.fold
        rw [e1]
        unfold Sn.f2
        rw [if_pos sn]
        unfold Sn.f3
        rw [if_neg (fun h => by rw [sm] at h; simp at h)]
      have q0 : S.fold.q = 0 := by rw [e2]; simp only; grind
      have r0 : S.fold.r = 0 := by rw [e2]
      have s0 : S.fold.s = 0 := by rw [e2]
      have mP : md (2 * c + A + 2) (4 * D) S.fold.p := by
        rw [e2]
        exact (m1.z.add ((md.rt cn).mul m2)).mono (by omega) (by omega)
      have p0 : S.fold.p ≠ 0 := fun h => h0 ⟨h, q0, r0, s0⟩
      refine decide_sign S.fold (by omega) (by omega) (A := 2 * c + A + 2) (E := 4 * D) mP.b (by rw [q0]; exact z0 _) (by rw [r0]; exact z0 _) (by rw [s0]; exact z0 _) ⟨0, fun j _ => ?_⟩ (by omega)
      rw [v_pq _ r0 s0, q0, Rat.zero_mul, Rat.add_zero]
      exact mP.nz p0
    · have sn' : isSq S.n = false := by simpa using sn
      have e2 : S.fold = S.f1 := by
        unfold Sn.fold
        rw [e1]
        unfold Sn.f2
        rw [if_neg sn]
        unfold Sn.f3
        rw [if_neg (fun h => by rw [sm] at h; simp at h)]
      have q0 : S.fold.q = 0 := by rw [e2, e1]
      have s0 : S.fold.s = 0 := by rw [e2, e1]
      have mP : md (c + A + 1) (2 * D) S.fold.p := by rw [e2, e1]; exact m1
      have mR : md (c + A + 1) (2 * D) S.fold.r := by rw [e2, e1]; exact m2
      have pr0 : S.fold.p ≠ 0 ∨ S.fold.r ≠ 0 := by
        by_cases h : S.fold.p = 0
        · exact .inr (fun h' => h0 ⟨h, q0, h', s0⟩)
        · exact .inl h
      have := sep2 (d := S.n) hn sn' cn mP mR pr0
      refine decide_sign S.fold (by omega) (by omega) (A := c + A + 1) (E := 4 * (2 * D) + (c + A + 1) + c + 4) mP.b (by rw [q0]; exact z0 _) mR.b (by rw [s0]; exact z0 _) ?_ (by omega)
      obtain ⟨K, hK⟩ := this
      exact ⟨K, fun j hj => by rw [v_pr _ q0 s0, fm.2]; exact hK j hj⟩
  · have sm' : isSq S.m = false := by simpa using sm
    have e1 : S.f1 = S := by unfold Sn.f1; rw [if_neg sm]
    have two : ∀ (P Q : Rat), S.fold = ⟨S.m, S.n, P, Q, 0, 0⟩ → md (2 * c + A + 1) (2 * D + c) P → md (2 * c + A + 1) (2 * D + c) Q → 0 < S.fold.lo k ∨ S.fold.hi k < 0 := by
      intro P Q e2 mP mQ
      have r0 : S.fold.r = 0 := by rw [e2]
      have s0 : S.fold.s = 0 := by rw [e2]
      have eP : S.fold.p = P := by rw [e2]
      have eQ : S.fold.q = Q := by rw [e2]
      have pq0 : P ≠ 0 ∨ Q ≠ 0 := by
        by_cases h : P = 0
        · exact .inr (fun h' => h0 ⟨by rw [eP]; exact h, by rw [eQ]; exact h', r0, s0⟩)
        · exact .inl h
      have := sep2 (d := S.m) hm sm' cm mP mQ pq0
      refine decide_sign S.fold (by omega) (by omega) (A := 2 * c + A + 1) (E := 4 * (2 * D + c) + (2 * c + A + 1) + c + 4) (by rw [eP]; exact mP.b) (by rw [eQ]; exact mQ.b) (by rw [r0]; exact z0 _) (by rw [s0]; exact z0 _) ?_ (by omega)
      obtain ⟨K, hK⟩ := this
      exact ⟨K, fun j hj => by rw [v_pq _ r0 s0, fm.1, eP, eQ]; exact hK j hj⟩
    by_cases sn : isSq S.n = true
    · refine two _ _ ?_ ((hp.z.add ((md.rt cn).mul hr)).mono (by omega) (by omega)) ((hq.z.add ((md.rt cn).mul hs)).mono (by omega) (by omega))
      unfold Sn.fold
      rw [e1]
      unfold Sn.f2
      rw [if_pos sn]
      unfold Sn.f3
      rw [if_neg (fun h => by have := h.2.2; simp only at this; rw [sn] at this; simp at this)]
    · have sn' : isSq S.n = false := by simpa using sn
      have e2 : S.f2 = S := by unfold Sn.f2; rw [if_neg sn]
      by_cases smn : isSq (S.m * S.n) = true
      · have hm0 : S.m ≠ 0 := fun e => by rw [e, isSq_zero] at sm'; simp at sm'
        refine two _ _ ?_ ((hp.z.add ((md.rt (mul_bits cm cn)).mul hs)).mono (by omega) (by omega)) ((hq.z.add ((md.rtm (by omega) cm cn).mul hr)).mono (by omega) (by omega))
        unfold Sn.fold
        rw [e1, e2]
        unfold Sn.f3
        rw [if_pos ⟨smn, sm', sn'⟩]
      · have smn' : isSq (S.m * S.n) = false := by simpa using smn
        have e3 : S.fold = S := by
          unfold Sn.fold
          rw [e1, e2]
          unfold Sn.f3
          rw [if_neg (fun h => smn h.1)]
        rw [e3] at h0 ⊢
        have := sep4 hm hn sm' sn' smn' cm cn hp hq hr hs h0
        exact decide_sign S hm hn (A := A) (E := 24 * D + 3 * A + 4 * c + 14) hp.b hq.b hr.b hs.b this (by omega)
/-- A number of root 2's field, of two parts. -/
abbrev r2F (x y : Rat) : Sn := ⟨2, 0, x, y, 0, 0⟩
/-- How near it comes to 0. -/
theorem sep_r2 {x y : Rat} {A D : Nat} (hx : md A D x) (hy : md A D y) {k : Nat} (hE : 4 * D + 2 * A + 10 < k) (h0 : ¬ (r2F x y).nil) : 0 < (r2F x y).lo k ∨ (r2F x y).hi k < 0 := by
  have s2 : isSq 2 = false := by decide
  have xy0 : x ≠ 0 ∨ y ≠ 0 := by
    by_cases h : x = 0
    · exact .inr (fun h' => h0 ⟨h, h', rfl, rfl⟩)
    · exact .inl h
  have := sep2 (d := 2) (c := 1) (by decide) s2 (by decide) hx hy xy0
  have z0 : ∀ a : Nat, -(tw a) ≤ (0 : Rat) ∧ (0 : Rat) ≤ tw a := fun a => (md.zero a 0).b
  refine decide_sign (r2F x y) (by show (0 : Int) ≤ 2; decide) (by show (0 : Int) ≤ 0; decide) (A := A) (E := 4 * D + A + 1 + 4) hx.b hy.b (z0 _) (z0 _) ?_ (by omega)
  obtain ⟨K, hK⟩ := this
  exact ⟨K, fun j hj => by rw [v_pq _ rfl rfl]; exact hK j hj⟩
theorem fold_r2 (x y : Rat) : (r2F x y).fold = r2F x y := by
  have s2 : isSq 2 = false := by decide
  have s0 : isSq 0 = true := by decide
  have e1 : (r2F x y).f1 = r2F x y := by unfold Sn.f1; rw [if_neg (by show ¬ isSq 2 = true; rw [s2]; simp)]
  have e2 : (r2F x y).f2 = r2F x y := by
    unfold Sn.f2
    rw [if_pos (by show isSq 0 = true; exact s0)]
    unfold r2F
    refine Sn.ext' rfl rfl ?_ ?_ rfl rfl <;> simp only <;> grind
  unfold Sn.fold
  rw [e1, e2]
  unfold Sn.f3
  rw [if_neg (fun h => by have : isSq 0 = false := h.2.2; rw [s0] at this; simp at this)]
end Go.Proofs.YtabpaiboodllbaaGreat
