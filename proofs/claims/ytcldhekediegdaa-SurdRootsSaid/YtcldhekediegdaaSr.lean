
/- The roots of whole numbers: where the search for the floor begins and ends. -/
import Derived.Test.YtcldhekediegdaaSd
set_option linter.unusedSimpArgs false
set_option linter.unusedVariables false
namespace Go.Proofs.Ytcldhekediegdaa
open Go.RowKit Go.IntWalk

theorem isq_shift (x : Nat) : isq (x * 65536) / 256 = isq x := by
  obtain ⟨h1, h2⟩ := isq_spec (x * 65536)
  generalize isq (x * 65536) = R at *
  symm
  have e1 : 256 * (R / 256) ≤ R := Nat.mul_div_le R 256
  have e2 : R + 1 ≤ 256 * (R / 256 + 1) := by omega
  generalize R / 256 = r at *
  refine isq_unique ?_ ?_
  · have := Nat.mul_le_mul e1 e1
    have e : 256 * r * (256 * r) = r * r * 65536 := by grind
    omega
  · have := Nat.mul_le_mul e2 e2
    have e : 256 * (r + 1) * (256 * (r + 1)) = (r + 1) * (r + 1) * 65536 := by grind
    omega
theorem isq_zero : isq 0 = 0 := by decide
theorem qab_zero (r : Int) : qab 0 r 8 = 0 := by
  unfold qab
  simp [isq_zero]
theorem qab_one {r : Int} : qab 1 r 8 / 256 = (isq r.natAbs : Int) := by
  have e : qab 1 r 8 = (isq (r.natAbs * 65536) : Nat) := by
    unfold qab
    simp
  have := isq_shift r.natAbs
  rw [e]
  omega
theorem rat_neg (z : Int) : (0 : Rat) - (z : Rat) = ((-z : Int) : Rat) := by rw [Rat.intCast_neg]; grind
theorem num_int (z : Int) : ((z : Int) : Rat).num = z := rfl
theorem cmpQ_int (a b : Int) : cmpQ (a : Rat) (b : Rat) = cmpZ a b := by
  unfold cmpQ cmpZ
  simp only [Rat.intCast_lt_intCast, Rat.intCast_inj]
theorem sg1_root {z m : Int} (hz : z ≤ 0) (hm : 0 ≤ m) : sg1 ((z : Int) : Rat) 1 m = if m = 0 then z.sign else if z = 0 then 1 else - cmpZ (z * z) m := by
  unfold sg1
  have h1 : (1 : Rat).num.sign = 1 := by decide
  have e : ((z : Int) : Rat) * ((z : Int) : Rat) = ((z * z : Int) : Rat) := (Rat.intCast_mul z z).symm
  have e2 : (1 : Rat) * 1 * (m : Rat) = (m : Rat) := by grind
  simp only [num_int, h1, e, e2, cmpQ_int]
  by_cases hm0 : m = 0
  · subst hm0
    simp
  · have hs : m.sign = 1 := Int.sign_eq_one_of_pos (by omega)
    have h10 : (if (1 : Int) = 0 then (0 : Int) else 1) = 1 := rfl
    simp only [hs, h10]
    by_cases hz0 : z = 0
    · subst hz0
      simp [hm0]
    · have hs : z.sign = -1 := Int.sign_eq_neg_one_of_neg (by omega)
      simp [hs, hz0, hm0]
theorem sg_ra (m n : Int) (p : Rat) : (⟨m, n, p, 1, 0, 0⟩ : Sn).sg = sg1 p 1 m := by
  unfold Sn.sg
  simp [sg1_zero]
theorem root_pos {x : Nat} (h : x ≠ 0) : isq x ≠ 0 := by
  obtain ⟨_, h2⟩ := isq_spec x
  intro e
  rw [e] at h2
  omega
theorem ra_low {m n : Int} (hm : 0 ≤ m) : (⟨m, n, 0, 1, 0, 0⟩ : Sn).low = (isq m.natAbs : Int) := by
  unfold Sn.low
  simp only [qab_zero]
  rw [← qab_one]
  congr 1
  omega
theorem sq_nat (x : Nat) : ((isq x : Nat) : Int) * (isq x : Nat) ≤ (x : Int) ∧ (x : Int) < ((isq x : Nat) + 1 : Int) * ((isq x : Nat) + 1) := by
  obtain ⟨h1, h2⟩ := isq_spec x
  exact ⟨by exact_mod_cast h1, by exact_mod_cast h2⟩
theorem ra_floors {m n : Int} (hm : 0 ≤ m) : (⟨m, n, 0, 1, 0, 0⟩ : Sn).floors = true := by
  unfold Sn.floors
  rw [ra_low hm]
  simp only [Sn.lessq, rat_neg, sg_ra]
  obtain ⟨h1, h2⟩ := sq_nat m.natAbs
  have hx : (m.natAbs : Int) = m := by omega
  rw [hx] at h1 h2
  have hp := root_pos (x := m.natAbs)
  generalize isq m.natAbs = u at *
  rw [sg1_root (by omega) hm, sg1_root (by omega) hm]
  by_cases hm0 : m = 0
  · subst hm0
    have hu : u = 0 := by
      rcases Nat.eq_zero_or_pos u with h | h
      · exact h
      · have : (1 : Int) * 1 ≤ (u : Int) * u := Int.mul_le_mul (by omega) (by omega) (by omega) (by omega)
        omega
    subst hu
    decide
  · have hu : u ≠ 0 := hp (by omega)
    rw [if_neg hm0, if_neg hm0, if_neg (by omega), if_neg (by omega)]
    have e1 : -(u : Int) * -(u : Int) = u * u := by grind
    have e2 : -((u : Int) + 1) * -((u : Int) + 1) = (u + 1) * (u + 1) := by grind
    rw [e1, e2]
    have c1 : ¬ (-cmpZ ((u : Int) * u) m < 0) := by unfold cmpZ; (repeat' split) <;> omega
    have c2 : -cmpZ (((u : Int) + 1) * (u + 1)) m < 0 := by unfold cmpZ; (repeat' split) <;> omega
    rw [decide_eq_false c1, decide_eq_true c2]
    rfl
theorem rc_low {m n : Int} : (⟨m, n, 0, 0, 0, 1⟩ : Sn).low = (isq (m * n).natAbs : Int) := by
  unfold Sn.low
  simp only [qab_zero]
  rw [← qab_one]
  congr 1
  omega
theorem sg1_y0 (x : Rat) (m : Int) : sg1 x 0 m = x.num.sign := by
  unfold sg1
  simp
theorem sg1_01 {m : Int} (hm : 0 ≤ m) : sg1 0 1 m = if m = 0 then 0 else 1 := by
  have := sg1_root (z := 0) (m := m) (by omega) hm
  rw [show ((0 : Int) : Rat) = 0 from rfl] at this
  rw [this]
  simp
theorem sg_rc {m n z : Int} (hm : 0 ≤ m) (hn : 0 ≤ n) (hz : z ≤ 0) : (⟨m, n, ((z : Int) : Rat), 0, 0, 1⟩ : Sn).sg = if m * n = 0 then z.sign else if z = 0 then 1 else - (z * z - m * n).sign := by
  unfold Sn.sg
  have e : ((z : Int) : Rat) * ((z : Int) : Rat) + (m : Rat) * 0 * 0 - (n : Rat) * (0 * 0 + (m : Rat) * 1 * 1) = ((z * z - m * n : Int) : Rat) := by
    rw [Rat.intCast_sub, Rat.intCast_mul, Rat.intCast_mul]
    grind
  have e2 : (2 : Rat) * (((z : Int) : Rat) * 0 - (n : Rat) * 0 * 1) = 0 := by grind
  simp only [e, e2, sg1_y0, sg1_01 hm, num_int]
  by_cases hm0 : m = 0
  · subst hm0
    simp
  by_cases hn0 : n = 0
  · subst hn0
    simp
  have hmn : m * n ≠ 0 := Int.mul_ne_zero hm0 hn0
  have hs : n.sign = 1 := Int.sign_eq_one_of_pos (by omega)
  have h10 : (if (1 : Int) = 0 then (0 : Int) else 1) = 1 := rfl
  simp only [if_neg hm0, hs, h10, if_neg hmn]
  by_cases hz0 : z = 0
  · subst hz0
    simp
  · have hs : z.sign = -1 := Int.sign_eq_neg_one_of_neg (by omega)
    simp [hs, hz0]
theorem rc_floors {m n : Int} (hm : 0 ≤ m) (hn : 0 ≤ n) : (⟨m, n, 0, 0, 0, 1⟩ : Sn).floors = true := by
  unfold Sn.floors
  rw [rc_low]
  simp only [Sn.lessq, rat_neg]
  have hmn : 0 ≤ m * n := Int.mul_nonneg hm hn
  obtain ⟨h1, h2⟩ := sq_nat (m * n).natAbs
  have hx : ((m * n).natAbs : Int) = m * n := by omega
  rw [hx] at h1 h2
  have hp := root_pos (x := (m * n).natAbs)
  generalize isq (m * n).natAbs = u at *
  rw [sg_rc hm hn (by omega), sg_rc hm hn (by omega)]
  generalize m * n = k at *
  by_cases hm0 : k = 0
  · subst hm0
    have hu : u = 0 := by
      rcases Nat.eq_zero_or_pos u with h | h
      · exact h
      · have : (1 : Int) * 1 ≤ (u : Int) * u := Int.mul_le_mul (by omega) (by omega) (by omega) (by omega)
        omega
    subst hu
    decide
  · have hu : u ≠ 0 := hp (by omega)
    rw [if_neg hm0, if_neg hm0, if_neg (by omega), if_neg (by omega)]
    have e1 : -(u : Int) * -(u : Int) = u * u := by grind
    have e2 : -((u : Int) + 1) * -((u : Int) + 1) = (u + 1) * (u + 1) := by grind
    rw [e1, e2]
    have c1 : ¬ (-((u : Int) * u - k).sign < 0) := by
      have : ((u : Int) * u - k).sign ≤ 0 := by
        rcases Int.lt_trichotomy ((u : Int) * u - k) 0 with h | h | h
        · rw [Int.sign_eq_neg_one_of_neg h]; omega
        · rw [h]; decide
        · omega
      omega
    have c2 : -(((u : Int) + 1) * (u + 1) - k).sign < 0 := by
      rw [Int.sign_eq_one_of_pos (by omega)]
      omega
    rw [decide_eq_false c1, decide_eq_true c2]
    rfl
end Go.Proofs.Ytcldhekediegdaa
