/- plain maths for the layer of whole numbers with a sign: no condition. -/
namespace Go.Proofs.Ytnjohlimjbmkgaa
theorem floor_pos_div {a b : Int} (ha : 0 ≤ a) (hb : b ≠ 0) :
    (a / b = if b < 0 then -((a.natAbs / b.natAbs : Nat) : Int) else ((a.natAbs / b.natAbs : Nat) : Int)) ∧ a % b = ((a.natAbs % b.natAbs : Nat) : Int) := by
  obtain ⟨n, rfl⟩ := Int.eq_ofNat_of_zero_le ha
  by_cases h : b < 0
  · obtain ⟨m, rfl⟩ : ∃ m : Nat, b = -(m : Int) := ⟨b.natAbs, by omega⟩
    simp only [Int.ediv_neg, Int.emod_neg, Int.natAbs_neg, Int.natAbs_natCast, if_pos h]
    exact ⟨by rw [Int.natCast_ediv], by rw [Int.natCast_emod]⟩
  · obtain ⟨m, rfl⟩ := Int.eq_ofNat_of_zero_le (Int.not_lt.1 h)
    simp only [Int.natAbs_natCast, if_neg h]
    exact ⟨by rw [Int.natCast_ediv], by rw [Int.natCast_emod]⟩

theorem floor_neg_zero {a b : Int} (ha : a < 0) (hb : b ≠ 0) (hr : a.natAbs % b.natAbs = 0) :
    (a / b = if b < 0 then ((a.natAbs / b.natAbs : Nat) : Int) else -((a.natAbs / b.natAbs : Nat) : Int)) ∧ a % b = 0 := by
  have hd : b ∣ a := Int.natAbs_dvd_natAbs.1 (Nat.dvd_of_mod_eq_zero hr)
  have h0 : a % b = 0 := Int.emod_eq_zero_of_dvd hd
  refine ⟨?_, h0⟩
  have h1 := Nat.div_add_mod a.natAbs b.natAbs
  have h2 := Int.mul_ediv_add_emod a b
  have h3 : ((a.natAbs : Nat) : Int) = -a := by omega
  have h4 : ((b.natAbs * (a.natAbs / b.natAbs) : Nat) : Int) = -a := by rw [← h3]; congr 1; omega
  rw [Int.natCast_mul] at h4
  split
  · rename_i h
    have h5 : ((b.natAbs : Nat) : Int) = -b := by omega
    rw [h5] at h4
    have : b * (a / b) = b * ((a.natAbs / b.natAbs : Nat) : Int) := by rw [Int.neg_mul] at h4; omega
    exact Int.eq_of_mul_eq_mul_left hb this
  · rename_i h
    have h5 : ((b.natAbs : Nat) : Int) = b := by omega
    rw [h5] at h4
    have : b * (a / b) = b * -((a.natAbs / b.natAbs : Nat) : Int) := by rw [Int.mul_neg]; omega
    exact Int.eq_of_mul_eq_mul_left hb this

theorem floor_neg_pos {a b : Int} (ha : a < 0) (hb : b ≠ 0) (hr : a.natAbs % b.natAbs ≠ 0) :
    (a / b = if b < 0 then ((a.natAbs / b.natAbs : Nat) : Int) + 1 else -((a.natAbs / b.natAbs : Nat) : Int) - 1) ∧ a % b = ((b.natAbs : Nat) : Int) - ((a.natAbs % b.natAbs : Nat) : Int) := by
  have h1 := Nat.div_add_mod a.natAbs b.natAbs
  have hb0 : 0 < b.natAbs := by omega
  have hlt := Nat.mod_lt a.natAbs hb0
  have h3 : ((a.natAbs : Nat) : Int) = -a := by omega
  have h4 : ((b.natAbs * (a.natAbs / b.natAbs) : Nat) : Int) = -a - ((a.natAbs % b.natAbs : Nat) : Int) := by rw [← h3]; omega
  rw [Int.natCast_mul] at h4
  generalize ((a.natAbs / b.natAbs : Nat) : Int) = q at *
  have hlt' : ((a.natAbs % b.natAbs : Nat) : Int) < ((b.natAbs : Nat) : Int) := by omega
  have hr' : 0 < ((a.natAbs % b.natAbs : Nat) : Int) := by omega
  generalize ((a.natAbs % b.natAbs : Nat) : Int) = r at *
  split
  · rename_i h
    have h5 : ((b.natAbs : Nat) : Int) = -b := by omega
    rw [h5] at h4 hlt' ⊢
    have e : a = b * (q + 1) + (-b - r) := by rw [Int.mul_add, Int.mul_one]; rw [Int.neg_mul] at h4; omega
    have := (Int.ediv_emod_unique' (a := a) (b := b) (r := -b - r) (q := q + 1) h).2 ⟨by omega, by omega, by omega⟩
    exact ⟨this.1, this.2⟩
  · rename_i h
    have h5 : ((b.natAbs : Nat) : Int) = b := by omega
    rw [h5] at h4 hlt' ⊢
    have e : a = b * (-q - 1) + (b - r) := by rw [Int.mul_sub, Int.mul_one, Int.mul_neg]; omega
    have := (Int.ediv_emod_unique (a := a) (b := b) (r := b - r) (q := -q - 1) (by omega)).2 ⟨by omega, by omega, by omega⟩
    exact ⟨this.1, this.2⟩
end Go.Proofs.Ytnjohlimjbmkgaa
