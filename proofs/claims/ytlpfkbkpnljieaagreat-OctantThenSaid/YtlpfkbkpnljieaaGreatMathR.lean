/- Plain laws of the root. -/
import Derived.Test.YtlpfkbkpnljieaaGreatMaths
namespace Go.Proofs.YtlpfkbkpnljieaaGreat

theorem sq_le (x z : Nat) : 4 * (x * z) ≤ (x + z) * (x + z) := by
  rcases Nat.le_total x z with h | h
  · obtain ⟨d, rfl⟩ : ∃ d, z = x + d := ⟨z - x, by omega⟩
    have e : (x + (x + d)) * (x + (x + d)) = 4 * (x * (x + d)) + d * d := by grind
    omega
  · obtain ⟨d, rfl⟩ : ∃ d, x = z + d := ⟨x - z, by omega⟩
    have e : (z + d + z) * (z + d + z) = 4 * ((z + d) * z) + d * d := by grind
    omega

/-- A step of the root is never below it. -/
theorem root_step {a x : Nat} (hx : 0 < x) : a < ((x + a / x) / 2 + 1) * ((x + a / x) / 2 + 1) := by
  have h1 : a < x * (a / x + 1) := by
    have := Nat.div_add_mod a x
    have := Nat.mod_lt a hx
    rw [Nat.mul_add]; omega
  generalize a / x = q at *
  have h2 := sq_le x (q + 1)
  have h3 : x + (q + 1) ≤ 2 * ((x + q) / 2 + 1) := by omega
  generalize (x + q) / 2 + 1 = y at *
  have h4 : (x + (q + 1)) * (x + (q + 1)) ≤ 2 * y * (2 * y) := Nat.mul_le_mul h3 h3
  have e : 2 * y * (2 * y) = 4 * (y * y) := by grind
  omega

/-- Where a step doesn't lower it, it is the root. -/
theorem root_end {a x : Nat} (hx : 0 < x) (h : x ≤ (x + a / x) / 2) : x * x ≤ a := by
  have h1 : x ≤ a / x := by omega
  exact (Nat.le_div_iff_mul_le hx).1 h1

theorem root_start {a b k : Nat} (h : a < 2 ^ b) (hk : b ≤ 2 * k) : a < (2 ^ k + 1) * (2 ^ k + 1) := by
  have h1 : 2 ^ b ≤ 2 ^ (2 * k) := Nat.pow_le_pow_right (by omega) hk
  have e : 2 ^ (2 * k) = 2 ^ k * 2 ^ k := by rw [Nat.two_mul, Nat.pow_add]
  have : 2 ^ k * 2 ^ k ≤ (2 ^ k + 1) * (2 ^ k + 1) := Nat.mul_le_mul (by omega) (by omega)
  omega

end Go.Proofs.YtlpfkbkpnljieaaGreat
