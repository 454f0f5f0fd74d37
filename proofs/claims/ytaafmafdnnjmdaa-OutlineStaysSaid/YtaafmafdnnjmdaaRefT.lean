
/- The reference's powers of two, up to 9000. -/
import Derived.Test.YtaafmafdnnjmdaaProg
import Derived.Test.YtaafmafdnnjmdaaRefX
import Derived.Test.YtaafmafdnnjmdaaPn
import Derived.Test.YtaafmafdnnjmdaaRefK
import Derived.Test.YtaafmafdnnjmdaaPr
import Derived.Deep.DeepCutAuto
import Derived.Deep.LoopGhost
set_option linter.unusedSimpArgs false
set_option linter.unusedVariables false
namespace Go.Proofs.Ytaafmafdnnjmdaa
open Go.RowKit

/-- The powers' numbers. -/
def TwoM (K k a b : Nat) : Prop := a * b ^ k = 2 ^ K ∧ 0 < b ∧ b ≤ 2 * 2 ^ K ∧ K ≤ 9000

theorem TwoM.bounds {K k a b : Nat} (h : TwoM K k a b) : a ≤ 2 * 2 ^ K ∧ b ≤ 2 * 2 ^ K ∧ b ^ k ≤ 2 ^ K ∧ 0 < a := by
  obtain ⟨h1, h2, h3, h4⟩ := h
  have h6 : 0 < b ^ k := Nat.pow_pos h2
  have h7 : 0 < 2 ^ K := Nat.pow_pos (by omega)
  have h8 : 0 < a := by
    rcases Nat.eq_zero_or_pos a with e | e
    · rw [e, Nat.zero_mul] at h1
      omega
    · exact e
  have h9 : a * 1 ≤ a * b ^ k := Nat.mul_le_mul_left _ h6
  have h10 : 1 * b ^ k ≤ a * b ^ k := Nat.mul_le_mul_right _ h8
  exact ⟨by omega, by omega, by omega, h8⟩

theorem TwoM.odd {K k a b : Nat} (h : TwoM K k a b) (ho : k % 2 = 1) (hk : 1 < k) : TwoM K (k / 2) (a * b) (b * b) := by
  have hb := h.bounds
  obtain ⟨h1, h2, h3, h4⟩ := h
  have e : k = 2 * (k / 2) + 1 := by omega
  refine ⟨?_, Nat.mul_pos h2 h2, ?_, h4⟩
  · rw [← h1]
    conv => rhs; rw [e, Nat.pow_succ, Nat.pow_mul]
    rw [show b ^ 2 = b * b by rw [Nat.pow_succ, Nat.pow_one]]
    grind
  · have : b ^ 2 ≤ b ^ k := Nat.pow_le_pow_right h2 (by omega)
    rw [show b ^ 2 = b * b by rw [Nat.pow_succ, Nat.pow_one]] at this
    omega
theorem TwoM.one {K a b : Nat} (h : TwoM K 1 a b) : TwoM K 0 (a * b) b := by
  obtain ⟨h1, h2, h3, h4⟩ := h
  exact ⟨by simpa using h1, h2, h3, h4⟩
theorem TwoM.even {K k a b : Nat} (h : TwoM K k a b) (he : k % 2 = 0) (hk : 1 < k) : TwoM K (k / 2) a (b * b) := by
  have hb := h.bounds
  obtain ⟨h1, h2, h3, h4⟩ := h
  have e : k = 2 * (k / 2) := by omega
  refine ⟨?_, Nat.mul_pos h2 h2, ?_, h4⟩
  · rw [← h1]
    conv => rhs; rw [e, Nat.pow_mul]
    rw [show b ^ 2 = b * b by rw [Nat.pow_succ, Nat.pow_one]]
  · have : b ^ 2 ≤ b ^ k := Nat.pow_le_pow_right h2 (by omega)
    rw [show b ^ 2 = b * b by rw [Nat.pow_succ, Nat.pow_one]] at this
    omega

def RTwoRem (w : World) (b3 b4 K : Nat) (kv : Value) (wr : World) : Prop := ∃ (k a b : Nat) (sa sb : Sl), kv = .int .i64 k ∧ k ≤ 9000 ∧ TwoM K k a b ∧ RTwoSt w b3 b4 sa sb a b wr

theorem refs_bound9 {w : World} {s : Sl} {x K : Nat} (h : RefS w s x) (hx : x ≤ 2 * 2 ^ K) (hK : K ≤ 9000) : s.n ≤ 901 := by
  have h9 : ∀ k : Nat, k = 901 → s.n ≤ k := fun k hk => h.n_bound (k := k) (Nat.lt_of_le_of_lt hx (two_lt (by omega)))
  exact h9 901 rfl

section
variable {Γ : List Fact} {L M x y : Nat}
end
end Go.Proofs.Ytaafmafdnnjmdaa
