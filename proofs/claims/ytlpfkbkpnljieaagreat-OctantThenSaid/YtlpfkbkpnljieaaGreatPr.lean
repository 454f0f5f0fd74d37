/- The root of a whole number: what it is; its contract. -/
import Derived.Test.YtlpfkbkpnljieaaGreatPn
import Derived.Test.YtlpfkbkpnljieaaGreatNatO
set_option linter.unusedSimpArgs false
set_option linter.unusedVariables false
namespace Go.Proofs.YtlpfkbkpnljieaaGreat
open Go.RowKit

def isqF : Nat → Nat → Nat
  | 0, _ => 0
  | k + 1, n => let r := 2 * isqF k (n / 4); if (r + 1) * (r + 1) ≤ n then r + 1 else r
/-- The root, rounded down. -/
def isq (n : Nat) : Nat := isqF (n.log2 + 1) n

theorem isqF_spec : ∀ (k n : Nat), n < 4 ^ k → isqF k n * isqF k n ≤ n ∧ n < (isqF k n + 1) * (isqF k n + 1)
  | 0, n, h => by
    have : n = 0 := by simpa using h
    subst this
    decide
  | k + 1, n, h => by
    obtain ⟨h1, h2⟩ := isqF_spec k (n / 4) (by rw [Nat.pow_succ] at h; omega)
    simp only [isqF]
    generalize isqF k (n / 4) = r at *
    have e1 : (2 * r) * (2 * r) = 4 * (r * r) := by grind
    have e2 : (2 * r + 1 + 1) * (2 * r + 1 + 1) = 4 * ((r + 1) * (r + 1)) := by grind
    split
    · refine ⟨by assumption, ?_⟩
      rw [e2]
      omega
    · refine ⟨by rw [e1]; omega, by omega⟩
theorem isq_spec (n : Nat) : isq n * isq n ≤ n ∧ n < (isq n + 1) * (isq n + 1) := by
  refine isqF_spec _ _ (Nat.lt_of_lt_of_le (Nat.lt_log2_self) ?_)
  exact Nat.pow_le_pow_left (by omega) _
theorem isq_unique {n r : Nat} (h1 : r * r ≤ n) (h2 : n < (r + 1) * (r + 1)) : isq n = r := by
  obtain ⟨g1, g2⟩ := isq_spec n
  rcases Nat.lt_trichotomy (isq n) r with h | h | h
  · have : (isq n + 1) * (isq n + 1) ≤ r * r := Nat.mul_le_mul h h
    omega
  · exact h
  · have : (r + 1) * (r + 1) ≤ isq n * isq n := Nat.mul_le_mul h h
    omega

section
variable {Γ : List Fact} {L M x y : Nat}
theorem p_root (s : Sl) [ha : Has (NF s) (L, x) Γ] (hL : L ≤ 2000 := by omega) :
    PCalls tb Tryz.prog 128 [mv s] Γ (fun v Δ => ∃ u t : Sl, v = .tuple #[mv u, mv t] ∧ Δ = [NF u (L, isq x), NF t (L, x - isq x * isq x)]) :=
  ⟨⟨_, Tryz.func128, by kernel_rfl, by kernel_rfl⟩, fun I w hd hh => by
    obtain ⟨h1, h2, h3⟩ := ha.p hh
    refine (root_spec h1 (Nat.le_trans h3 hL)).mono ?_
    rintro e w' ⟨u, v, r, rfl, hu, hv, hr1, hr2, hn1, hn2, hb⟩
    obtain rfl := isq_unique hr1 hr2
    exact ⟨_, _, rfl, ⟨u, v, rfl, rfl⟩, hb, Holds.cons (hu.fact hd hb (by simp only at h3; omega)) (holds1 (hv.fact hd hb (by simp only at h3; omega)))⟩⟩
end

end Go.Proofs.YtlpfkbkpnljieaaGreat
