/- Plain laws, second part: shifts down. -/
import Derived.Test.YtnjohlimjbmkgaaMath
namespace Go.Proofs.Ytnjohlimjbmkgaa

theorem down_digit {B P Q m y R : Nat} (hB : B = P * Q) (hP : 0 < P) : (m + B * (y + B * R)) / P % B = (m + B * y) / P % B := by
  have e : m + B * (y + B * R) = (m + B * y) + P * (B * (Q * R)) := by subst hB; grind
  rw [e, Nat.add_mul_div_left _ _ hP, Nat.add_mul_mod_self_left]

theorem down_step {B P Q k x y : Nat} {o l : List Nat} (hB : B = P * Q) (hP : 0 < P) (hB0 : 0 < B) (hlen : o.length = k) (hk : k < l.length) (hx : dg l k = x) (hy : dg l (k + 1) = y) (hl : ∀ d ∈ l, d < B)
    (h : val B o + B ^ k * (val B (l.drop k) / P) = val B l / P) :
    val B (o ++ [(x + y * B) / P % B]) + B ^ (k + 1) * (val B (l.drop (k + 1)) / P) = val B l / P := by
  have e1 : val B (l.drop k) = x + B * val B (l.drop (k + 1)) := by
    rw [List.drop_eq_getElem_cons hk, val_cons, ← dg_of hk, hx]
  have hx' : x < B := by rw [← hx]; exact dg_lt hl hB0 k
  obtain ⟨R, e2⟩ : ∃ R, val B (l.drop (k + 1)) = y + B * R := by
    by_cases h2 : k + 1 < l.length
    · exact ⟨val B (l.drop (k + 1 + 1)), by rw [List.drop_eq_getElem_cons h2, val_cons, ← dg_of h2, hy]⟩
    · refine ⟨0, ?_⟩
      rw [List.drop_eq_nil_of_le (by omega), ← hy, dg_big (by omega)]; rfl
  have e3 : val B (l.drop k) / P % B = (x + y * B) / P % B := by rw [e1, e2, down_digit hB hP, Nat.mul_comm y B]
  have e4 : val B (l.drop k) / P / B = val B (l.drop (k + 1)) / P := by
    rw [Nat.div_div_eq_div_mul, Nat.mul_comm P B, ← Nat.div_div_eq_div_mul, e1, Nat.add_mul_div_left _ _ hB0, Nat.div_eq_of_lt hx', Nat.zero_add]
  rw [val_snoc, hlen, ← e3, ← e4, ← h, Nat.pow_succ]
  have h1 := Nat.div_add_mod (val B (l.drop k) / P) B
  generalize val B (l.drop k) / P = D at *
  generalize D / B = u at *
  generalize D % B = v at *
  rw [← h1]
  grind

theorem val_drop (B : Nat) (hB : 0 < B) (l : List Nat) (k : Nat) (hl : ∀ d ∈ l, d < B) : val B (l.drop k) = val B l / B ^ k := by
  by_cases hk : k ≤ l.length
  · have h1 := val_take_drop B l k hk
    have h2 := val_lt B (l.take k) (fun d hd => hl d (List.mem_of_mem_take hd))
    simp only [List.length_take, Nat.min_eq_left hk] at h2
    rw [h1, Nat.add_mul_div_left _ _ (Nat.pow_pos hB), Nat.div_eq_of_lt h2, Nat.zero_add]
  · have h1 := val_lt B l hl
    have h2 : B ^ l.length ≤ B ^ k := Nat.pow_le_pow_right hB (by omega)
    rw [List.drop_eq_nil_of_le (by omega), Nat.div_eq_of_lt (by omega)]; rfl

theorem dg_drop (l : List Nat) (k i : Nat) : dg (l.drop k) i = dg l (k + i) := by simp [dg]

theorem pow_split {sh : Nat} (hs : sh ≤ 32) : 4294967296 = 2 ^ sh * 2 ^ (32 - sh) := by
  rw [← Nat.pow_add, show sh + (32 - sh) = 32 from by omega]

end Go.Proofs.Ytnjohlimjbmkgaa
