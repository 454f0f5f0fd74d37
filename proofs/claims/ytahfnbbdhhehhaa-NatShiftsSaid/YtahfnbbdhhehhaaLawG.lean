/- How large a text's number is. -/
import Derived.Test.YtahfnbbdhhehhaaParseS
namespace Go.Proofs.Ytahfnbbdhhehhaa
open Go.RowKit

theorem dval_lt_pow : ∀ (n : Nat) (l : List Nat), l.length = n → (∀ d ∈ l, d ≤ 57) → dval l < 10 ^ n := by
  intro n
  induction n with
  | zero =>
    intro l hl _
    have : l = [] := List.length_eq_zero_iff.1 hl
    subst this
    simp [dval]
  | succ n ih =>
    intro l hl h
    rcases List.eq_nil_or_concat l with h0 | ⟨m, d, h0⟩
    · subst h0; simp at hl
    · have h0' : l = m ++ [d] := by simpa using h0
      subst h0'
      rw [dval_append, Nat.pow_succ]
      have h1 := ih m (by simpa using hl) (fun e he => h e (by simp [he]))
      have h2 := h d (by simp)
      omega

theorem pval_lt (s : ByteArray) : pval s < 2 ^ (4 * s.size) := by
  unfold pval
  split
  · rename_i hg
    have h1 : ∀ d ∈ bs s, d ≤ 57 := by
      have := hg
      simp only [good, Bool.and_eq_true, List.all_eq_true, decide_eq_true_eq] at this
      intro d hd
      exact (this.1.2 d hd).2
    have h2 := dval_lt_pow (bs s).length (bs s) rfl h1
    have h3 : (bs s).length = s.size := by simp [bs]
    rw [h3] at h2
    refine Nat.lt_of_lt_of_le h2 ?_
    rw [Nat.pow_mul]
    exact Nat.pow_le_pow_left (by decide) _
  · exact Nat.two_pow_pos _

theorem few_down {s : ByteArray} {n k : Nat} (h : s.size ≤ n) (hk : 4 * n ≤ k) : pval s / 2 ^ k = 0 :=
  Nat.div_eq_of_lt (Nat.lt_of_lt_of_le (pval_lt s) (Nat.pow_le_pow_right (by decide) (by omega)))

theorem up_down (x k : Nat) : x * 2 ^ k / 2 ^ k = x := Nat.mul_div_cancel _ (Nat.two_pow_pos k)

end Go.Proofs.Ytahfnbbdhhehhaa
