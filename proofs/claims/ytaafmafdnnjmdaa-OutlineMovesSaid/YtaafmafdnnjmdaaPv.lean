/- Paths of points: a path that is twice as great. -/
import Derived.Test.YtaafmafdnnjmdaaPf
set_option linter.unusedSimpArgs false
set_option linter.unusedVariables false
namespace Go.Proofs.Ytaafmafdnnjmdaa

theorem oerr_zero {pts : List Dp} {width kind bg en : Int} (h : oerr pts width kind bg en = 0) : pts.length ≤ 8191 ∧ argBad width kind bg en = false ∧ pts.any outP = false ∧ 2 ≤ (corn pts).1.length ∧ backs (corn pts).2 = false := by
  unfold oerr at h
  split at h
  · simp at h
  · split at h
    · simp at h
    · split at h
      · simp at h
      · split at h
        · simp at h
        · split at h
          · simp at h
          · refine ⟨by omega, by simp_all, by simp_all, by omega, by simp_all⟩
theorem oerr_zero_of {pts : List Dp} {width kind bg en : Int} (h : pts.length ≤ 8191 ∧ argBad width kind bg en = false ∧ pts.any outP = false ∧ 2 ≤ (corn pts).1.length ∧ backs (corn pts).2 = false) : oerr pts width kind bg en = 0 := by
  obtain ⟨h1, h2, h3, h4, h5⟩ := h
  unfold oerr
  rw [if_neg (by omega), h2, if_neg (by decide), h3, if_neg (by decide), if_neg (by omega), h5, if_neg (by decide)]
theorem argBad_good {width kind bg en : Int} : argBad width kind bg en = false ↔ (kind = 0 ∨ kind = 1 ∨ kind = 2 ∨ kind = 4) ∧ 1 ≤ width ∧ width ≤ 2147483647 ∧ -2147483647 ≤ bg ∧ bg ≤ 2147483647 ∧ -2147483647 ≤ en ∧ en ≤ 2147483647 := by
  simp only [argBad, Bool.or_eq_false_iff, Bool.not_eq_false', Bool.or_eq_true, decide_eq_true_eq, decide_eq_false_iff_not]
  omega
theorem out_small {k : Int} {p : Dp} (h : inD k p) (hk : k ≤ 2147483647) : outP p = false := by
  unfold inD at h
  simp only [outP, outB, Bool.or_eq_false_iff, decide_eq_false_iff_not]
  omega
theorem any_small {k : Int} {pts : List Dp} (h : ∀ p ∈ pts, inD k p) (hk : k ≤ 2147483647) : pts.any outP = false := by
  cases ho : pts.any outP with
  | false => rfl
  | true =>
    obtain ⟨p, hp, h2⟩ := List.any_eq_true.1 ho
    rw [out_small (h p hp) hk] at h2
    simp at h2
end Go.Proofs.Ytaafmafdnnjmdaa
namespace Go.Proofs.Ytaafmafdnnjmdaa
theorem miters_le (h : Rat) : ∀ (c w : List Dp), (miters h c w).length ≤ w.length
  | [], w => by simp [miters]
  | p :: c, [] => by simp [miters]
  | p :: c, [d] => by simp [miters]
  | p :: c, d :: e :: w => by
    have := miters_le h c (e :: w)
    simp only [miters, List.length_cons] at *
    omega
theorem tip_le (p d : Dp) (h b : Rat) (r : Bool) : (tipL p d h b r).length ≤ 5 := by
  cases r <;> simp [tipL]
theorem places_le (c w : List Dp) (width kind bg en : Int) : (places c w width kind bg en).length ≤ 2 * w.length + 20 := by
  unfold places
  have h1 := miters_le (Rat.divInt width 2) c.tail w
  have h2 := miters_le (-Rat.divInt width 2) c.tail w
  have h3 := tip_le (c.getD 0 ⟨0, 0⟩) (negD (w.getD 0 ⟨0, 0⟩)) (Rat.divInt width 2) (endsOf kind bg en (Rat.divInt width 2)).1 (kind == 1)
  have h4 := tip_le (c.getD (c.length - 1) ⟨0, 0⟩) (w.getD (w.length - 1) ⟨0, 0⟩) (Rat.divInt width 2) (endsOf kind bg en (Rat.divInt width 2)).2 (kind == 1)
  simp only [List.length_append, List.length_reverse, List.length_drop, List.length_take]
  omega
theorem push_le (s : List Dp × List Dp) (p : Dp) : (push s p).2.length ≤ s.2.length + 1 := by
  obtain ⟨R, w⟩ := s
  cases R with
  | nil => simp [push]
  | cons l r =>
    simp only [push]
    split
    · simp
    · split <;> simp
theorem corn_le' : ∀ (pts : List Dp) (s : List Dp × List Dp), (pts.foldl push s).2.length ≤ s.2.length + pts.length
  | [], s => by simp
  | p :: r, s => by
    have := corn_le' r (push s p)
    have := push_le s p
    simp only [List.foldl_cons, List.length_cons]
    omega
theorem corn_le (pts : List Dp) : (corn pts).2.length ≤ pts.length := by
  have := corn_le' pts ([], [])
  simpa [corn] using this
end Go.Proofs.Ytaafmafdnnjmdaa


/- Paths of points: points that change nothing. -/
set_option linter.unusedSimpArgs false
set_option linter.unusedVariables false
namespace Go.Proofs.Ytaafmafdnnjmdaa

end Go.Proofs.Ytaafmafdnnjmdaa
