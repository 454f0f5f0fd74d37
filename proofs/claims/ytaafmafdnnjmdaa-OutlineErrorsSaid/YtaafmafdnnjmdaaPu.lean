
/- Paths of points: a path that is twice as great. -/
import Derived.Test.YtaafmafdnnjmdaaPf
set_option linter.unusedSimpArgs false
set_option linter.unusedVariables false
namespace Go.Proofs.Ytaafmafdnnjmdaa

theorem oerr_zero {pts : List Dp} {width kind bg en : Int} (h : oerr pts width kind bg en = 0) : pts.length ≤ 8191 ∧ argBad width kind bg en = false ∧ pts.any outP = false ∧ 2 ≤ (corn pts).1.length ∧ backs (corn pts).2 = false := by
  unfold oerr at h
  split at h
  · simp at h
  · split at h
    · simp at h
    · split at h
      · simp at h
      · split at h
        · simp at h
        · split at h
          · simp at h
          · refine ⟨by omega, by simp_all, by simp_all, by omega, by simp_all⟩
theorem argBad_good {width kind bg en : Int} : argBad width kind bg en = false ↔ (kind = 0 ∨ kind = 1 ∨ kind = 2 ∨ kind = 4) ∧ 1 ≤ width ∧ width ≤ 2147483647 ∧ -2147483647 ≤ bg ∧ bg ≤ 2147483647 ∧ -2147483647 ≤ en ∧ en ≤ 2147483647 := by
  simp only [argBad, Bool.or_eq_false_iff, Bool.not_eq_false', Bool.or_eq_true, decide_eq_true_eq, decide_eq_false_iff_not]
  omega
end Go.Proofs.Ytaafmafdnnjmdaa
namespace Go.Proofs.Ytaafmafdnnjmdaa
end Go.Proofs.Ytaafmafdnnjmdaa
