/- Arguments that are structures: what stands in them. -/
import Derived.Test.YtlpfkbkpnljieaaGreatVx
import Derived.ChangeSame
set_option linter.unusedSimpArgs false
set_option linter.unusedVariables false
namespace Go.Proofs.YtlpfkbkpnljieaaGreat
open Go.RowKit Go.ChangeShapes Go.WideShapes

section
variable {H : Type} {enc : TypeId × Value → H} {P : Program} {w : World}

theorem cell_int {t : TypeId} {k : IntKind} {c : Value} {n : Nat} {y : DataW H × List MemPlace} (ht : P.underlying t = some (.int k)) (h : DataW.trod enc P w 0 (fun _ => true) true n t [c] = some y) : ∃ z, c = .int k z ∧ (Lit.int k z).wf = true := by
  obtain ⟨z, hc, _, hw⟩ := DataW.trod_int ht h
  simp at hc
  exact ⟨z, hc, hw⟩
theorem cell_str {t : TypeId} {c : Value} {n : Nat} {y : DataW H × List MemPlace} (ht : P.underlying t = some .string) (h : DataW.trod enc P w 0 (fun _ => true) true n t [c] = some y) : ∃ s : ByteArray, c = .string s ∧ s.size ≤ 9223372036854775807 := by
  obtain ⟨s, hc, _, hw⟩ := DataW.trod_string ht h
  simp at hc
  exact ⟨s, hc, hw⟩
theorem cell_bool {t : TypeId} {c : Value} {n : Nat} {y : DataW H × List MemPlace} (ht : P.underlying t = some .bool) (h : DataW.trod enc P w 0 (fun _ => true) true n t [c] = some y) : ∃ b, c = .bool b := by
  cases n with
  | zero => simp [DataW.trod] at h
  | succ n =>
    cases c <;> simp [DataW.trod, ht] at h
    exact ⟨_, rfl⟩
end
end Go.Proofs.YtlpfkbkpnljieaaGreat
