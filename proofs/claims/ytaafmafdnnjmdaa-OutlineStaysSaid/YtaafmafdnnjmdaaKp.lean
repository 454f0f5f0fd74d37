
/- Two points of the grid that are the same. -/
import Derived.Test.YtaafmafdnnjmdaaSu
import Derived.Test.YtaafmafdnnjmdaaWe
set_option linter.unusedSimpArgs false
set_option linter.unusedVariables false
namespace Go.Proofs.Ytaafmafdnnjmdaa
open Go.RowKit Go.IntWalk

theorem key_int (d : Nat) {a : Int} (h : (Lit.int .i64 a).wf = true) : Try.prog.keyLits (d + 1) 3 [.int .i64 a] = some [.int .i64 a] := by
  have hu := Try.underlying3
  unfold Program.keyLits
  rw [hu]
  simp [h]
theorem key_pt {a b : Int} (ha : (Lit.int .i64 a).wf = true) (hb : (Lit.int .i64 b).wf = true) : (keyOf Try.prog 25 (.agg #[.int .i64 a, .int .i64 b])).isSome = true := by
  have hu := Try.underlying25
  have h1 : Try.prog.keyType 25 = true := by kernel_rfl
  have h2 : (Value.agg #[.int .i64 a, .int .i64 b]).formed Try.prog 25 = true := by kernel_rfl
  obtain ⟨d, hd⟩ : ∃ d, Try.prog.types.size = d + 1 := ⟨Try.prog.types.size - 1, by kernel_rfl⟩
  have hc : Try.prog.cellsOf 25 = 2 := by kernel_rfl
  have hci : Try.prog.cellsOf 3 = 1 := by kernel_rfl
  have hs : Try.prog.keyLits (d + 1 + 1) 25 [.int .i64 a, .int .i64 b] = some [.int .i64 a, .int .i64 b] := by
    unfold Program.keyLits
    rw [hu]
    simp [hc, hci, key_int d ha, key_int d hb]
  unfold keyOf
  rw [hu, h1, h2, hd]
  simp only [Bool.and_self, if_true, Value.cells]
  rw [hs]
  rfl
theorem wf_of {a : Int} (h : -9223372036854775808 ≤ a ∧ a ≤ 9223372036854775807) : (Lit.int .i64 a).wf = true := by
  simpa [Lit.wf, IntKind.min, IntKind.max, IntKind.signed, IntKind.bits] using h
end Go.Proofs.Ytaafmafdnnjmdaa
