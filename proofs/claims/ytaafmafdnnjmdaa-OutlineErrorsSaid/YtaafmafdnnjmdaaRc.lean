
/- The contracts of the reference's numbers with two roots. -/
import Derived.Test.YtaafmafdnnjmdaaSu
set_option linter.unusedSimpArgs false
set_option linter.unusedVariables false
namespace Go.Proofs.Ytaafmafdnnjmdaa
open Go.RowKit Go.IntWalk

section
variable {fin : VS → List Fact → Prop} {Γ : List Fact} {L M K : Nat}
theorem s_frac (a b : Int) (hb : 0 < b) (h1 : -9223372036854775808 ≤ a) (h2 : a < 9223372036854775808) (h3 : b < 9223372036854775808) :
    PCalls tb Try.prog 35 [.int .i64 a, .int .i64 b] Γ (PPost 6 (Rat.divInt a b)) := by
  refine PCalls.of_W tbOk Try.func35 rfl (by kernel_rfl) ?_
  refine W.cl [] (by kernel_rfl) (p_yof a (by omega) (by omega)) ?_
  rintro _ _ ⟨S1, t1, rfl, rfl⟩   -- a
  refine W.cl [] (by kernel_rfl) (p_yof b (by omega) (by omega)) ?_
  rintro _ _ ⟨S2, t2, rfl, rfl⟩   -- b
  exact W.r [] (pv S1 t1 S2 t2) (by kernel_rfl) ⟨_, _, _, _, rfl, rfl⟩ (entYP (by omega) (by omega) hb rfl)
end
end Go.Proofs.Ytaafmafdnnjmdaa
