
/- What the rows ask of the whole program: said once, each in its own theorem (the kernel's memory). -/
import Derived.Test.YtaafmafdnnjmdaaRows
import Derived.JoinedOf
import Derived.ProofKit
set_option linter.unusedSimpArgs false
set_option linter.unusedVariables false
namespace Go.Proofs.Ytaafmafdnnjmdaa

theorem jn_enter : Try.prog.mayEnter = true := by kernel_rfl
theorem jn_lift : (false == Try.prog.liftsFinal) = true := by kernel_rfl
theorem jn_make : (Try.prog.make == some Rows.outlineErrorsRow.make) = true := by kernel_rfl
theorem jn_laid : laidOutB Try.prog = true := by kernel_rfl
theorem jn_maps : mapsRowed Try.prog = true := by kernel_rfl
theorem jn_own : ownKnob Try.prog.godebug = none := by kernel_rfl

end Go.Proofs.Ytaafmafdnnjmdaa
