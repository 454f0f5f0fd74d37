/- What the rows ask of the whole program: said once, each in its own theorem (the kernel's memory). -/
import Derived.Test.YtlpfkbkpnljieaaGreatRows
import Derived.JoinedOf
import Derived.ProofKit
set_option linter.unusedSimpArgs false
set_option linter.unusedVariables false
namespace Go.Proofs.YtlpfkbkpnljieaaGreat

theorem jn_enter : Tryz.prog.mayEnter = true := by kernel_rfl
theorem jn_lift : (false == Tryz.prog.liftsFinal) = true := by kernel_rfl
theorem jn_make : (Tryz.prog.make == some Rows.octantThenRow.make) = true := by kernel_rfl
theorem jn_laid : laidOutB Tryz.prog = true := by kernel_rfl
theorem jn_maps : mapsRowed Tryz.prog = true := by kernel_rfl
theorem jn_own : ownKnob Tryz.prog.godebug = none := by kernel_rfl

end Go.Proofs.YtlpfkbkpnljieaaGreat
