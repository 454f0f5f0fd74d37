/- The contracts of the reference's numbers with two roots. -/
import Derived.Test.YtlpfkbkpnljieaaGreatSu
set_option linter.unusedSimpArgs false
set_option linter.unusedVariables false
namespace Go.Proofs.YtlpfkbkpnljieaaGreat
open Go.RowKit Go.IntWalk

section
variable {fin : VS → List Fact → Prop} {Γ : List Fact} {L M K : Nat}
end
end Go.Proofs.YtlpfkbkpnljieaaGreat
