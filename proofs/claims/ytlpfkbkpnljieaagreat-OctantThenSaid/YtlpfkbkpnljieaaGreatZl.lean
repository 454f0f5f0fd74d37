/- What zed's laws share. -/
import Derived.Test.YtlpfkbkpnljieaaGreatZed
set_option linter.unusedSimpArgs false
set_option linter.unusedVariables false
namespace Go.Proofs.YtlpfkbkpnljieaaGreat
open Go.RowKit Go.IntWalk

section
variable {fin : VS → List Fact → Prop} {Γ : List Fact} {L M : Nat}

end

end Go.Proofs.YtlpfkbkpnljieaaGreat
