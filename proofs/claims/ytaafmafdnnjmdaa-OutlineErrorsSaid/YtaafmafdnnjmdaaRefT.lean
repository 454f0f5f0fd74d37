
/- The reference's powers of two, up to 9000. -/
import Derived.Test.YtaafmafdnnjmdaaProg
import Derived.Test.YtaafmafdnnjmdaaRefX
import Derived.Test.YtaafmafdnnjmdaaPn
import Derived.Test.YtaafmafdnnjmdaaRefK
import Derived.Test.YtaafmafdnnjmdaaPr
import Derived.Deep.DeepCutAuto
import Derived.Deep.LoopGhost
set_option linter.unusedSimpArgs false
set_option linter.unusedVariables false
namespace Go.Proofs.Ytaafmafdnnjmdaa
open Go.RowKit

section
variable {Γ : List Fact} {L M x y : Nat}
end
end Go.Proofs.Ytaafmafdnnjmdaa
