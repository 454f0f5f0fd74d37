/- Two points of the grid that are the same. -/
import Derived.Test.YtaafmafdnnjmdaaSu
import Derived.Test.YtaafmafdnnjmdaaWe
set_option linter.unusedSimpArgs false
set_option linter.unusedVariables false
namespace Go.Proofs.Ytaafmafdnnjmdaa
open Go.RowKit Go.IntWalk

end Go.Proofs.Ytaafmafdnnjmdaa
