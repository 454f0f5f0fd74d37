/- Two points of the grid that are the same. -/
import Derived.Test.YtaafmafdnnjmdaaGreatSu
import Derived.Test.YtaafmafdnnjmdaaGreatOo
set_option linter.unusedSimpArgs false
set_option linter.unusedVariables false
namespace Go.Proofs.YtaafmafdnnjmdaaGreat
open Go.RowKit Go.IntWalk

end Go.Proofs.YtaafmafdnnjmdaaGreat
