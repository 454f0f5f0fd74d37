
/- Paths of points: points that change nothing. -/
import Derived.Test.YtaafmafdnnjmdaaPu
set_option linter.unusedSimpArgs false
set_option linter.unusedVariables false
namespace Go.Proofs.Ytaafmafdnnjmdaa

end Go.Proofs.Ytaafmafdnnjmdaa
