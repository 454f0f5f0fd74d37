
/- Arguments that are structures: what stands in them. -/
import Derived.Test.YtaafmafdnnjmdaaVx
import Derived.ChangeSame
set_option linter.unusedSimpArgs false
set_option linter.unusedVariables false
namespace Go.Proofs.Ytaafmafdnnjmdaa
open Go.RowKit Go.ChangeShapes Go.WideShapes

section
variable {H : Type} {enc : TypeId × Value → H} {P : Program} {w : World}

end
end Go.Proofs.Ytaafmafdnnjmdaa
