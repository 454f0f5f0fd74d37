
/- A path that came in: a row of points and four numbers. -/
import Derived.Test.YtaafmafdnnjmdaaVs
import Derived.Test.YtaafmafdnnjmdaaPo
import Derived.Deep.SlicePairs
set_option linter.unusedSimpArgs false
set_option linter.unusedVariables false
namespace Go.Proofs.Ytaafmafdnnjmdaa
open Go.RowKit Go.ChangeShapes Go.WideShapes

def intOf : Value → Int
  | .int _ z => z
  | _ => 0
section
variable {H : Type} {enc : TypeId × Value → H} {P : Program} {w : World}
end
end Go.Proofs.Ytaafmafdnnjmdaa
