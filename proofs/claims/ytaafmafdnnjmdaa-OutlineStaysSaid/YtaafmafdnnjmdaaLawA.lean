
/- The law's helpers: few, same. -/
import Derived.Test.YtaafmafdnnjmdaaProg
import Derived.Test.YtaafmafdnnjmdaaRefU
import Derived.Test.YtaafmafdnnjmdaaNatO
import Derived.Test.YtaafmafdnnjmdaaBase
import Derived.Deep.RegionHeld3
import Derived.Deep.RegionWith
import Derived.Deep.DrawnRows
import Derived.BigRegion
namespace Go.Proofs.Ytaafmafdnnjmdaa
open Go.RowKit

/-- Are both texts read? -/
def ok2 (s t : ByteArray) : Bool := (perr (fewS s 200) == 0) && (perr (fewS t 200) == 0)

/-- What 'two' answers. -/
def TwoPost (w : World) (s t : ByteArray) (e : Ending) (w' : World) : Prop := ∃ a b x y : Sl,
  e = .returned (.tuple #[.agg #[.slice a.ao a.n a.c], .agg #[.slice b.ao b.n b.c], .agg #[.slice x.ao x.n x.c], .agg #[.slice y.ao y.n y.c], .bool (ok2 s t)]) ∧
  NatS w' a (pval (fewS s 200)) ∧ NatS w' b (pval (fewS t 200)) ∧ RefS w' x (pval (fewS s 200)) ∧ RefS w' y (pval (fewS t 200)) ∧ a.n ≤ 200 ∧ b.n ≤ 200 ∧ x.n ≤ 200 ∧ y.n ≤ 200 ∧ Below w.heap.size w w'


end Go.Proofs.Ytaafmafdnnjmdaa
