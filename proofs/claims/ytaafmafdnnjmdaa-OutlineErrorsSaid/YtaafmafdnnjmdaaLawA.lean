
/- The law's helpers: few, same. -/
import Derived.Test.YtaafmafdnnjmdaaProg
import Derived.Test.YtaafmafdnnjmdaaRefU
import Derived.Test.YtaafmafdnnjmdaaNatO
import Derived.Test.YtaafmafdnnjmdaaBase
import Derived.Deep.RegionHeld3
import Derived.Deep.RegionWith
import Derived.Deep.DrawnRows
import Derived.BigRegion
namespace Go.Proofs.Ytaafmafdnnjmdaa
open Go.RowKit

end Go.Proofs.Ytaafmafdnnjmdaa
