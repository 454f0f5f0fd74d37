
/- The law's helpers: few, same. -/
import Derived.Test.YthjhcddkdplegaaProg
import Derived.Test.YthjhcddkdplegaaRefU
import Derived.Test.YthjhcddkdplegaaNatO
import Derived.Test.YthjhcddkdplegaaBase
import Derived.Deep.RegionHeld3
import Derived.Deep.RegionWith
import Derived.Deep.DrawnRows
import Derived.BigRegion
namespace Go.Proofs.Ythjhcddkdplegaa
open Go.RowKit

theorem parse200 (s : ByteArray) (w : World) :
    Calls Try.prog 54 #[.string (fewS s 200)] w fun e w' =>
      ∃ u : Sl, e = .returned (.tuple #[.agg #[.slice u.ao u.n u.c], .int .i64 (perr (fewS s 200))]) ∧ NatS w' u (pval (fewS s 200)) ∧ u.n ≤ 200 ∧ Below w.heap.size w w' := by
  have h := fewS_le s 200
  refine (parse_spec (fewS s 200) w (by omega)).mono ?_
  rintro e w' ⟨u, h1, h2, h3, h4, h5⟩
  exact ⟨u, h1, h2, by omega, h5⟩

theorem rparse200 (s : ByteArray) (w : World) :
    Calls Try.prog 57 #[.string (fewS s 200)] w fun e w' =>
      ∃ u : Sl, e = .returned (.tuple #[.agg #[.slice u.ao u.n u.c], .int .i64 (perr (fewS s 200))]) ∧ RefS w' u (pval (fewS s 200)) ∧ u.n ≤ 200 ∧ Below w.heap.size w w' := by
  have h := fewS_le s 200
  refine (rparse_spec (fewS s 200) w (by omega)).mono ?_
  rintro e w' ⟨u, h1, h2, h3, h4, h5⟩
  exact ⟨u, h1, h2, by omega, h5⟩

/-- Are both texts read? -/
def ok2 (s t : ByteArray) : Bool := (perr (fewS s 200) == 0) && (perr (fewS t 200) == 0)

/-- What 'two' answers. -/
def TwoPost (w : World) (s t : ByteArray) (e : Ending) (w' : World) : Prop := ∃ a b x y : Sl,
  e = .returned (.tuple #[.agg #[.slice a.ao a.n a.c], .agg #[.slice b.ao b.n b.c], .agg #[.slice x.ao x.n x.c], .agg #[.slice y.ao y.n y.c], .bool (ok2 s t)]) ∧
  NatS w' a (pval (fewS s 200)) ∧ NatS w' b (pval (fewS t 200)) ∧ RefS w' x (pval (fewS s 200)) ∧ RefS w' y (pval (fewS t 200)) ∧ a.n ≤ 200 ∧ b.n ≤ 200 ∧ x.n ≤ 200 ∧ y.n ≤ 200 ∧ Below w.heap.size w w'


end Go.Proofs.Ythjhcddkdplegaa
