/- A text's length. -/
import Derived.Test.YtnjohlimjbmkgaaProg
import Derived.Test.YtnjohlimjbmkgaaNatR
import Derived.Test.YtnjohlimjbmkgaaRefF
namespace Go.Proofs.Ytnjohlimjbmkgaa
open Go.RowKit

theorem txt_dec_size {x k : Nat} (h : (dl x).length ≤ k) : (txt (dec x)).size ≤ k + 1 := by
  have e : (txt (dec x)).size = (dec x).length := by simp [txt, ByteArray.size]
  rw [e]
  unfold dec
  split
  · simp
  · simp; omega

theorem rdl_bound {w : World} {s : Sl} {x : Nat} (h : RefS w s x) : (dl x).length ≤ 4 * s.n := by
  refine dl_len _ _ ?_
  have := h.lt_pow
  rw [Nat.pow_mul]
  exact this

end Go.Proofs.Ytnjohlimjbmkgaa
