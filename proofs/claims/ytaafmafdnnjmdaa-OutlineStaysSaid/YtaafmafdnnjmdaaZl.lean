
/- What zed's laws share. -/
import Derived.Test.YtaafmafdnnjmdaaZed
set_option linter.unusedSimpArgs false
set_option linter.unusedVariables false
namespace Go.Proofs.Ytaafmafdnnjmdaa
open Go.RowKit Go.IntWalk

theorem fewS_of {s : ByteArray} {n : Nat} (h : s.size ≤ n) : fewS s n = s := by unfold fewS; rw [if_neg (by omega)]

section
variable {fin : VS → List Fact → Prop} {Γ : List Fact} {L M : Nat}

/-- A text's number, of its first signs. -/
def zfv (s : ByteArray) : Int := zval (fewS s 150)
def zok (s : ByteArray) : Bool := zerr (fewS s 150) == 0

end

end Go.Proofs.Ytaafmafdnnjmdaa
