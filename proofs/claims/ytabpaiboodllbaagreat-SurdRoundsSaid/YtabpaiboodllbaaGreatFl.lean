
/- What frac's laws share. -/
import Derived.Test.YtabpaiboodllbaaGreatFt
set_option linter.unusedSimpArgs false
set_option linter.unusedVariables false
namespace Go.Proofs.YtabpaiboodllbaaGreat
open Go.RowKit Go.IntWalk

/-- A text's number, of its first signs. -/
def qfv (s : ByteArray) : Rat := qval (fewS s 80)
def qok (s : ByteArray) : Bool := qerr (fewS s 80) == 0

section
variable {fin : VS → List Fact → Prop} {Γ : List Fact} {L M : Nat}

theorem pf_sign {S R : Int} {t r : Sl} {L : Nat} {q : Rat} {I : Blk} {w : World} (h : (PF S t R r (L, q)).p I w) : S = q.num.sign := by
  obtain ⟨x, y, h1, h2, h3, h4⟩ := h
  rw [h1.2]
  exact sign_of h3 h4
end

end Go.Proofs.YtabpaiboodllbaaGreat
