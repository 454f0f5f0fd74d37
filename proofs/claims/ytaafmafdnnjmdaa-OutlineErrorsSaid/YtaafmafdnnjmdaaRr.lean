
/- The reference's square, fold, bounds, between, less. The reference's sign: it is the sign, where its search ends. Numbers out of texts: the reference's search for their signs ends. The reference's floor and nearest whole number: they are the program's. The reference's floor and nearest whole number, by bits. -/
import Derived.Test.YtaafmafdnnjmdaaRk
import Derived.Test.YtaafmafdnnjmdaaRefT
import Derived.Test.YtaafmafdnnjmdaaRc
import Derived.Test.YtaafmafdnnjmdaaSu
import Derived.Test.YtaafmafdnnjmdaaSy
set_option linter.unusedSimpArgs false
set_option linter.unusedVariables false
namespace Go.Proofs.Ytaafmafdnnjmdaa
open Go.RowKit Go.IntWalk

section
variable {fin : VS → List Fact → Prop} {Γ : List Fact} {L M K : Nat}
theorem W.pn {P : Program} {c : Cfg} (S : Int) (s : Sl) (R : Int) (t : Sl) {q : Rat} [h : Has (PF S s R t) (L, q) Γ] (hm : midOps c.k = false) (hk : S = q.num.sign → W tb P fin c Γ) : W tb P fin c Γ :=
  W.know _ hm (fun _ _ _ hh => by
    obtain ⟨n, d, h1, h2, hd, hq⟩ := h.p hh
    rw [h1.2]
    exact sign_of hd hq) hk
end
end Go.Proofs.Ytaafmafdnnjmdaa

set_option linter.unusedSimpArgs false
set_option linter.unusedVariables false
namespace Go.Proofs.Ytaafmafdnnjmdaa
open Go.RowKit Go.IntWalk

section
variable {fin : VS → List Fact → Prop} {Γ : List Fact} {L M K : Nat}
end
end Go.Proofs.Ytaafmafdnnjmdaa

set_option linter.unusedSimpArgs false
set_option linter.unusedVariables false
namespace Go.Proofs.Ytaafmafdnnjmdaa
open Go.RowKit Go.IntWalk

/-- A number of four parts so great. -/
def mdS (A D : Nat) (S : Sn) : Prop := md A D S.p ∧ md A D S.q ∧ md A D S.r ∧ md A D S.s
theorem mdS.sub {A D B E : Nat} {S T : Sn} (h : mdS A D S) (g : mdS B E T) : mdS (max A B + 1) (D + E) (S.sub T) :=
  ⟨h.1.sub g.1, h.2.1.sub g.2.1, h.2.2.1.sub g.2.2.1, h.2.2.2.sub g.2.2.2⟩
end Go.Proofs.Ytaafmafdnnjmdaa

set_option linter.unusedSimpArgs false
set_option linter.unusedVariables false
namespace Go.Proofs.Ytaafmafdnnjmdaa
open Go.RowKit Go.IntWalk

/-- The search for its sign ends. -/
def Sn.sep (S : Sn) : Prop := ¬ S.fold.nil → 0 < S.fold.lo 8192 ∨ S.fold.hi 8192 < 0
section
variable {fin : VS → List Fact → Prop} {Γ : List Fact} {L M K : Nat}
end
end Go.Proofs.Ytaafmafdnnjmdaa

set_option linter.unusedSimpArgs false
set_option linter.unusedVariables false
namespace Go.Proofs.Ytaafmafdnnjmdaa
open Go.RowKit Go.IntWalk

section
variable {fin : VS → List Fact → Prop} {Γ : List Fact} {L M K : Nat}
end
end Go.Proofs.Ytaafmafdnnjmdaa
