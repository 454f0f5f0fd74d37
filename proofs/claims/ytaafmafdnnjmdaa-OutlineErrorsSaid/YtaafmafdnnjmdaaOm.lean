
/- law09: more contracts that its laws want. -/
import Derived.Test.YtaafmafdnnjmdaaOl
import Derived.Test.YtaafmafdnnjmdaaPu
import Derived.Test.YtaafmafdnnjmdaaVp
set_option linter.unusedSimpArgs false
set_option linter.unusedVariables false
namespace Go.Proofs.Ytaafmafdnnjmdaa
open Go.RowKit Go.IntWalk

section
variable {T : Tb} {P : Program} {fin : VS → List Fact → Prop} {c : Cfg} {Γ : List Fact}
/-- Where a row lies, if it isn't empty. -/
theorem W.ad (ao : Option Addr) {xs : List Value} [h : Has (RA ao) xs Γ] (hm : midOps c.k = false) (hc : (xs ≠ [] → ∃ b off, ao = some ⟨b, off, none⟩) → W T P fin c Γ) : W T P fin c Γ :=
  W.elim (α := Unit) (fun _ => xs ≠ [] → ∃ b off, ao = some ⟨b, off, none⟩) (fun _ => []) hm (fun I w _ hh => ⟨(), fun hne => by
    obtain ⟨b, off, ha, _⟩ := h.p hh hne
    exact ⟨b, off, ha⟩, Holds.nil _ _⟩) (fun _ hb => hc hb)
end
section
variable {Γ : List Fact} {L M : Nat}
end
end Go.Proofs.Ytaafmafdnnjmdaa
