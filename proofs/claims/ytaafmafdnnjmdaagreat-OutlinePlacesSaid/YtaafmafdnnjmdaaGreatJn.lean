/- law09: more contracts that its laws want. -/
import Derived.Test.YtaafmafdnnjmdaaGreatOl
import Derived.Test.YtaafmafdnnjmdaaGreatPu
import Derived.Test.YtaafmafdnnjmdaaGreatVp
import Derived.Test.YtaafmafdnnjmdaaGreatRows
import Derived.JoinedOf
import Derived.ProofKit
set_option linter.unusedSimpArgs false
set_option linter.unusedVariables false
namespace Go.Proofs.YtaafmafdnnjmdaaGreat
open Go.RowKit Go.IntWalk

section
variable {T : Tb} {P : Program} {fin : VS → List Fact → Prop} {c : Cfg} {Γ : List Fact}
/-- Where a row lies, if it isn't empty. -/
theorem W.ad (ao : Option Addr) {xs : List Value} [h : Has (RA ao) xs Γ] (hm : midOps c.k = false) (hc : (xs ≠ [] → ∃ b off, ao = some ⟨b, off, none⟩) → W T P fin c Γ) : W T P fin c Γ :=
  W.elim (α := Unit) (fun _ => xs ≠ [] → ∃ b off, ao = some ⟨b, off, none⟩) (fun _ => []) hm (fun I w _ hh => ⟨(), fun hne => by
    obtain ⟨b, off, ha, _⟩ := h.p hh hne
    exact ⟨b, off, ha⟩, Holds.nil _ _⟩) (fun _ hb => hc hb)
end
section
variable {Γ : List Fact} {L M : Nat}
theorem dpc_ne {l : List Dp} (h : 0 < l.length) : l.flatMap dpc ≠ [] := by
  intro e
  have := dp_len l
  rw [e] at this
  simp at this
  omega
theorem p_olfewP (ao : Option Addr) (n c : Nat) (pts ps : List Dp) (width kind bg en : Int) [Has (RA ao) (pts.flatMap dpc) Γ] (hn : n = pts.length) (hc : n ≤ c) (hps : ps = pts.take 12) :
    PCalls tb Tryz.prog 4 [.agg #[.slice ao n c, .int .i64 width, .int .i64 kind, .int .i64 bg, .int .i64 en]] Γ (fun v Δ => ∃ n' c', v = .agg #[.slice ao n' c', .int .i64 width, .int .i64 kind, .int .i64 bg, .int .i64 en] ∧ n' = ps.length ∧ n' ≤ c' ∧ Δ = [RA ao (ps.flatMap dpc)]) := by
  subst hps
  exact p_olfew ao n c pts width kind bg en hn hc
end
end Go.Proofs.YtaafmafdnnjmdaaGreat


/- What the rows ask of the whole program: said once, each in its own theorem (the kernel's memory). -/
set_option linter.unusedSimpArgs false
set_option linter.unusedVariables false
namespace Go.Proofs.YtaafmafdnnjmdaaGreat

theorem jn_enter : Tryz.prog.mayEnter = true := by kernel_rfl
theorem jn_lift : (false == Tryz.prog.liftsFinal) = true := by kernel_rfl
theorem jn_make : (Tryz.prog.make == some Rows.outlinePlacesRow.make) = true := by kernel_rfl
theorem jn_laid : laidOutB Tryz.prog = true := by kernel_rfl
theorem jn_maps : mapsRowed Tryz.prog = true := by kernel_rfl
theorem jn_own : ownKnob Tryz.prog.godebug = none := by kernel_rfl

end Go.Proofs.YtaafmafdnnjmdaaGreat
