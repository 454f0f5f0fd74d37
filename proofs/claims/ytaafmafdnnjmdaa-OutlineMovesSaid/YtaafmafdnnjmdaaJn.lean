/- law09: more contracts that its laws want. -/
import Derived.Test.YtaafmafdnnjmdaaOl
import Derived.Test.YtaafmafdnnjmdaaPv
import Derived.Test.YtaafmafdnnjmdaaVp
import Derived.Test.YtaafmafdnnjmdaaRows
import Derived.JoinedOf
import Derived.ProofKit
set_option linter.unusedSimpArgs false
set_option linter.unusedVariables false
namespace Go.Proofs.Ytaafmafdnnjmdaa
open Go.RowKit Go.IntWalk

section
variable {T : Tb} {P : Program} {fin : VS → List Fact → Prop} {c : Cfg} {Γ : List Fact}
/-- Where a row lies, if it isn't empty. -/
theorem W.ad (ao : Option Addr) {xs : List Value} [h : Has (RA ao) xs Γ] (hm : midOps c.k = false) (hc : (xs ≠ [] → ∃ b off, ao = some ⟨b, off, none⟩) → W T P fin c Γ) : W T P fin c Γ :=
  W.elim (α := Unit) (fun _ => xs ≠ [] → ∃ b off, ao = some ⟨b, off, none⟩) (fun _ => []) hm (fun I w _ hh => ⟨(), fun hne => by
    obtain ⟨b, off, ha, _⟩ := h.p hh hne
    exact ⟨b, off, ha⟩, Holds.nil _ _⟩) (fun _ hb => hc hb)
end
section
variable {Γ : List Fact} {L M : Nat}
theorem dpc_ne {l : List Dp} (h : 0 < l.length) : l.flatMap dpc ≠ [] := by
  intro e
  have := dp_len l
  rw [e] at this
  simp at this
  omega
theorem entO2 {B L' : Nat} {x y : Sw} {X Y : Sn} [h : Has (RowF B) (svc x ++ svc y) Γ] [h1 : Has (SF x) (L, X) Γ] [h2 : Has (SF y) (M, Y) Γ] (hL : L ≤ L' ∧ M ≤ L') : ∀ (I : Blk) (w : World), DataOK tb I w → Holds Γ I w → (OL PlR (some ⟨B, 0, none⟩) (L', [⟨x, y, X, Y⟩])).p I w := fun I w hd hh => by
  refine ⟨fun e he => ?_, RA.of_row (h.p hh) (fun i v hv => ?_)⟩
  · simp only [List.mem_cons, List.not_mem_nil, or_false] at he
    subst he
    exact ⟨(entS' (L' := L') (S' := X) hL.1 rfl I w hd hh).h0', (entS' (L' := L') (S' := Y) hL.2 rfl I w hd hh).h0'⟩
  · simpa [PlR] using hv
theorem p_olfewP (ao : Option Addr) (n c : Nat) (pts ps : List Dp) (width kind bg en : Int) [Has (RA ao) (pts.flatMap dpc) Γ] (hn : n = pts.length) (hc : n ≤ c) (hps : ps = pts.take 12) :
    PCalls tb Try.prog 10 [.agg #[.slice ao n c, .int .i64 width, .int .i64 kind, .int .i64 bg, .int .i64 en]] Γ (fun v Δ => ∃ n' c', v = .agg #[.slice ao n' c', .int .i64 width, .int .i64 kind, .int .i64 bg, .int .i64 en] ∧ n' = ps.length ∧ n' ≤ c' ∧ Δ = [RA ao (ps.flatMap dpc)]) := by
  subst hps
  exact p_olfew ao n c pts width kind bg en hn hc
end
theorem take_dp {ps : List Dp} {i : Nat} {p : Dp} (h : ps[i]? = some p) (f : Dp → Dp) : ((ps.take (i + 1)).map f).flatMap dpc = ((ps.take i).map f).flatMap dpc ++ dpc (f p) := by
  rw [take_snoc h, List.map_append, List.flatMap_append]
  simp
end Go.Proofs.Ytaafmafdnnjmdaa


/- What the rows ask of the whole program: said once, each in its own theorem (the kernel's memory). -/
set_option linter.unusedSimpArgs false
set_option linter.unusedVariables false
namespace Go.Proofs.Ytaafmafdnnjmdaa

theorem jn_enter : Try.prog.mayEnter = true := by kernel_rfl
theorem jn_lift : (false == Try.prog.liftsFinal) = true := by kernel_rfl
theorem jn_make : (Try.prog.make == some Rows.outlineErrorsRow.make) = true := by kernel_rfl
theorem jn_laid : laidOutB Try.prog = true := by kernel_rfl
theorem jn_maps : mapsRowed Try.prog = true := by kernel_rfl
theorem jn_own : ownKnob Try.prog.godebug = none := by kernel_rfl

end Go.Proofs.Ytaafmafdnnjmdaa
