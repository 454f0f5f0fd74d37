
/- law09: more contracts that its laws want. -/
import Derived.Test.YtaafmafdnnjmdaaOl
import Derived.Test.YtaafmafdnnjmdaaPu
import Derived.Test.YtaafmafdnnjmdaaVp
set_option linter.unusedSimpArgs false
set_option linter.unusedVariables false
namespace Go.Proofs.Ytaafmafdnnjmdaa
open Go.RowKit Go.IntWalk

section
variable {T : Tb} {P : Program} {fin : VS → List Fact → Prop} {c : Cfg} {Γ : List Fact}
/-- Where a row lies, if it isn't empty. -/
theorem W.ad (ao : Option Addr) {xs : List Value} [h : Has (RA ao) xs Γ] (hm : midOps c.k = false) (hc : (xs ≠ [] → ∃ b off, ao = some ⟨b, off, none⟩) → W T P fin c Γ) : W T P fin c Γ :=
  W.elim (α := Unit) (fun _ => xs ≠ [] → ∃ b off, ao = some ⟨b, off, none⟩) (fun _ => []) hm (fun I w _ hh => ⟨(), fun hne => by
    obtain ⟨b, off, ha, _⟩ := h.p hh hne
    exact ⟨b, off, ha⟩, Holds.nil _ _⟩) (fun _ hb => hc hb)
end
section
variable {Γ : List Fact} {L M : Nat}
theorem dpc_ne {l : List Dp} (h : 0 < l.length) : l.flatMap dpc ≠ [] := by
  intro e
  have := dp_len l
  rw [e] at this
  simp at this
  omega
theorem entO2 {B L' : Nat} {x y : Sw} {X Y : Sn} [h : Has (RowF B) (svc x ++ svc y) Γ] [h1 : Has (SF x) (L, X) Γ] [h2 : Has (SF y) (M, Y) Γ] (hL : L ≤ L' ∧ M ≤ L') : ∀ (I : Blk) (w : World), DataOK tb I w → Holds Γ I w → (OL PlR (some ⟨B, 0, none⟩) (L', [⟨x, y, X, Y⟩])).p I w := fun I w hd hh => by
  refine ⟨fun e he => ?_, RA.of_row (h.p hh) (fun i v hv => ?_)⟩
  · simp only [List.mem_cons, List.not_mem_nil, or_false] at he
    subst he
    exact ⟨(entS' (L' := L') (S' := X) hL.1 rfl I w hd hh).h0', (entS' (L' := L') (S' := Y) hL.2 rfl I w hd hh).h0'⟩
  · simpa [PlR] using hv
theorem entOsub {b off i : Nat} {l : List PlE} {y : PlE} [h : Has (OL PlR (some ⟨b, off, none⟩)) (L, l) Γ] (hy : l[i]? = some y) : ∀ (I : Blk) (w : World), DataOK tb I w → Holds Γ I w → (OL PlR (some ⟨b, off + i * 40, none⟩) (L, [y])).p I w := fun I w hd hh => by
  refine ⟨fun e he => ?_, fun hne => ?_⟩
  · simp only [List.mem_cons, List.not_mem_nil, or_false] at he
    subst he
    obtain ⟨hk, rfl⟩ := List.getElem?_eq_some_iff.1 hy
    exact (h.p hh).1 _ (List.getElem_mem hk)
  · have hk := (List.getElem?_eq_some_iff.1 hy).1
    obtain ⟨b', off', e, hI, _⟩ := (h.p hh).2 (by
      intro e
      have := row_len PlR l
      simp only at e
      rw [e] at this
      simp [PlR] at this
      omega)
    injection e with e
    injection e with e1 e2 _
    subst e1
    refine ⟨b, off + i * 40, rfl, hI, fun j v hv => ?_⟩
    refine OL.toldq (T := tb) (Γ := Γ) hy I w hd hh j v ?_
    simpa [PlR] using hv
theorem p_olfewP (ao : Option Addr) (n c : Nat) (pts ps : List Dp) (width kind bg en : Int) [Has (RA ao) (pts.flatMap dpc) Γ] (hn : n = pts.length) (hc : n ≤ c) (hps : ps = pts.take 12) :
    PCalls tb Try.prog 10 [.agg #[.slice ao n c, .int .i64 width, .int .i64 kind, .int .i64 bg, .int .i64 en]] Γ (fun v Δ => ∃ n' c', v = .agg #[.slice ao n' c', .int .i64 width, .int .i64 kind, .int .i64 bg, .int .i64 en] ∧ n' = ps.length ∧ n' ≤ c' ∧ Δ = [RA ao (ps.flatMap dpc)]) := by
  subst hps
  exact p_olfew ao n c pts width kind bg en hn hc
theorem p_olofW (ao : Option Addr) (n c : Nat) (pts : List Dp) (width kind bg en x y z : Int) (hx : x = width) (hy : y = bg) (hz : z = en) [Has (RA ao) (pts.flatMap dpc) Γ] (hn : n = pts.length) (hn2 : n ≤ 1000000) (ha : 0 < n → ∃ b off, ao = some ⟨b, off, none⟩) :
    PCalls tb Try.prog 11 [.agg #[.slice ao n c, .int .i64 x, .int .i64 kind, .int .i64 y, .int .i64 z]] Γ (OfPostQ pts width kind bg en) := by
  subst hx hy hz
  exact p_olof ao n c pts x kind y z hn hn2 ha
end
structure QSt where
  i : Nat
  z : Int
  v : Value
  O : List (Nat × List Value)
theorem take_dp {ps : List Dp} {i : Nat} {p : Dp} (h : ps[i]? = some p) (f : Dp → Dp) : ((ps.take (i + 1)).map f).flatMap dpc = ((ps.take i).map f).flatMap dpc ++ dpc (f p) := by
  rw [take_snoc h, List.map_append, List.flatMap_append]
  simp
end Go.Proofs.Ytaafmafdnnjmdaa
