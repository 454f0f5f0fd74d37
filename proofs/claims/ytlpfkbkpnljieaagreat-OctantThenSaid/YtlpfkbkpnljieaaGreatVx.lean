/- The walk over slots and boxes: loops with blocks of the call's own, loops round by round, rows that are known from their start, append to a row that is full. -/
import Derived.Test.YtlpfkbkpnljieaaGreatVm
import Derived.Test.YtlpfkbkpnljieaaGreatLawZ
import Derived.SliceStrings
import Derived.WideKeyArgs
set_option linter.unusedSimpArgs false
set_option linter.unusedVariables false
namespace Go.Proofs.YtlpfkbkpnljieaaGreat
open Go.RowKit

/-- A row that begins with these cells. -/
def RA (ao : Option Addr) (xs : List Value) : Fact where
  p I w := xs ≠ [] → ∃ b off, ao = some ⟨b, off, none⟩ ∧ I b ∧ ∀ (i : Nat) (v : Value), xs[i]? = some v → w.cell? ⟨b, off + i, none⟩ = some v
  up := by
    intro I I' w w' hb h1 h2 h3 hne
    obtain ⟨b, off, ha, hI, hr⟩ := hb hne
    have hlt : b < w.heap.size := by
      obtain ⟨v, r, rfl⟩ := List.exists_cons_of_ne_nil hne
      have h0 := hr 0 v rfl
      unfold World.cell? at h0
      split at h0
      · rename_i cs e f hc
        exact lt_of_some hc
      · simp at h0
    refine ⟨b, off, ha, h1 b hlt hI, fun i v hv => ?_⟩
    have := hr i v hv
    unfold World.cell? at this ⊢
    simp only at this ⊢
    rw [h2 b hlt hI]
    exact this

theorem RA.nil (ao : Option Addr) (I : Blk) (w : World) : (RA ao []).p I w := fun h => absurd rfl h

theorem RA.of_row {b : Nat} {cs xs : List Value} {I : Blk} {w : World} (h : (RowF b cs).p I w) (hx : ∀ (i : Nat) (v : Value), xs[i]? = some v → cs[i]? = some v) : (RA (some ⟨b, 0, none⟩) xs).p I w := by
  obtain ⟨hI, e, hc⟩ := h
  exact fun _ => ⟨b, 0, rfl, hI, fun i v hv => by rw [cell_box hc, Nat.zero_add]; exact hx i v hv⟩

theorem RA.cell {b off : Nat} {xs : List Value} {I : Blk} {w : World} (h : (RA (some ⟨b, off, none⟩) xs).p I w) {i : Nat} {v : Value} (hv : xs[i]? = some v) : w.cell? ⟨b, off + i, none⟩ = some v := by
  obtain ⟨b', off', ha, _, hr⟩ := h (by rintro rfl; simp at hv)
  injection ha with ha
  injection ha with e1 e2 _
  subst e1
  subst e2
  exact hr i v hv

section
variable {T : Tb} {P : Program} {fin : VS → List Fact → Prop} {c : Cfg} {Γ : List Fact}

/-- A loop of at most n rounds, walked round by round. -/
theorem W.unr (D : List Nat) (n : Nat) (h : isLoop (vstep T (Go.Proofs.YtlpfkbkpnljieaaGreat.runs T D 999 c)) = true)
    (hk : W T P fin ⟨loopS (vstep T (Go.Proofs.YtlpfkbkpnljieaaGreat.runs T D 999 c)), .rnd n (loopOf (vstep T (Go.Proofs.YtlpfkbkpnljieaaGreat.runs T D 999 c))) :: loopK (vstep T (Go.Proofs.YtlpfkbkpnljieaaGreat.runs T D 999 c))⟩ Γ) : W T P fin c Γ := by
  refine W.runs D 999 ?_
  generalize Go.Proofs.YtlpfkbkpnljieaaGreat.runs T D 999 c = c1 at *
  generalize he : vstep T c1 = e at *
  cases e with
  | loop b c' => exact W.un n he hk
  | _ => simp [isLoop] at h

end

/-- A law's contract as the row wants it, of a law whose arguments lie in memory. -/
theorem law_calls' {T : Tb} {P : Program} {f : FuncId} {args : List Value} {Γ : List Fact} (h : PCalls T P f args Γ (fun v Δ => v = .bool true ∧ Δ = [])) (w : World) (hh : Holds Γ (fun _ => True) w) : Calls P f args.toArray w fun e w' => e = .returned (.bool true) ∧ Below w.heap.size w w' := by
  refine (h.2 (fun _ => True) w (fun _ _ _ _ _ _ => trivial) hh).mono ?_
  rintro e w' ⟨v, Δ, rfl, ⟨rfl, rfl⟩, hb, _⟩
  exact ⟨rfl, hb⟩

section
open Go.ChangeShapes Go.WideShapes
/-- All arguments read as they did. -/
theorem trodAll_stays {H : Type} {enc : TypeId × Value → H} {P : Program} (hl : laidOutB P = true) {W W' : World} (hb : Below W.heap.size W W') {sp : Nat → Bool} :
    ∀ {ts : List TypeId} {vs : List Value} {ds : List (DataW H)} {ps : List MemPlace}, (ts.all fun t => P.readableRec t && decide (t < P.types.size)) = true → DataW.TrodAll enc P W 0 (fun _ => true) true ts vs ds ps →
      (∀ x ∈ ps, x.block < W.heap.size) → (∀ x ∈ ps, sp x.block = true) → DataW.TrodAll enc P W' 0 sp true ts vs ds ps
  | [], [], [], ps, _, h, _, _ => h
  | t :: ts, v :: vs, d :: ds, ps, hr, h, hlt, hsp => by
    obtain ⟨p, q, h1, h2, rfl⟩ := h
    simp only [List.all_cons, Bool.and_eq_true, decide_eq_true_eq] at hr
    refine ⟨p, q, ?_, trodAll_stays hl hb hr.2 h2 (fun x hx => hlt x (List.mem_append_right _ hx)) (fun x hx => hsp x (List.mem_append_right _ hx)), rfl⟩
    exact WideElems.Trod_stays hl hr.1.1 hr.1.2 h1 (fun x hx => hb.same (hlt x (List.mem_append_left _ hx))) (fun x hx => hsp x (List.mem_append_left _ hx))
  | [], [], _ :: _, _, _, h, _, _ => h.elim
  | [], _ :: _, _, _, _, h, _, _ => by cases ‹List (DataW H)› <;> exact h.elim
  | _ :: _, [], _, _, _, h, _, _ => by cases ‹List (DataW H)› <;> exact h.elim
  | _ :: _, _ :: _, [], _, _, h, _, _ => h.elim

end

end Go.Proofs.YtlpfkbkpnljieaaGreat
