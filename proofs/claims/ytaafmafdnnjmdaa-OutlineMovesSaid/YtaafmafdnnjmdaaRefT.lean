/- The law's helpers: few, same. -/
import Derived.Test.YtaafmafdnnjmdaaProg
import Derived.Test.YtaafmafdnnjmdaaRefU
import Derived.Test.YtaafmafdnnjmdaaNatO
import Derived.Test.YtaafmafdnnjmdaaBase
import Derived.Deep.RegionHeld3
import Derived.Deep.RegionWith
import Derived.Deep.DrawnRows
import Derived.BigRegion
import Derived.Test.YtaafmafdnnjmdaaRefX
import Derived.Test.YtaafmafdnnjmdaaMathR
import Derived.Deep.DeepCutAuto
import Derived.Deep.LoopGhost
import Derived.Test.YtaafmafdnnjmdaaPn
import Derived.Test.YtaafmafdnnjmdaaPr
namespace Go.Proofs.Ytaafmafdnnjmdaa
open Go.RowKit

end Go.Proofs.Ytaafmafdnnjmdaa


/- The reference: Root. -/
namespace Go.Proofs.Ytaafmafdnnjmdaa
open Go.RowKit

/-- All of W is as it was, but for two boxes. -/
def KeptBut (W : World) (b1 b2 : Nat) (w : World) : Prop := (∀ (k : Nat) (o : Obj), k ≠ b1 → k ≠ b2 → W.heap[k]? = some o → w.heap[k]? = some o) ∧
  (∃ v, w.heap[b1]? = some (.cells #[v] 94 (0, 0))) ∧ (∃ v, w.heap[b2]? = some (.cells #[v] 94 (0, 0))) ∧ Below b1 W w
theorem KeptBut.drew {W w : World} {b1 b2 : Nat} (h : KeptBut W b1 b2 w) : KeptBut W b1 b2 w.drew := ⟨h.1, h.2.1, h.2.2.1, h.2.2.2.drew⟩
theorem KeptBut.call {W w w' : World} {b1 b2 : Nat} (h : KeptBut W b1 b2 w) (hb : Below w.heap.size w w') : KeptBut W b1 b2 w' := by
  obtain ⟨h1, ⟨v1, h2⟩, ⟨v2, h3⟩, h4⟩ := h
  exact ⟨fun k o a b c => ent_up hb (h1 k o a b c), ⟨v1, ent_up hb h2⟩, ⟨v2, ent_up hb h3⟩, h4.trans (hb.mono (Nat.le_of_lt (ent_lt h2)))⟩
theorem KeptBut.set2 {W w : World} {b1 b2 : Nat} (h : KeptBut W b1 b2 w) (hne : b1 < b2) (v : Value) : KeptBut W b1 b2 (w.setCell ⟨b2, 0, none⟩ v) := by
  obtain ⟨h1, ⟨v1, h2⟩, ⟨v2, h3⟩, h4⟩ := h
  exact ⟨fun k o a b c => ent_set_other (h1 k o a b c) (by simpa using b) v, ⟨v1, ent_set_other h2 (by simp; omega) v⟩, ⟨v, ent_set h3 v⟩, h4.setCell (by simp; omega) v⟩
theorem KeptBut.kp {W w : World} {b1 b2 : Nat} (h : KeptBut W b1 b2 w) {v1 v2 : Value} (h1 : W.heap[b1]? = some (.cells #[v1] 94 (0, 0))) (h2 : W.heap[b2]? = some (.cells #[v2] 94 (0, 0))) : Kp W w := fun b c T f hT hb => by
  refine h.1 b _ ?_ ?_ hb
  · rintro rfl
    rw [h1] at hb
    simp at hb
    rcases hT with h | h | h <;> rw [← hb.2.1] at h <;> exact absurd h (by decide)
  · rintro rfl
    rw [h2] at hb
    simp at hb
    rcases hT with h | h | h <;> rw [← hb.2.1] at h <;> exact absurd h (by decide)
theorem KeptBut.refl {W : World} {b1 b2 : Nat} {v1 v2 : Value} (h1 : W.heap[b1]? = some (.cells #[v1] 94 (0, 0))) (h2 : W.heap[b2]? = some (.cells #[v2] 94 (0, 0))) : KeptBut W b1 b2 W := ⟨fun _ _ _ _ h => h, ⟨v1, h1⟩, ⟨v2, h2⟩, Below.refl _ _⟩

/-- Root's memory. -/
def RRootSt (w : World) (s : Sl) (g n : Nat) (p : List Nat) (wr : World) : Prop :=
  wr.heap[w.heap.size]? = some (.cells #[.slice s.ao s.n s.c] 94 (0, 0)) ∧ wr.heap[w.heap.size + 1]? = some (.cells #[.slice none 0 0] 94 (0, 0)) ∧
  wr.heap[w.heap.size + 1 + 1]? = some (.cells #[.slice none 0 0] 94 (0, 0)) ∧ Own wr (w.heap.size + 3) 3 .i64 (.slice (some ⟨g, 0, none⟩) n n) p ∧ Below w.heap.size w wr
theorem RRootSt.up {w : World} {s : Sl} {g n : Nat} {p : List Nat} {wr w' : World} (h : RRootSt w s g n p wr) (hb : Below wr.heap.size wr w') : RRootSt w s g n p w' :=
  ⟨ent_up hb h.1, ent_up hb h.2.1, ent_up hb h.2.2.1, h.2.2.2.1.below hb (Nat.le_refl _), h.2.2.2.2.trans (hb.mono h.2.2.2.2.size)⟩
theorem RRootSt.store {w : World} {s : Sl} {g n : Nat} {p : List Nat} {wr : World} (h : RRootSt w s g n p wr) (hg : w.heap.size + 1 + 1 < g) (j d : Nat) : RRootSt w s g n (p.set j d) (wr.setCell ⟨g, j, none⟩ (.int .i64 ((d : Nat) : Int))) :=
  ⟨ent_set_other h.1 (by simp; omega) _, ent_set_other h.2.1 (by simp; omega) _, ent_set_other h.2.2.1 (by simp; omega) _, (h.2.2.2.1.store j d).1, h.2.2.2.2.setCell (by simp; omega) _⟩

end Go.Proofs.Ytaafmafdnnjmdaa


/- The reference's powers of two, up to 9000. -/
set_option linter.unusedSimpArgs false
set_option linter.unusedVariables false
namespace Go.Proofs.Ytaafmafdnnjmdaa
open Go.RowKit

/-- The powers' numbers. -/
def TwoM (K k a b : Nat) : Prop := a * b ^ k = 2 ^ K ∧ 0 < b ∧ b ≤ 2 * 2 ^ K ∧ K ≤ 9000

theorem TwoM.one {K a b : Nat} (h : TwoM K 1 a b) : TwoM K 0 (a * b) b := by
  obtain ⟨h1, h2, h3, h4⟩ := h
  exact ⟨by simpa using h1, h2, h3, h4⟩
section
variable {Γ : List Fact} {L M x y : Nat}
end
end Go.Proofs.Ytaafmafdnnjmdaa
