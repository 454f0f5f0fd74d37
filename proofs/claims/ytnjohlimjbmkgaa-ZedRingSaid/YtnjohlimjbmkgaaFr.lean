/- What a walk keeps beside a result box of two cells. -/
import Derived.Test.YtnjohlimjbmkgaaBox2
namespace Go.Proofs.Ytnjohlimjbmkgaa
open Go.RowKit

/-- All of W but block R is as it was; R is a box of two cells. -/
def Fr (w W : World) (R : Nat) (T : TypeId) (w' : World) : Prop :=
  Kp W w' ∧ W.heap.size ≤ w'.heap.size ∧ (∀ k, k < W.heap.size → k ≠ R → w'.heap[k]? = W.heap[k]?) ∧ (∃ v b : Value, w'.heap[R]? = some (.cells #[v, b] T (0, 0))) ∧ Below w.heap.size w w'

theorem Fr.init {w W : World} {R : Nat} {T : TypeId} {v b : Value} (hR : W.heap[R]? = some (.cells #[v, b] T (0, 0))) (hB : Grew w W) : Fr w W R T W := ⟨Kp.refl _, Nat.le_refl _, fun _ _ _ => rfl, ⟨v, b, hR⟩, hB⟩
theorem Fr.drew {w W : World} {R : Nat} {T : TypeId} {w' : World} (h : Fr w W R T w') : Fr w W R T w'.drew := ⟨h.1.drew, h.2.1, h.2.2.1, h.2.2.2.1, h.2.2.2.2.drew⟩
theorem Fr.call {w W : World} {R : Nat} {T : TypeId} {w' w'' : World} (h : Fr w W R T w') (hb : Below w'.heap.size w' w'') : Fr w W R T w'' := by
  obtain ⟨h1, h2, h3, ⟨v, b, h4⟩, h5⟩ := h
  exact ⟨h1.below hb, Nat.le_trans h2 hb.size, fun k hk hn => by rw [hb.block k (by omega)]; exact h3 k hk hn, ⟨v, b, ent_up hb h4⟩, Grew.call (show Grew w w' from h5) hb⟩
theorem Fr.set2 {w W : World} {R : Nat} {T : TypeId} {w' : World} (h : Fr w W R T w') (hT : ¬ (T = 113 ∨ T = 3 ∨ T = 5)) (hw : w.heap.size ≤ R) (v b : Value) : Fr w W R T ((w'.setCell ⟨R, 0, none⟩ v).setCell ⟨R, 1, none⟩ b) := by
  obtain ⟨h1, h2, h3, ⟨v0, b0, h4⟩, h5⟩ := h
  refine ⟨h1.set2 h4 hT v b, by simpa using h2, fun k hk hn => ?_, ⟨v, b, box2_set h4 v b⟩, Grew.set2 (show Grew w w' from h5) hw v b⟩
  rw [Below.heap_setCell _ _ _ _ hn, Below.heap_setCell _ _ _ _ hn]
  exact h3 k hk hn
theorem Fr.ent {w W : World} {R : Nat} {T : TypeId} {w' : World} (h : Fr w W R T w') {k : Nat} {o : Obj} (he : W.heap[k]? = some o) (hn : k ≠ R) : w'.heap[k]? = some o := (h.2.2.1 k (ent_lt he) hn).trans he
theorem Fr.nat {w W : World} {R : Nat} {T : TypeId} {w' : World} (h : Fr w W R T w') {s : Sl} {x : Nat} (hx : NatS W s x) : NatS w' s x := hx.kp h.1
theorem Fr.ref {w W : World} {R : Nat} {T : TypeId} {w' : World} (h : Fr w W R T w') {s : Sl} {x : Nat} (hx : RefS W s x) : RefS w' s x := hx.kp h.1
theorem Fr.res {w W : World} {R : Nat} {T : TypeId} {w' : World} (h : Fr w W R T w') : ∃ v b : Value, w'.heap[R]? = some (.cells #[v, b] T (0, 0)) := h.2.2.2.1
theorem Fr.below {w W : World} {R : Nat} {T : TypeId} {w' : World} (h : Fr w W R T w') : Below w.heap.size w w' := h.2.2.2.2

end Go.Proofs.Ytnjohlimjbmkgaa
