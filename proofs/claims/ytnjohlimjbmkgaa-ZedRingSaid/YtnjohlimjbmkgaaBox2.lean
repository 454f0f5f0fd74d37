/- Boxes of two cells. -/
import Derived.Test.YtnjohlimjbmkgaaGrew
namespace Go.Proofs.Ytnjohlimjbmkgaa
open Go.RowKit

theorem box2_set {W : World} {k : Nat} {v0 b0 : Value} {T : TypeId} (h : W.heap[k]? = some (.cells #[v0, b0] T (0, 0))) (v b : Value) :
    ((W.setCell ⟨k, 0, none⟩ v).setCell ⟨k, 1, none⟩ b).heap[k]? = some (.cells #[v, b] T (0, 0)) := by
  have := ent_set (i := 1) (ent_set (i := 0) h v) b
  simpa using this
theorem box2_c0 {w : World} {k : Nat} {v b : Value} {T : TypeId} (h : w.heap[k]? = some (.cells #[v, b] T (0, 0))) : w.cell? ⟨k, 0, none⟩ = some v := ent_cell h 0
theorem box2_c1 {w : World} {k : Nat} {v b : Value} {T : TypeId} (h : w.heap[k]? = some (.cells #[v, b] T (0, 0))) : w.cell? ⟨k, 1, none⟩ = some b := ent_cell h 1
theorem box2_f {w : World} {k : Nat} {v b : Value} {T : TypeId} (h : w.heap[k]? = some (.cells #[v, b] T (0, 0))) (i : Nat) : w.frozen? ⟨k, i, none⟩ = false := ent_frozen h i
theorem Kp.set2 {w w' : World} (h : Kp w w') {k : Nat} {v0 b0 : Value} {T : TypeId} (hb : w'.heap[k]? = some (.cells #[v0, b0] T (0, 0))) (hT : ¬ (T = 113 ∨ T = 3 ∨ T = 5)) (v b : Value) : Kp w ((w'.setCell ⟨k, 0, none⟩ v).setCell ⟨k, 1, none⟩ b) :=
  (h.setCell (a := ⟨k, 0, none⟩) hb hT v).setCell (a := ⟨k, 1, none⟩) (ent_set (i := 0) hb v) hT b
theorem Grew.set2 {W w : World} (h : Grew W w) {k : Nat} (ha : W.heap.size ≤ k) (v b : Value) : Grew W ((w.setCell ⟨k, 0, none⟩ v).setCell ⟨k, 1, none⟩ b) := (h.set (a := ⟨k, 0, none⟩) ha v).set (a := ⟨k, 1, none⟩) ha b

end Go.Proofs.Ytnjohlimjbmkgaa
