/- What a law's walk keeps: worlds that have grown, boxes. -/
import Derived.Test.YtnjohlimjbmkgaaOwn
import Derived.Deep.RegionHeld3
import Derived.Deep.RegionWith
import Derived.Deep.DrawnRows
import Derived.BigRegion
namespace Go.Proofs.Ytnjohlimjbmkgaa
open Go.RowKit

theorem box_after {w w' : World} {c : Array Value} {T : TypeId} (h : Below (w.alloc (.cells c T)).heap.size (w.alloc (.cells c T)) w') : w'.heap[w.heap.size]? = some (.cells c T (0, 0)) := ent_up h (ent_new _ _)
theorem box_cell {w : World} {b : Nat} {v : Value} {T : TypeId} (h : w.heap[b]? = some (.cells #[v] T (0, 0))) : w.cell? ⟨b, 0, none⟩ = some v := ent_cell h 0
theorem box_after_drew {w w' : World} {c : Array Value} {T : TypeId} (h : Below (w.alloc (.cells c T)).drew.heap.size (w.alloc (.cells c T)).drew w') : w'.heap[w.heap.size]? = some (.cells c T (0, 0)) := ent_up (below_undrew h) (ent_new _ _)
theorem NatS.alloc {w : World} {s : Sl} {x : Nat} (h : NatS w s x) (o : Obj) : NatS (w.alloc o) s x := h.up ((Below.refl _ _).alloc (Nat.le_refl _) o)
theorem box_set {W : World} {k : Nat} {v0 : Value} {T : TypeId} (h : W.heap[k]? = some (.cells #[v0] T (0, 0))) (v : Value) : (W.setCell ⟨k, 0, none⟩ v).heap[k]? = some (.cells #[v] T (0, 0)) := ent_set h v
theorem box_keep {W : World} {k j : Nat} {o : Obj} (h : W.heap[k]? = some o) (hne : k ≠ j) (v : Value) : (W.setCell ⟨j, 0, none⟩ v).heap[k]? = some o := ent_set_other h hne v

/-- All of W is as it was. -/
def Grew (W w : World) : Prop := Below W.heap.size W w
theorem Grew.refl (W : World) : Grew W W := Below.refl _ _
theorem Grew.call {W w w' : World} (h : Grew W w) (hb : Below w.heap.size w w') : Grew W w' := Below.trans h (hb.mono (Below.size h))
theorem Grew.alloc {W w : World} (h : Grew W w) (o : Obj) : Grew W (w.alloc o) := Below.alloc h (Below.size h) o
theorem Grew.drew {W w : World} (h : Grew W w) : Grew W w.drew := Below.drew h
theorem Grew.set {W w : World} (h : Grew W w) {a : Addr} (ha : W.heap.size ≤ a.block) (v : Value) : Grew W (w.setCell a v) := Below.setCell h ha v
theorem Grew.trans {W w w' : World} (h : Grew W w) (h' : Grew w w') : Grew W w' := h.call h'
theorem Grew.below {B : Nat} {w0 W w : World} (h : Below B w0 W) (h' : Grew W w) (hB : B ≤ W.heap.size) : Below B w0 w := h.trans (Below.mono h' hB)
theorem NatS.grew {W w : World} {s : Sl} {x : Nat} (h : NatS W s x) (hg : Grew W w) : NatS w s x := h.up hg
theorem RefS.grew {W w : World} {s : Sl} {x : Nat} (h : RefS W s x) (hg : Grew W w) : RefS w s x := h.up hg
theorem ent_grew {W w : World} {k : Nat} {o : Obj} (hg : Grew W w) (h : W.heap[k]? = some o) : w.heap[k]? = some o := ent_up hg h
theorem cell_grew {W w : World} {k : Nat} {v : Value} {T : TypeId} (hg : Grew W w) (h : W.heap[k]? = some (.cells #[v] T (0, 0))) : w.cell? ⟨k, 0, none⟩ = some v := box_cell (ent_up hg h)

theorem RefS.alloc {w : World} {s : Sl} {x : Nat} (h : RefS w s x) (o : Obj) : RefS (w.alloc o) s x := h.up ((Below.refl _ _).alloc (Nat.le_refl _) o)

/-- The blocks from b on are as they were. -/
def KeptUp (W : World) (b : Nat) (w : World) : Prop := ∀ k, b ≤ k → w.heap[k]? = W.heap[k]?
theorem KeptUp.refl (W : World) (b : Nat) : KeptUp W b W := fun _ _ => rfl
theorem KeptUp.drew {W w : World} {b : Nat} (h : KeptUp W b w) : KeptUp W b w.drew := h
theorem KeptUp.set {W w : World} {b : Nat} (h : KeptUp W b w) {a : Addr} (ha : a.block < b) (v : Value) : KeptUp W b (w.setCell a v) := fun k hk => by
  rw [Below.heap_setCell _ _ _ _ (by omega)]
  exact h k hk
theorem KeptUp.ent {W w : World} {b k : Nat} {o : Obj} (h : KeptUp W b w) (hk : W.heap[k]? = some o) (hb : b ≤ k) : w.heap[k]? = some o := by rw [h k hb]; exact hk

theorem ents4g (w : World) (o1 o2 o3 o4 : Obj) : Grew w ((((w.alloc o1).alloc o2).alloc o3).alloc o4) := ((((Grew.refl w).alloc o1).alloc o2).alloc o3).alloc o4
/-- A text's first signs. -/
def fewS (s : ByteArray) (n : Nat) : ByteArray := if n < s.size then s.extract 0 n else s

theorem fewS_le (s : ByteArray) (n : Nat) : (fewS s n).size ≤ n := by
  unfold fewS
  split
  · simp; omega
  · omega


end Go.Proofs.Ytnjohlimjbmkgaa
