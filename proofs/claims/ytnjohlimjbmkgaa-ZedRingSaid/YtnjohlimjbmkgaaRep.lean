/- How numbers lie in memory: slices of integers, the numbers of nat and of the reference; what keeps them. -/
import Derived.WalkKit
import Derived.WalkSpells
import Derived.WalkLawsBesides
import Derived.Lib.Hide
import Derived.Test.YtnjohlimjbmkgaaMath
namespace Go.Proofs.Ytnjohlimjbmkgaa
open Go.RowKit

/-- A slice's header. -/
structure Sl where
  ao : Option Addr
  n : Nat
  c : Nat

/-- The slice s holds the numbers l, of kind k, in a row of elements of type T. -/
def IntsAt (w : World) (T : TypeId) (k : IntKind) (s : Sl) (l : List Nat) : Prop :=
  s.n = l.length ∧ s.n ≤ s.c ∧ s.c ≤ 9223372036854775807 ∧
    (0 < s.n → ∃ b off cur, s.ao = some ⟨b, off, none⟩ ∧ w.heap[b]? = some (.cells cur T (0, 0)) ∧ off + s.c ≤ cur.size ∧ ∀ i, i < s.n → cur[off + i]? = some (.int k ((dg l i : Nat) : Int)))

/-- All rows of data stay as they were. -/
def Kp (w w' : World) : Prop := ∀ (b : Nat) (cur : Array Value) (T : TypeId) (f : Nat × Nat), (T = 113 ∨ T = 3 ∨ T = 5) → w.heap[b]? = some (Obj.cells cur T f) → w'.heap[b]? = some (Obj.cells cur T f)

theorem below_undrew {B : Nat} {w w' : World} (h : Below B w.drew w') : Below B w w' := ⟨h.os, h.tape, h.output, h.size, h.block⟩

theorem Kp.refl (w : World) : Kp w w := fun _ _ _ _ _ h => h
theorem Kp.trans {w w' w'' : World} (h : Kp w w') (h' : Kp w' w'') : Kp w w'' := fun b c T f hT hb => h' b c T f hT (h b c T f hT hb)
theorem Kp.below {w w' w'' : World} (h : Kp w w') (hb : Below w'.heap.size w' w'') : Kp w w'' := fun b c T f hT hw => by
  have h1 := h b c T f hT hw
  rw [hb.block b (Array.getElem?_eq_some_iff.1 h1).1]
  exact h1
theorem Kp.alloc {w w' : World} (h : Kp w w') (o : Obj) : Kp w (w'.alloc o) := h.below ((Below.refl _ _).alloc (Nat.le_refl _) o)
theorem Kp.drew {w w' : World} (h : Kp w w') : Kp w w'.drew := h
theorem Kp.setCell {w w' : World} (h : Kp w w') {a : Addr} {c : Array Value} {T : TypeId} {f : Nat × Nat} (hb : w'.heap[a.block]? = some (.cells c T f)) (hT : ¬ (T = 113 ∨ T = 3 ∨ T = 5)) (v : Value) : Kp w (w'.setCell a v) := fun b c' T' f' hT' hw => by
  have h1 := h b c' T' f' hT' hw
  have : b ≠ a.block := by
    rintro rfl
    rw [h1] at hb
    injection hb with hb
    injection hb with _ hb _
    exact hT (hb ▸ hT')
  rw [Below.heap_setCell _ _ _ _ this]
  exact h1

theorem IntsAt.kp {w w' : World} {T : TypeId} {k : IntKind} {s : Sl} {l : List Nat} (h : IntsAt w T k s l) (hT : T = 113 ∨ T = 3 ∨ T = 5) (hk : Kp w w') : IntsAt w' T k s l := by
  obtain ⟨h1, h2, h3, h4⟩ := h
  refine ⟨h1, h2, h3, fun hp => ?_⟩
  obtain ⟨b, off, cur, ha, hb, hr⟩ := h4 hp
  exact ⟨b, off, cur, ha, hk _ _ _ _ hT hb, hr⟩

theorem IntsAt.up {w w' : World} {T : TypeId} {k : IntKind} {s : Sl} {l : List Nat} (h : IntsAt w T k s l) (hb : Below w.heap.size w w') : IntsAt w' T k s l := by
  obtain ⟨h1, h2, h3, h4⟩ := h
  refine ⟨h1, h2, h3, fun hp => ?_⟩
  obtain ⟨b, off, cur, ha, hh, hr⟩ := h4 hp
  exact ⟨b, off, cur, ha, by rw [hb.block b (Array.getElem?_eq_some_iff.1 hh).1]; exact hh, hr⟩

/-- A slice with an element: where it lies, and its cells. -/
theorem IntsAt.open {w : World} {T : TypeId} {k : IntKind} {s : Sl} {l : List Nat} (h : IntsAt w T k s l) (hp : 0 < s.n) :
    ∃ b off, s.ao = some ⟨b, off, none⟩ ∧ b < w.heap.size ∧ ∀ i, i < s.n → w.cell? ⟨b, off + i, none⟩ = some (.int k ((dg l i : Nat) : Int)) := by
  obtain ⟨h1, h2, h3, h4⟩ := h
  obtain ⟨b, off, cur, ha, hh, hc, hr⟩ := h4 hp
  refine ⟨b, off, ha, (Array.getElem?_eq_some_iff.1 hh).1, fun i hi => ?_⟩
  rw [cell_of_row w b (off + i) cur T (0, 0) hh]
  exact hr i hi

/-- Its first part. -/
theorem IntsAt.cut {w : World} {T : TypeId} {k : IntKind} {s : Sl} {l : List Nat} (h : IntsAt w T k s l) (j c : Nat) (hj : j ≤ s.n) (hc : j ≤ c) (hc' : c ≤ s.c) : IntsAt w T k ⟨s.ao, j, c⟩ (l.take j) := by
  obtain ⟨h1, h2, h3, h4⟩ := h
  refine ⟨by simp; omega, hc, by simp; omega, fun hp => ?_⟩
  simp only at hp
  obtain ⟨b, off, cur, ha, hh, hcc, hr⟩ := h4 (by omega)
  refine ⟨b, off, cur, ha, hh, by simp; omega, fun i hi => ?_⟩
  simp only at hi
  rw [hr i (by omega)]
  simp [dg, hi]

theorem IntsAt.nil (w : World) (T : TypeId) (k : IntKind) (ao : Option Addr) (c : Nat) (hc : c ≤ 9223372036854775807) : IntsAt w T k ⟨ao, 0, c⟩ [] := ⟨rfl, Nat.zero_le _, hc, fun h => absurd h (by simp)⟩

/-- What the call itself has gathered, as a slice of integers. -/
theorem IntsAt.of_owns {w : World} {base : Nat} {T : TypeId} {k : IntKind} {v : Value} {l : List Nat} (h : w.ownsRow base T 1 v l.length (l.map fun d => Value.int k ((d : Nat) : Int))) :
    ∃ s : Sl, v = .slice s.ao s.n s.c ∧ IntsAt w T k s l := by
  obtain ⟨h1, h2⟩ := h
  rcases h2 with ⟨rfl, h2⟩ | ⟨g, cap, cur, rfl, _, hg, hnc, hcm, hcs, htake⟩
  · have : l = [] := List.eq_nil_of_length_eq_zero h2
    subst this
    exact ⟨⟨none, 0, 0⟩, rfl, IntsAt.nil _ _ _ _ _ (by omega)⟩
  · refine ⟨⟨some ⟨g, 0, none⟩, l.length, cap⟩, rfl, rfl, hnc, by unfold maxLen at hcm; simpa using hcm, fun _ => ⟨g, 0, cur, rfl, hg, by simp only [Nat.mul_one] at hcs; simp [hcs], fun i hi => ?_⟩⟩
    simp only at hi
    have h3 : (cur.toList.take (l.length * 1))[i]? = (l.map fun d => Value.int k ((d : Nat) : Int))[i]? := by rw [htake]
    rw [List.getElem?_take_of_lt (by omega)] at h3
    simp only [Nat.zero_add]
    simpa [dg, hi] using h3

/-- A row written out. -/
theorem IntsAt.of_row {w : World} {T : TypeId} {k : IntKind} {b : Nat} {cur : Array Value} (l : List Nat) (h : w.heap[b]? = some (.cells cur T (0, 0))) (hc : cur = (l.map fun d => Value.int k ((d : Nat) : Int)).toArray) (hl : l.length ≤ 9223372036854775807) : IntsAt w T k ⟨some ⟨b, 0, none⟩, l.length, l.length⟩ l := by
  subst hc
  exact ⟨rfl, Nat.le_refl _, hl, fun _ => ⟨b, 0, _, rfl, h, by simp, fun i hi => by simp only at hi; simp [dg, hi]⟩⟩

/-- A number of the program: its limbs, without zeros on top. -/
def NatS (w : World) (s : Sl) (x : Nat) : Prop := ∃ l : List Nat, IntsAt w 113 .u32 s l ∧ (∀ d ∈ l, d < 4294967296) ∧ Norm l ∧ val 4294967296 l = x
/-- A number of the reference: its digits by ten thousands. -/
def RefS (w : World) (s : Sl) (x : Nat) : Prop := ∃ l : List Nat, IntsAt w 3 .i64 s l ∧ (∀ d ∈ l, d < 10000) ∧ Norm l ∧ val 10000 l = x

theorem NatS.kp {w w' : World} {s : Sl} {x : Nat} (h : NatS w s x) (hk : Kp w w') : NatS w' s x := by
  obtain ⟨l, h1, h2⟩ := h; exact ⟨l, h1.kp (.inl rfl) hk, h2⟩
theorem RefS.kp {w w' : World} {s : Sl} {x : Nat} (h : RefS w s x) (hk : Kp w w') : RefS w' s x := by
  obtain ⟨l, h1, h2⟩ := h; exact ⟨l, h1.kp (.inr (.inl rfl)) hk, h2⟩
theorem NatS.up {w w' : World} {s : Sl} {x : Nat} (h : NatS w s x) (hb : Below w.heap.size w w') : NatS w' s x := h.kp ((Kp.refl w).below hb)
theorem RefS.up {w w' : World} {s : Sl} {x : Nat} (h : RefS w s x) (hb : Below w.heap.size w w') : RefS w' s x := h.kp ((Kp.refl w).below hb)

theorem NatS.nil (w : World) (ao : Option Addr) (c : Nat) (hc : c ≤ 9223372036854775807) : NatS w ⟨ao, 0, c⟩ 0 := ⟨[], IntsAt.nil _ _ _ _ _ hc, by simp, norm_nil, rfl⟩
theorem RefS.nil (w : World) (ao : Option Addr) (c : Nat) (hc : c ≤ 9223372036854775807) : RefS w ⟨ao, 0, c⟩ 0 := ⟨[], IntsAt.nil _ _ _ _ _ hc, by simp, norm_nil, rfl⟩

theorem NatS.zero_iff {w : World} {s : Sl} {x : Nat} (h : NatS w s x) : x = 0 ↔ s.n = 0 := by
  obtain ⟨l, h1, h2, h3, h4⟩ := h
  rw [← h4, h3.zero_iff (by omega), h1.1]
  exact List.length_eq_zero_iff.symm
theorem RefS.zero_iff {w : World} {s : Sl} {x : Nat} (h : RefS w s x) : x = 0 ↔ s.n = 0 := by
  obtain ⟨l, h1, h2, h3, h4⟩ := h
  rw [← h4, h3.zero_iff (by omega), h1.1]
  exact List.length_eq_zero_iff.symm
theorem NatS.n_le {w w' : World} {s t : Sl} {x y : Nat} (h : NatS w s x) (h' : NatS w' t y) (hxy : x ≤ y) : s.n ≤ t.n := by
  obtain ⟨l, h1, h2, h3, h4⟩ := h
  obtain ⟨m, g1, g2, g3, g4⟩ := h'
  rw [h1.1, g1.1]
  exact h3.len_le (by omega) g2 (by omega)
theorem RefS.n_le {w w' : World} {s t : Sl} {x y : Nat} (h : RefS w s x) (h' : RefS w' t y) (hxy : x ≤ y) : s.n ≤ t.n := by
  obtain ⟨l, h1, h2, h3, h4⟩ := h
  obtain ⟨m, g1, g2, g3, g4⟩ := h'
  rw [h1.1, g1.1]
  exact h3.len_le (by omega) g2 (by omega)

end Go.Proofs.Ytnjohlimjbmkgaa
