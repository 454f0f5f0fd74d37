/- How numbers lie in memory: slices of integers, the numbers of nat and of the reference; what keeps them. Rows of integers that the call itself makes: make, append of one element, reading, writing. math/bits: Len32, LeadingZeros32. What a law's walk keeps: worlds that have grown, boxes. append([]int{d}, s...): one element in front of a slice. -/
import Derived.WalkKit
import Derived.WalkSpells
import Derived.WalkLawsBesides
import Derived.Lib.Hide
import Derived.Test.YtlpfkbkpnljieaaGreatMaths
import Derived.Test.YtlpfkbkpnljieaaGreatProg
import Derived.KernelRfl
import Derived.Lib.Strings
import Derived.Lib.Slices
import Derived.Lib.Small
import Derived.Lib.Walk
import Derived.Lib.BitFns
import Derived.Deep.RegionHeld3
import Derived.Deep.RegionWith
import Derived.Deep.DrawnRows
import Derived.BigRegion
import Derived.Deep.Upon
import Derived.Deep.AppendSrc
import Derived.RegionTactic
set_option linter.unusedSimpArgs false
set_option linter.unusedVariables false
namespace Go.Proofs.YtlpfkbkpnljieaaGreat
open Go.RowKit

/-- A slice's header. -/
structure Sl where
  ao : Option Addr
  n : Nat
  c : Nat

/-- The slice s holds the numbers l, of kind k, in a row of elements of type T. -/
def IntsAt (w : World) (T : TypeId) (k : IntKind) (s : Sl) (l : List Nat) : Prop :=
  s.n = l.length ∧ s.n ≤ s.c ∧ s.c ≤ 9223372036854775807 ∧
    (0 < s.n → ∃ b off cur, s.ao = some ⟨b, off, none⟩ ∧ w.heap[b]? = some (.cells cur T (0, 0)) ∧ off + s.c ≤ cur.size ∧ ∀ i, i < s.n → cur[off + i]? = some (.int k ((dg l i : Nat) : Int)))

/-- All rows of data stay as they were. -/
def Kp (w w' : World) : Prop := ∀ (b : Nat) (cur : Array Value) (T : TypeId) (f : Nat × Nat), (T = 149 ∨ T = 3 ∨ T = 5) → w.heap[b]? = some (Obj.cells cur T f) → w'.heap[b]? = some (Obj.cells cur T f)

theorem below_undrew {B : Nat} {w w' : World} (h : Below B w.drew w') : Below B w w' := ⟨h.os, h.tape, h.output, h.size, h.block⟩

theorem Kp.refl (w : World) : Kp w w := fun _ _ _ _ _ h => h
theorem Kp.trans {w w' w'' : World} (h : Kp w w') (h' : Kp w' w'') : Kp w w'' := fun b c T f hT hb => h' b c T f hT (h b c T f hT hb)
theorem Kp.below {w w' w'' : World} (h : Kp w w') (hb : Below w'.heap.size w' w'') : Kp w w'' := fun b c T f hT hw => by
  have h1 := h b c T f hT hw
  rw [hb.block b (Array.getElem?_eq_some_iff.1 h1).1]
  exact h1
theorem Kp.alloc {w w' : World} (h : Kp w w') (o : Obj) : Kp w (w'.alloc o) := h.below ((Below.refl _ _).alloc (Nat.le_refl _) o)
theorem Kp.drew {w w' : World} (h : Kp w w') : Kp w w'.drew := h
theorem Kp.setCell {w w' : World} (h : Kp w w') {a : Addr} {c : Array Value} {T : TypeId} {f : Nat × Nat} (hb : w'.heap[a.block]? = some (.cells c T f)) (hT : ¬ (T = 149 ∨ T = 3 ∨ T = 5)) (v : Value) : Kp w (w'.setCell a v) := fun b c' T' f' hT' hw => by
  have h1 := h b c' T' f' hT' hw
  have : b ≠ a.block := by
    rintro rfl
    rw [h1] at hb
    injection hb with hb
    injection hb with _ hb _
    exact hT (hb ▸ hT')
  rw [Below.heap_setCell _ _ _ _ this]
  exact h1

theorem IntsAt.kp {w w' : World} {T : TypeId} {k : IntKind} {s : Sl} {l : List Nat} (h : IntsAt w T k s l) (hT : T = 149 ∨ T = 3 ∨ T = 5) (hk : Kp w w') : IntsAt w' T k s l := by
  obtain ⟨h1, h2, h3, h4⟩ := h
  refine ⟨h1, h2, h3, fun hp => ?_⟩
  obtain ⟨b, off, cur, ha, hb, hr⟩ := h4 hp
  exact ⟨b, off, cur, ha, hk _ _ _ _ hT hb, hr⟩

theorem IntsAt.up {w w' : World} {T : TypeId} {k : IntKind} {s : Sl} {l : List Nat} (h : IntsAt w T k s l) (hb : Below w.heap.size w w') : IntsAt w' T k s l := by
  obtain ⟨h1, h2, h3, h4⟩ := h
  refine ⟨h1, h2, h3, fun hp => ?_⟩
  obtain ⟨b, off, cur, ha, hh, hr⟩ := h4 hp
  exact ⟨b, off, cur, ha, by rw [hb.block b (Array.getElem?_eq_some_iff.1 hh).1]; exact hh, hr⟩

/-- A slice with an element: where it lies, and its cells. -/
theorem IntsAt.open {w : World} {T : TypeId} {k : IntKind} {s : Sl} {l : List Nat} (h : IntsAt w T k s l) (hp : 0 < s.n) :
    ∃ b off, s.ao = some ⟨b, off, none⟩ ∧ b < w.heap.size ∧ ∀ i, i < s.n → w.cell? ⟨b, off + i, none⟩ = some (.int k ((dg l i : Nat) : Int)) := by
  obtain ⟨h1, h2, h3, h4⟩ := h
  obtain ⟨b, off, cur, ha, hh, hc, hr⟩ := h4 hp
  refine ⟨b, off, ha, (Array.getElem?_eq_some_iff.1 hh).1, fun i hi => ?_⟩
  rw [cell_of_row w b (off + i) cur T (0, 0) hh]
  exact hr i hi

/-- Its first part. -/
theorem IntsAt.cut {w : World} {T : TypeId} {k : IntKind} {s : Sl} {l : List Nat} (h : IntsAt w T k s l) (j c : Nat) (hj : j ≤ s.n) (hc : j ≤ c) (hc' : c ≤ s.c) : IntsAt w T k ⟨s.ao, j, c⟩ (l.take j) := by
  obtain ⟨h1, h2, h3, h4⟩ := h
  refine ⟨by simp; omega, hc, by simp; omega, fun hp => ?_⟩
  simp only at hp
  obtain ⟨b, off, cur, ha, hh, hcc, hr⟩ := h4 (by omega)
  refine ⟨b, off, cur, ha, hh, by simp; omega, fun i hi => ?_⟩
  simp only at hi
  rw [hr i (by omega)]
  simp [dg, hi]

theorem IntsAt.nil (w : World) (T : TypeId) (k : IntKind) (ao : Option Addr) (c : Nat) (hc : c ≤ 9223372036854775807) : IntsAt w T k ⟨ao, 0, c⟩ [] := ⟨rfl, Nat.zero_le _, hc, fun h => absurd h (by simp)⟩

/-- What the call itself has gathered, as a slice of integers. -/
theorem IntsAt.of_owns {w : World} {base : Nat} {T : TypeId} {k : IntKind} {v : Value} {l : List Nat} (h : w.ownsRow base T 1 v l.length (l.map fun d => Value.int k ((d : Nat) : Int))) :
    ∃ s : Sl, v = .slice s.ao s.n s.c ∧ IntsAt w T k s l := by
  obtain ⟨h1, h2⟩ := h
  rcases h2 with ⟨rfl, h2⟩ | ⟨g, cap, cur, rfl, _, hg, hnc, hcm, hcs, htake⟩
  · have : l = [] := List.eq_nil_of_length_eq_zero h2
    subst this
    exact ⟨⟨none, 0, 0⟩, rfl, IntsAt.nil _ _ _ _ _ (by omega)⟩
  · refine ⟨⟨some ⟨g, 0, none⟩, l.length, cap⟩, rfl, rfl, hnc, by unfold maxLen at hcm; simpa using hcm, fun _ => ⟨g, 0, cur, rfl, hg, by simp only [Nat.mul_one] at hcs; simp [hcs], fun i hi => ?_⟩⟩
    simp only at hi
    have h3 : (cur.toList.take (l.length * 1))[i]? = (l.map fun d => Value.int k ((d : Nat) : Int))[i]? := by rw [htake]
    rw [List.getElem?_take_of_lt (by omega)] at h3
    simp only [Nat.zero_add]
    simpa [dg, hi] using h3

/-- A row written out. -/
theorem IntsAt.of_row {w : World} {T : TypeId} {k : IntKind} {b : Nat} {cur : Array Value} (l : List Nat) (h : w.heap[b]? = some (.cells cur T (0, 0))) (hc : cur = (l.map fun d => Value.int k ((d : Nat) : Int)).toArray) (hl : l.length ≤ 9223372036854775807) : IntsAt w T k ⟨some ⟨b, 0, none⟩, l.length, l.length⟩ l := by
  subst hc
  exact ⟨rfl, Nat.le_refl _, hl, fun _ => ⟨b, 0, _, rfl, h, by simp, fun i hi => by simp only at hi; simp [dg, hi]⟩⟩

/-- A number of the program: its limbs, without zeros on top. -/
def NatS (w : World) (s : Sl) (x : Nat) : Prop := ∃ l : List Nat, IntsAt w 149 .u32 s l ∧ (∀ d ∈ l, d < 4294967296) ∧ Norm l ∧ val 4294967296 l = x
/-- A number of the reference: its digits by ten thousands. -/
def RefS (w : World) (s : Sl) (x : Nat) : Prop := ∃ l : List Nat, IntsAt w 3 .i64 s l ∧ (∀ d ∈ l, d < 10000) ∧ Norm l ∧ val 10000 l = x

theorem NatS.kp {w w' : World} {s : Sl} {x : Nat} (h : NatS w s x) (hk : Kp w w') : NatS w' s x := by
  obtain ⟨l, h1, h2⟩ := h; exact ⟨l, h1.kp (.inl rfl) hk, h2⟩
theorem RefS.kp {w w' : World} {s : Sl} {x : Nat} (h : RefS w s x) (hk : Kp w w') : RefS w' s x := by
  obtain ⟨l, h1, h2⟩ := h; exact ⟨l, h1.kp (.inr (.inl rfl)) hk, h2⟩
theorem NatS.up {w w' : World} {s : Sl} {x : Nat} (h : NatS w s x) (hb : Below w.heap.size w w') : NatS w' s x := h.kp ((Kp.refl w).below hb)
theorem RefS.up {w w' : World} {s : Sl} {x : Nat} (h : RefS w s x) (hb : Below w.heap.size w w') : RefS w' s x := h.kp ((Kp.refl w).below hb)

theorem NatS.nil (w : World) (ao : Option Addr) (c : Nat) (hc : c ≤ 9223372036854775807) : NatS w ⟨ao, 0, c⟩ 0 := ⟨[], IntsAt.nil _ _ _ _ _ hc, by simp, norm_nil, rfl⟩
theorem RefS.nil (w : World) (ao : Option Addr) (c : Nat) (hc : c ≤ 9223372036854775807) : RefS w ⟨ao, 0, c⟩ 0 := ⟨[], IntsAt.nil _ _ _ _ _ hc, by simp, norm_nil, rfl⟩

theorem NatS.zero_iff {w : World} {s : Sl} {x : Nat} (h : NatS w s x) : x = 0 ↔ s.n = 0 := by
  obtain ⟨l, h1, h2, h3, h4⟩ := h
  rw [← h4, h3.zero_iff (by omega), h1.1]
  exact List.length_eq_zero_iff.symm
theorem RefS.zero_iff {w : World} {s : Sl} {x : Nat} (h : RefS w s x) : x = 0 ↔ s.n = 0 := by
  obtain ⟨l, h1, h2, h3, h4⟩ := h
  rw [← h4, h3.zero_iff (by omega), h1.1]
  exact List.length_eq_zero_iff.symm
theorem NatS.n_le {w w' : World} {s t : Sl} {x y : Nat} (h : NatS w s x) (h' : NatS w' t y) (hxy : x ≤ y) : s.n ≤ t.n := by
  obtain ⟨l, h1, h2, h3, h4⟩ := h
  obtain ⟨m, g1, g2, g3, g4⟩ := h'
  rw [h1.1, g1.1]
  exact h3.len_le (by omega) g2 (by omega)
theorem RefS.n_le {w w' : World} {s t : Sl} {x y : Nat} (h : RefS w s x) (h' : RefS w' t y) (hxy : x ≤ y) : s.n ≤ t.n := by
  obtain ⟨l, h1, h2, h3, h4⟩ := h
  obtain ⟨m, g1, g2, g3, g4⟩ := h'
  rw [h1.1, g1.1]
  exact h3.len_le (by omega) g2 (by omega)

end Go.Proofs.YtlpfkbkpnljieaaGreat

namespace Go.Proofs.YtlpfkbkpnljieaaGreat
open Go.RowKit

/-- t is the type of slices of T, whose values are integers of kind k. -/
structure RowTy (t T : TypeId) (k : IntKind) (bytes : Nat) : Prop where
  ut : Tryz.prog.underlying t = some (.slice T)
  inf : (Tryz.prog.info? T).map (fun i => (i.zero, i.size, i.bytes)) = some (some (.int k 0), 1, bytes)

theorem rowU32 : RowTy 23 149 .u32 4 := ⟨Tryz.underlying23, by kernel_rfl⟩
theorem rowInt : RowTy 33 3 .i64 8 := ⟨Tryz.underlying33, by kernel_rfl⟩
theorem rowByte : RowTy 177 5 .u8 1 := ⟨Tryz.underlying177, by kernel_rfl⟩

/-- The slice v, the call's own, holds the numbers l. -/
def Own (w : World) (base : Nat) (T : TypeId) (k : IntKind) (v : Value) (l : List Nat) : Prop :=
  w.ownsRow base T 1 v l.length (l.map fun d => Value.int k ((d : Nat) : Int))

theorem Own.ints {w : World} {base : Nat} {T : TypeId} {k : IntKind} {v : Value} {l : List Nat} (h : Own w base T k v l) :
    ∃ s : Sl, v = .slice s.ao s.n s.c ∧ IntsAt w T k s l := IntsAt.of_owns h

theorem Own.intsAt {w : World} {base : Nat} {T : TypeId} {k : IntKind} {ao : Option Addr} {n c : Nat} {l : List Nat} (h : Own w base T k (.slice ao n c) l) : IntsAt w T k ⟨ao, n, c⟩ l := by
  obtain ⟨s, hs, hi⟩ := h.ints
  obtain ⟨a, b, d⟩ := s
  simp only [Value.slice.injEq] at hs
  obtain ⟨rfl, rfl, rfl⟩ := hs
  exact hi

theorem Own.nil (w : World) (base : Nat) (T : TypeId) (k : IntKind) : Own w base T k (.slice none 0 0) [] := World.ownsRow_nil w base T 1

theorem Own.below {w w' : World} {base B : Nat} {T : TypeId} {k : IntKind} {v : Value} {l : List Nat} (h : Own w base T k v l) (hb : Below B w w') (hB : w.heap.size ≤ B) : Own w' base T k v l := by
  obtain ⟨h1, h2⟩ := h
  refine ⟨h1, ?_⟩
  rcases h2 with h2 | ⟨g, cap, cur, hv, hbg, hg, hr⟩
  · exact .inl h2
  · exact .inr ⟨g, cap, cur, hv, hbg, by rw [hb.block g (Nat.lt_of_lt_of_le (Array.getElem?_eq_some_iff.1 hg).1 hB)]; exact hg, hr⟩

theorem Own.alloc {w : World} {base : Nat} {T : TypeId} {k : IntKind} {v : Value} {l : List Nat} (h : Own w base T k v l) (o : Obj) : Own (w.alloc o) base T k v l :=
  h.below ((Below.refl _ _).alloc (Nat.le_refl _) o) (Nat.le_refl _)

theorem Own.drew {w : World} {base : Nat} {T : TypeId} {k : IntKind} {v : Value} {l : List Nat} (h : Own w base T k v l) : Own w.drew base T k v l := h

theorem below_of_grown {base : Nat} {w w' : World} {row : Option Nat} (hg : w.grownBy w' row) (hB : base ≤ w.heap.size) (hr : ∀ k, row = some k → base ≤ k) : Below base w w' :=
  (Below.refl base w).grown hg hB hr

theorem wpList_push {t T : TypeId} {k : IntKind} {bytes : Nat} (hT : RowTy t T k bytes) (w0 : World) {ops : Array Oper} {rest : List Oper} {o : Oper} {a : Act} {Q : Exit → Act → World → Prop}
    (hg : o.guard = none) (s x : Operand) (hop : o.op = Op.call { callee := Callee.builtin Builtin.append, args := #[s, x], argTypes := #[t, t] })
    (base : Nat) (v : Value) (l : List Nat) (z : Int) (d : Nat) (hs : a.eval s = v) (hx : a.eval x = .slice (some ⟨w0.heap.size, 0, none⟩) 1 1)
    (hown : Own w0 base T k v l) (hz : z = (d : Int)) (hlen : (l.length + 1) * bytes ≤ 140737488355328) (hlm : l.length + 1 ≤ maxLen) (hbase : base ≤ w0.heap.size)
    (hK : ∀ v' w', Own w' base T k v' (l ++ [d]) → Below base w0 w' → wpList Tryz.prog ops Q rest (a.put o.dst v') w') :
    wpList Tryz.prog ops Q (o :: rest) a (w0.alloc (.cells #[.int k z] T)) := by
  obtain ⟨i0, hi, hz0, hz1, hz2⟩ := info_parts hT.inf
  refine wpList_append_own _ hg s x t hop base T i0 (.int k 0) 1 bytes hT.ut hi hz0 hz1 hz2 rfl (by decide) v l.length _ hs (hown.alloc _) ⟨w0.heap.size, 0, none⟩ 1 1 [.int k z] hx rfl (cell_one_new _ _ _) ?_ hlm hlen (by simp; omega) ?_
  · intro u hu
    simp at hu
    subst hu
    rfl
  · intro v' w' h1 h2 _
    refine hK v' w' ?_ ?_
    · unfold Own
      subst hz
      simpa using h1
    · exact ((Below.refl base w0).alloc hbase _).grown h2 (by simp; omega) (fun g hgv => (hown.lt g hgv).1)

theorem wpList_mk {t T : TypeId} {k : IntKind} {bytes : Nat} (hT : RowTy t T k bytes) (w0 : World) {ops : Array Oper} {rest : List Oper} {o : Oper} {a : Act} {Q : Exit → Act → World → Prop}
    (hg : o.guard = none) (l c : Operand) (hop : o.op = Op.makeSlice t l c) (base : Nat) (kl kc : IntKind) (C : Int) (n : Nat) (hl : a.eval l = .int kl 0) (hc : a.eval c = .int kc C) (hC : C = (n : Int))
    (hbytes : bytes * n ≤ 281474976710656) (hn : n ≤ maxLen) (hbase : base ≤ w0.heap.size)
    (hK : ∀ v' w', Own w' base T k v' [] → Below base w0 w' → wpList Tryz.prog ops Q rest (a.put o.dst v') w') :
    wpList Tryz.prog ops Q (o :: rest) a w0 := by
  obtain ⟨i0, hi, hz0, hz1, hz2⟩ := info_parts hT.inf
  refine wpList_make_own _ hg l c t hop base T i0 (.int k 0) 1 hT.ut hi hz0 hz1 kl kc C n hl hc hC (by rw [hz2]; exact hbytes) hn hbase ?_
  intro w' h1 h2
  exact hK _ w' h1 (below_of_grown h2 hbase (by simp))

/-- 'make([]T, n)': n zeros. -/
theorem wpList_mkfull {t T : TypeId} {k : IntKind} {bytes : Nat} (hT : RowTy t T k bytes) (w0 : World) {ops : Array Oper} {rest : List Oper} {o : Oper} {a : Act} {Q : Exit → Act → World → Prop}
    (hg : o.guard = none) (l c : Operand) (hop : o.op = Op.makeSlice t l c) (base : Nat) (kl kc : IntKind) (L C : Int) (n : Nat) (hl : a.eval l = .int kl L) (hc : a.eval c = .int kc C) (hL : L = (n : Int)) (hC : C = (n : Int))
    (hbytes : bytes * n ≤ 281474976710656) (hn : n ≤ maxLen) (hbase : base ≤ w0.heap.size)
    (hK : ∀ w', Own w' base T k (.slice (some ⟨w0.heap.size, 0, none⟩) n n) (List.replicate n 0) → Below base w0 w' → w0.heap.size < w'.heap.size → wpList Tryz.prog ops Q rest (a.put o.dst (.slice (some ⟨w0.heap.size, 0, none⟩) n n)) w') :
    wpList Tryz.prog ops Q (o :: rest) a w0 := by
  obtain ⟨i0, hi, hz0, hz1, hz2⟩ := info_parts hT.inf
  refine wpList_make_full _ hg l c t hop base T i0 (.int k 0) 1 hT.ut hi hz0 hz1 kl kc L C n hl hc hL hC (by rw [hz2]; exact hbytes) hn hbase ?_
  intro w' h1 h2
  refine hK w' ?_ (below_of_grown h2 hbase (by simp)) ?_
  · unfold Own
    have e : (madeCells (Value.int k 0).cells (n * 1)).toList = (List.replicate n 0).map fun d => Value.int k ((d : Nat) : Int) := by
      apply List.ext_getElem (by simp [madeCells])
      intro j h1 h2
      simp [madeCells, Value.cells, Nat.mod_one]
    rw [e] at h1
    simpa using h1
  · have := (h1.lt w0.heap.size rfl).2
    exact this

/-- The same; all that was there stays. -/
theorem wpList_mkfull' {t T : TypeId} {k : IntKind} {bytes : Nat} (hT : RowTy t T k bytes) (w0 : World) {ops : Array Oper} {rest : List Oper} {o : Oper} {a : Act} {Q : Exit → Act → World → Prop}
    (hg : o.guard = none) (l c : Operand) (hop : o.op = Op.makeSlice t l c) (base : Nat) (kl kc : IntKind) (L C : Int) (n : Nat) (hl : a.eval l = .int kl L) (hc : a.eval c = .int kc C) (hL : L = (n : Int)) (hC : C = (n : Int))
    (hbytes : bytes * n ≤ 281474976710656) (hn : n ≤ maxLen) (hbase : base ≤ w0.heap.size)
    (hK : ∀ w', Own w' base T k (.slice (some ⟨w0.heap.size, 0, none⟩) n n) (List.replicate n 0) → Below w0.heap.size w0 w' → w0.heap.size < w'.heap.size → wpList Tryz.prog ops Q rest (a.put o.dst (.slice (some ⟨w0.heap.size, 0, none⟩) n n)) w') :
    wpList Tryz.prog ops Q (o :: rest) a w0 := by
  obtain ⟨i0, hi, hz0, hz1, hz2⟩ := info_parts hT.inf
  refine wpList_make_full _ hg l c t hop base T i0 (.int k 0) 1 hT.ut hi hz0 hz1 kl kc L C n hl hc hL hC (by rw [hz2]; exact hbytes) hn hbase ?_
  intro w' h1 h2
  refine hK w' ?_ (below_of_grown h2 (Nat.le_refl _) (by simp)) ?_
  · unfold Own
    have e : (madeCells (Value.int k 0).cells (n * 1)).toList = (List.replicate n 0).map fun d => Value.int k ((d : Nat) : Int) := by
      apply List.ext_getElem (by simp [madeCells])
      intro j h1 h2
      simp [madeCells, Value.cells, Nat.mod_one]
    rw [e] at h1
    simpa using h1
  · have := (h1.lt w0.heap.size rfl).2
    exact this

/-- 'append(v, s...)', v the call's own, s a slice with an element. -/
theorem wpList_pushAll {t T : TypeId} {k : IntKind} {bytes : Nat} (hT : RowTy t T k bytes) (w0 : World) {ops : Array Oper} {rest : List Oper} {o : Oper} {a : Act} {Q : Exit → Act → World → Prop}
    (hg : o.guard = none) (s x : Operand) (hop : o.op = Op.call { callee := Callee.builtin Builtin.append, args := #[s, x], argTypes := #[t, t] })
    (base : Nat) (v : Value) (l l2 : List Nat) (sl : Sl) (hs : a.eval s = v) (hx : a.eval x = .slice sl.ao sl.n sl.c)
    (hown : Own w0 base T k v l) (hi : IntsAt w0 T k sl l2) (hp : 0 < sl.n) (hlen : (l.length + l2.length) * bytes ≤ 140737488355328) (hlm : l.length + l2.length ≤ maxLen) (hbase : base ≤ w0.heap.size)
    (hK : ∀ v' w', Own w' base T k v' (l ++ l2) → Below base w0 w' → wpList Tryz.prog ops Q rest (a.put o.dst v') w') :
    wpList Tryz.prog ops Q (o :: rest) a w0 := by
  obtain ⟨i0, hi0, hz0, hz1, hz2⟩ := info_parts hT.inf
  obtain ⟨b, off, ha, hb, hc⟩ := hi.open hp
  have hn := hi.1
  refine wpList_append_own _ hg s x t hop base T i0 (.int k 0) 1 bytes hT.ut hi0 hz0 hz1 hz2 rfl (by decide) v l.length _ hs hown ⟨b, off, none⟩ sl.n sl.c (l2.map fun d => Value.int k ((d : Nat) : Int)) (by rw [hx, ha]) (by simp [hn]) ?_ ?_ (by rw [hn]; exact hlm) (by rw [hn]; exact hlen) hbase ?_
  · intro j u hj
    simp only [List.getElem?_map, Option.map_eq_some_iff] at hj
    obtain ⟨d, hd, rfl⟩ := hj
    have hjl : j < l2.length := (List.getElem?_eq_some_iff.1 hd).1
    have := hc j (by omega)
    rw [dg_of hjl] at this
    have e : l2[j] = d := (List.getElem?_eq_some_iff.1 hd).2
    rw [e] at this
    rw [← this]
    unfold Addr.add
    split
    · rename_i h0; subst h0; rfl
    · rfl
  · intro u hu
    simp only [List.mem_map] at hu
    obtain ⟨d, _, rfl⟩ := hu
    rfl
  · intro v' w' h1 h2 _
    refine hK v' w' ?_ ((Below.refl base w0).grown h2 hbase (fun g hgv => (hown.lt g hgv).1))
    unfold Own
    rw [List.length_append, List.map_append, ← hn]
    exact h1

/-- 'make([]T, m, n)': m zeros, room for n. -/
theorem wpList_mkcap {t T : TypeId} {k : IntKind} {bytes : Nat} (hT : RowTy t T k bytes) (w0 : World) {ops : Array Oper} {rest : List Oper} {o : Oper} {a : Act} {Q : Exit → Act → World → Prop}
    (hg : o.guard = none) (l c : Operand) (hop : o.op = Op.makeSlice t l c) (base : Nat) (kl kc : IntKind) (L C : Int) (m n : Nat) (hl : a.eval l = .int kl L) (hc : a.eval c = .int kc C) (hL : L = (m : Int)) (hC : C = (n : Int)) (hmn : m ≤ n)
    (hbytes : bytes * n ≤ 281474976710656) (hn : n ≤ maxLen) (hbase : base ≤ w0.heap.size)
    (hK : ∀ v' w', Own w' base T k v' (List.replicate m 0) → Below base w0 w' → w0.heap.size < w'.heap.size → wpList Tryz.prog ops Q rest (a.put o.dst v') w') :
    wpList Tryz.prog ops Q (o :: rest) a w0 := by
  obtain ⟨i0, hi, hz0, hz1, hz2⟩ := info_parts hT.inf
  have hnm : n ≤ 9223372036854775807 := by have := hn; simp only [maxLen] at this; omega
  have hr := run_make (P := Tryz.prog) w0 t T i0 (.int k 0) hT.ut hi hz0 kl kc (m : Int) (n : Int) (by omega) (by omega) (by rw [hz2, ← Int.natCast_mul]; omega) (by omega)
  simp only [Int.toNat_natCast, hz1, Nat.mul_one] at hr
  refine wpList_plain hg fun K hK' => ?_
  subst hL
  subst hC
  unfold Oper.wp
  simp [execOp, hop, hl, hc, hr, Result.andThen]
  refine hK' _ _ (hK _ _ ?_ ((Below.refl base w0).alloc hbase _) (by simp))
  refine ⟨by simp, .inr ⟨w0.heap.size, n, _, by simp, hbase, heap_alloc_new w0 _, by simpa using hmn, hn, by simp [madeCells], ?_⟩⟩
  apply List.ext_getElem (by simp [madeCells]; omega)
  intro j h1 h2
  simp [madeCells, Value.cells, Nat.mod_one]

/-- A cell of a row of the call's own. -/
theorem Own.slot {w : World} {base : Nat} {T : TypeId} {k : IntKind} {g n c : Nat} {l : List Nat} (h : Own w base T k (.slice (some ⟨g, 0, none⟩) n c) l) (i : Nat) (hi : i < l.length) :
    w.cell? ⟨g, i, none⟩ = some (.int k ((dg l i : Nat) : Int)) ∧ w.frozen? ⟨g, i, none⟩ = false ∧ base ≤ g ∧ g < w.heap.size := by
  have hn : n = l.length := by
    rcases h.2 with ⟨e, _⟩ | ⟨_, _, _, e, _⟩
    · simp at e
    · simp at e; exact e.2.1
  subst hn
  refine ⟨?_, World.ownsRow.frozenAt h i, h.lt g rfl⟩
  rw [World.ownsRow.cellAt h i (by omega)]
  simp [dg, hi]

theorem Own.store {w : World} {base : Nat} {T : TypeId} {k : IntKind} {g n c : Nat} {l : List Nat} (h : Own w base T k (.slice (some ⟨g, 0, none⟩) n c) l) (i d : Nat) :
    Own (w.setCell ⟨g, i, none⟩ (.int k ((d : Nat) : Int))) base T k (.slice (some ⟨g, 0, none⟩) n c) (l.set i d) ∧ Below base w (w.setCell ⟨g, i, none⟩ (.int k ((d : Nat) : Int))) := by
  have hn : n = l.length := by
    rcases h.2 with ⟨e, _⟩ | ⟨_, _, _, e, _⟩
    · simp at e
    · simp at e; exact e.2.1
  subst hn
  have h1 := World.ownsRow.stored h i (.int k ((d : Nat) : Int))
  refine ⟨?_, (Below.refl base w).setCell (h.lt g rfl).1 _⟩
  have h2 := h1.1
  unfold Own
  rw [List.length_set]
  rw [show (l.set i d).map (fun d => Value.int k ((d : Nat) : Int)) = (l.map (fun d => Value.int k ((d : Nat) : Int))).set i (Value.int k ((d : Nat) : Int)) from by rw [List.map_set]]
  exact h2

theorem Own.store' {w : World} {base : Nat} {T : TypeId} {k : IntKind} {g n c : Nat} {l : List Nat} (h : Own w base T k (.slice (some ⟨g, 0, none⟩) n c) l) (i : Nat) (z : Int) (d : Nat) (hz : z = (d : Int)) :
    Own (w.setCell ⟨g, i, none⟩ (.int k z)) base T k (.slice (some ⟨g, 0, none⟩) n c) (l.set i d) ∧ Below base w (w.setCell ⟨g, i, none⟩ (.int k z)) := by
  subst hz
  exact h.store i d

/-- A store into another row. -/
theorem Own.set_ne {w : World} {base : Nat} {T : TypeId} {k : IntKind} {g n c : Nat} {l : List Nat} (h : Own w base T k (.slice (some ⟨g, 0, none⟩) n c) l) {a : Addr} (ha : g ≠ a.block) (u : Value) :
    Own (w.setCell a u) base T k (.slice (some ⟨g, 0, none⟩) n c) l := by
  obtain ⟨h1, h2⟩ := h
  refine ⟨h1, ?_⟩
  rcases h2 with ⟨e, _⟩ | ⟨g', cap, cur, hv, hbg, hg, hr⟩
  · simp at e
  · simp only [Value.slice.injEq, Option.some.injEq, Addr.mk.injEq, and_true] at hv
    obtain ⟨rfl, hv1, hv2⟩ := hv
    exact .inr ⟨g, cap, cur, by rw [hv1, hv2], hbg, by rw [Below.heap_setCell _ _ _ _ ha]; exact hg, hr⟩

/-! Boxes: the blocks of local structs. -/
theorem ent_new (w : World) (o : Obj) : (w.alloc o).heap[w.heap.size]? = some o := heap_alloc_new w o
theorem ent_old {w : World} {k : Nat} {o : Obj} (h : w.heap[k]? = some o) (o' : Obj) : (w.alloc o').heap[k]? = some o := by
  rw [Below.heap_alloc w o' k (Array.getElem?_eq_some_iff.1 h).1]; exact h
theorem ent_below {B : Nat} {w w' : World} {k : Nat} {o : Obj} (hb : Below B w w') (hk : k < B) (h : w.heap[k]? = some o) : w'.heap[k]? = some o := (hb.block k hk).trans h
theorem ent_up {w w' : World} {k : Nat} {o : Obj} (hb : Below w.heap.size w w') (h : w.heap[k]? = some o) : w'.heap[k]? = some o := ent_below hb (Array.getElem?_eq_some_iff.1 h).1 h
theorem ent_cell {w : World} {b : Nat} {c : Array Value} {T : TypeId} {f : Nat × Nat} (h : w.heap[b]? = some (.cells c T f)) (i : Nat) : w.cell? ⟨b, i, none⟩ = c[i]? := cell_of_row w b i c T f h
theorem ent_frozen {w : World} {b : Nat} {c : Array Value} {T : TypeId} (h : w.heap[b]? = some (.cells c T (0, 0))) (i : Nat) : w.frozen? ⟨b, i, none⟩ = false := frozen_of_row w b i c T h
theorem ent_lt {w : World} {b : Nat} {o : Obj} (h : w.heap[b]? = some o) : b < w.heap.size := (Array.getElem?_eq_some_iff.1 h).1
theorem heap_setCell_same' (w : World) (b i : Nat) (c : Array Value) (T : TypeId) (f : Nat × Nat) (v : Value) (h : w.heap[b]? = some (.cells c T f)) : (w.setCell ⟨b, i, none⟩ v).heap[b]? = some (.cells (c.setIfInBounds i v) T f) := by
  simp [World.setCell, Array.getElem?_modify, h]
theorem ent_set {w : World} {b i : Nat} {c : Array Value} {T : TypeId} {f : Nat × Nat} (h : w.heap[b]? = some (.cells c T f)) (v : Value) : (w.setCell ⟨b, i, none⟩ v).heap[b]? = some (.cells (c.setIfInBounds i v) T f) := heap_setCell_same' w b i c T f v h
theorem ent_set_other {w : World} {b : Nat} {o : Obj} (h : w.heap[b]? = some o) {a : Addr} (hab : b ≠ a.block) (v : Value) : (w.setCell a v).heap[b]? = some o := by
  rw [Below.heap_setCell _ _ _ _ hab]; exact h

theorem ents1 (w : World) (o1 : Obj) : (w.alloc o1).heap[w.heap.size]? = some o1 ∧ (w.alloc o1).heap.size = w.heap.size + 1 := ⟨ent_new w o1, by simp⟩
theorem ents2 (w : World) (o1 o2 : Obj) : ((w.alloc o1).alloc o2).heap[w.heap.size]? = some o1 ∧ ((w.alloc o1).alloc o2).heap[w.heap.size + 1]? = some o2 ∧ ((w.alloc o1).alloc o2).heap.size = w.heap.size + 2 :=
  ⟨ent_old (ent_new w o1) o2, by have := ent_new (w.alloc o1) o2; simpa using this, by simp⟩
theorem ents3 (w : World) (o1 o2 o3 : Obj) : (((w.alloc o1).alloc o2).alloc o3).heap[w.heap.size]? = some o1 ∧ (((w.alloc o1).alloc o2).alloc o3).heap[w.heap.size + 1]? = some o2 ∧ (((w.alloc o1).alloc o2).alloc o3).heap[w.heap.size + 1 + 1]? = some o3 ∧ (((w.alloc o1).alloc o2).alloc o3).heap.size = w.heap.size + 3 :=
  ⟨ent_old (ents2 w o1 o2).1 o3, ent_old (ents2 w o1 o2).2.1 o3, by have := ent_new ((w.alloc o1).alloc o2) o3; simpa using this, by simp⟩
theorem ents4 (w : World) (o1 o2 o3 o4 : Obj) : ((((w.alloc o1).alloc o2).alloc o3).alloc o4).heap[w.heap.size]? = some o1 ∧ ((((w.alloc o1).alloc o2).alloc o3).alloc o4).heap[w.heap.size + 1]? = some o2 ∧ ((((w.alloc o1).alloc o2).alloc o3).alloc o4).heap[w.heap.size + 1 + 1]? = some o3 ∧ ((((w.alloc o1).alloc o2).alloc o3).alloc o4).heap[w.heap.size + 1 + 1 + 1]? = some o4 ∧ ((((w.alloc o1).alloc o2).alloc o3).alloc o4).heap.size = w.heap.size + 4 :=
  ⟨ent_old (ents3 w o1 o2 o3).1 o4, ent_old (ents3 w o1 o2 o3).2.1 o4, ent_old (ents3 w o1 o2 o3).2.2.1 o4, by have := ent_new (((w.alloc o1).alloc o2).alloc o3) o4; simpa using this, by simp⟩

end Go.Proofs.YtlpfkbkpnljieaaGreat

namespace Go.Proofs.YtlpfkbkpnljieaaGreat
open Go.RowKit

set_option maxHeartbeats 4000000 in
set_option maxRecDepth 100000 in
theorem len32_walk (x : Int) (w : World) (h0 : 0 ≤ x) (h1 : x ≤ 4294967295) :
    Calls Tryz.prog 107 #[.int .u32 x] w fun e w' => e = .returned (.int .i64 (Lib.bitLen x.toNat)) ∧ w = w' := by
  have key : ∀ y : Int, 0 ≤ y → y ≤ 255 → (∀ w, (Instr.index 9 (.string Lib.len8tab) (.int .u8 y)).run Tryz.prog w = .ok (.int .u8 (Lib.bitLen y.toNat : Int)) w) ∧ Lib.bitLen y.toNat ≤ 8 := fun y a b => by
    have l := Lib.bitLen_le8' y a b
    refine ⟨fun w => ?_, by omega⟩
    rw [Lib.run_index_len8tab (P := Tryz.prog) w 9 .u8 y Tryz.underlying9 a b, Lib.len8_of y a b]
  by_cases c1 : x < 65536
  · by_cases c2 : x < 256
    · obtain ⟨k1, k2⟩ := key x h0 (by omega)
      go_enter Tryz.func107, Tryz.ntmps107
      go_wp2
      go_ret
      exact ⟨rfl, rfl⟩
    · have s := Lib.bitLen_shift8 x.toNat (by omega) (by omega)
      obtain ⟨k1, k2⟩ := key (x / 256) (by omega) (by omega)
      have e : (x / 256).toNat = x.toNat / 256 := by omega
      rw [e] at k1 k2
      generalize Lib.bitLen (x.toNat / 256) = b at *
      have hs := Lib.hid s; clear s
      go_enter Tryz.func107, Tryz.ntmps107
      go_wp2
      go_ret
      exact ⟨congrArg Ending.returned (congrArg (Value.int IntKind.i64) (by have := hs.out; omega)), rfl⟩
  · by_cases c2 : x / 65536 < 256
    · have s := Lib.bitLen_shift16 x.toNat (by omega) (by omega)
      obtain ⟨k1, k2⟩ := key (x / 65536) (by omega) (by omega)
      have e : (x / 65536).toNat = x.toNat / 65536 := by omega
      rw [e] at k1 k2
      generalize Lib.bitLen (x.toNat / 65536) = b at *
      have hs := Lib.hid s; clear s
      go_enter Tryz.func107, Tryz.ntmps107
      go_wp2
      go_ret
      exact ⟨congrArg Ending.returned (congrArg (Value.int IntKind.i64) (by have := hs.out; omega)), rfl⟩
    · have s := Lib.bitLen_shift24 x.toNat (by omega) (by omega)
      obtain ⟨k1, k2⟩ := key (x / 65536 / 256) (by omega) (by omega)
      have e : (x / 65536 / 256).toNat = x.toNat / 16777216 := by omega
      rw [e] at k1 k2
      generalize Lib.bitLen (x.toNat / 16777216) = b at *
      have hs := Lib.hid s; clear s
      go_enter Tryz.func107, Tryz.ntmps107
      go_wp2
      go_ret
      exact ⟨congrArg Ending.returned (congrArg (Value.int IntKind.i64) (by have := hs.out; omega)), rfl⟩

/-- The number of bits. -/
def bl (x : Nat) : Nat := if x = 0 then 0 else Nat.log2 x + 1

theorem bitLenAux_eq : ∀ (f x : Nat), x < 2 ^ f → Lib.bitLenAux f x = bl x
  | 0, x, h => by obtain rfl : x = 0 := by omega
                  rfl
  | f + 1, x, h => by
    unfold Lib.bitLenAux bl
    split
    · rfl
    · rename_i hx
      rw [bitLenAux_eq f (x / 2) (by omega)]
      unfold bl
      rw [Nat.log2_def x]
      split <;> split <;> omega

theorem bl_lib (x : Nat) (h : x < 4294967296) : Lib.bitLen x = bl x := bitLenAux_eq 64 x (by omega)

theorem bl_le (x k : Nat) : bl x ≤ k ↔ x < 2 ^ k := by
  unfold bl
  split
  · rename_i h; subst h; simp; exact Nat.pow_pos (by omega)
  · rename_i h
    rw [← Nat.log2_lt h]
    omega

theorem len32_spec (x : Nat) (w : World) (h : x < 4294967296) :
    Calls Tryz.prog 107 #[.int .u32 (x : Int)] w fun e w' => e = .returned (.int .i64 (bl x : Int)) ∧ w = w' := by
  refine (len32_walk x w (by omega) (by omega)).mono ?_
  rintro e w' ⟨rfl, rfl⟩
  rw [Int.toNat_natCast, bl_lib x h]
  exact ⟨rfl, rfl⟩

set_option maxHeartbeats 400000 in
theorem lead32_spec (x : Nat) (w : World) (h : x < 4294967296) :
    Calls Tryz.prog 129 #[.int .u32 (x : Int)] w fun e w' => e = .returned (.int .i64 ((32 - bl x : Nat) : Int)) ∧ w = w' := by
  have hb : bl x ≤ 32 := (bl_le x 32).2 (by omega)
  go_enter Tryz.func129, Tryz.ntmps129
  go_wp2_with (go_at_call 107; refine (len32_spec x _ h).mono ?_; rintro e w' ⟨rfl, rfl⟩)
  go_ret
  have e : ((32 - bl x : Nat) : Int) = 32 - (bl x : Int) := by omega
  rw [e]
  exact ⟨rfl, rfl⟩

end Go.Proofs.YtlpfkbkpnljieaaGreat

namespace Go.Proofs.YtlpfkbkpnljieaaGreat
open Go.RowKit

theorem box_after {w w' : World} {c : Array Value} {T : TypeId} (h : Below (w.alloc (.cells c T)).heap.size (w.alloc (.cells c T)) w') : w'.heap[w.heap.size]? = some (.cells c T (0, 0)) := ent_up h (ent_new _ _)
theorem box_cell {w : World} {b : Nat} {v : Value} {T : TypeId} (h : w.heap[b]? = some (.cells #[v] T (0, 0))) : w.cell? ⟨b, 0, none⟩ = some v := ent_cell h 0
theorem box_after_drew {w w' : World} {c : Array Value} {T : TypeId} (h : Below (w.alloc (.cells c T)).drew.heap.size (w.alloc (.cells c T)).drew w') : w'.heap[w.heap.size]? = some (.cells c T (0, 0)) := ent_up (below_undrew h) (ent_new _ _)
theorem NatS.alloc {w : World} {s : Sl} {x : Nat} (h : NatS w s x) (o : Obj) : NatS (w.alloc o) s x := h.up ((Below.refl _ _).alloc (Nat.le_refl _) o)
/-- All of W is as it was. -/
def Grew (W w : World) : Prop := Below W.heap.size W w
theorem Grew.refl (W : World) : Grew W W := Below.refl _ _
theorem Grew.call {W w w' : World} (h : Grew W w) (hb : Below w.heap.size w w') : Grew W w' := Below.trans h (hb.mono (Below.size h))
theorem Grew.alloc {W w : World} (h : Grew W w) (o : Obj) : Grew W (w.alloc o) := Below.alloc h (Below.size h) o
theorem Grew.drew {W w : World} (h : Grew W w) : Grew W w.drew := Below.drew h
theorem Grew.set {W w : World} (h : Grew W w) {a : Addr} (ha : W.heap.size ≤ a.block) (v : Value) : Grew W (w.setCell a v) := Below.setCell h ha v
theorem Grew.trans {W w w' : World} (h : Grew W w) (h' : Grew w w') : Grew W w' := h.call h'
theorem Grew.below {B : Nat} {w0 W w : World} (h : Below B w0 W) (h' : Grew W w) (hB : B ≤ W.heap.size) : Below B w0 w := h.trans (Below.mono h' hB)
theorem NatS.grew {W w : World} {s : Sl} {x : Nat} (h : NatS W s x) (hg : Grew W w) : NatS w s x := h.up hg
theorem RefS.grew {W w : World} {s : Sl} {x : Nat} (h : RefS W s x) (hg : Grew W w) : RefS w s x := h.up hg
theorem cell_grew {W w : World} {k : Nat} {v : Value} {T : TypeId} (hg : Grew W w) (h : W.heap[k]? = some (.cells #[v] T (0, 0))) : w.cell? ⟨k, 0, none⟩ = some v := box_cell (ent_up hg h)

theorem RefS.alloc {w : World} {s : Sl} {x : Nat} (h : RefS w s x) (o : Obj) : RefS (w.alloc o) s x := h.up ((Below.refl _ _).alloc (Nat.le_refl _) o)

/-- The blocks from b on are as they were. -/
def KeptUp (W : World) (b : Nat) (w : World) : Prop := ∀ k, b ≤ k → w.heap[k]? = W.heap[k]?
theorem KeptUp.refl (W : World) (b : Nat) : KeptUp W b W := fun _ _ => rfl
theorem KeptUp.drew {W w : World} {b : Nat} (h : KeptUp W b w) : KeptUp W b w.drew := h
theorem KeptUp.set {W w : World} {b : Nat} (h : KeptUp W b w) {a : Addr} (ha : a.block < b) (v : Value) : KeptUp W b (w.setCell a v) := fun k hk => by
  rw [Below.heap_setCell _ _ _ _ (by omega)]
  exact h k hk
end Go.Proofs.YtlpfkbkpnljieaaGreat

namespace Go.Proofs.YtlpfkbkpnljieaaGreat
open Go.RowKit

/-- The prepended row. -/
theorem run_prepend (w : World) (B : Nat) (z : Int) (d : Nat) (hz : z = (d : Int)) (sl : Sl) (l2 : List Nat) (ty : TypeId) (hB : w.heap[B]? = some (.cells #[.int .i64 z] 3 (0, 0))) (hi : IntsAt w 3 .i64 sl l2) (hl : (1 + l2.length) * 8 ≤ 140737488355328) :
    ∃ (u : Sl) (w' : World), (Builtin.append_ #[33, 33] ty #[.slice (some ⟨B, 0, none⟩) 1 1, .slice sl.ao sl.n sl.c]).run Tryz.prog w = .ok (.slice u.ao u.n u.c) w' ∧
      Own w' B 3 .i64 (.slice u.ao u.n u.c) (d :: l2) ∧ Below B w w' := by
  obtain ⟨i0, hi0, hz0, hz1, hz2⟩ := info_parts rowInt.inf
  have hBl := ent_lt hB
  subst hz
  have hown : w.ownsRow B 3 1 (.slice (some ⟨B, 0, none⟩) 1 1) 1 [.int .i64 ((d : Nat) : Int)] :=
    ⟨by simp, .inr ⟨B, 1, _, rfl, Nat.le_refl _, hB, Nat.le_refl _, by decide, by simp, by simp⟩⟩
  have hn := hi.1
  rcases hao : sl.ao with _ | ad
  · have h0 : sl.n = 0 := by
      by_cases hp : 0 < sl.n
      · obtain ⟨b, off, ha, _⟩ := hi.open hp
        rw [hao] at ha
        simp at ha
      · omega
    have hl2 : l2 = [] := List.eq_nil_of_length_eq_zero (by omega)
    subst hl2
    rw [h0]
    have hr := run_append_nothing (P := Tryz.prog) w 33 33 ty 3 i0 rowInt.ut hi0 (some ⟨B, 0, none⟩) 1 1 (Nat.le_refl _) (.slice none 0 sl.c) (Src.ofNil w rowInt.ut sl.c)
    exact ⟨⟨some ⟨B, 0, none⟩, 1, 1⟩, w, hr, hown, Below.refl _ _⟩
  · have hnews : ∀ j u, (l2.map fun d => Value.int .i64 ((d : Nat) : Int))[j]? = some u → w.cell? (ad.add j) = some u := by
      intro j u hj
      simp only [List.getElem?_map, Option.map_eq_some_iff] at hj
      obtain ⟨d', hd, rfl⟩ := hj
      have hjl : j < l2.length := (List.getElem?_eq_some_iff.1 hd).1
      obtain ⟨b, off, ha, hb, hc⟩ := hi.open (by omega)
      rw [hao] at ha
      simp only [Option.some.injEq] at ha
      subst ha
      have := hc j (by omega)
      rw [dg_of hjl] at this
      have e : l2[j] = d' := (List.getElem?_eq_some_iff.1 hd).2
      rw [e] at this
      rw [← this]
      unfold Addr.add
      split
      · rename_i h0; subst h0; rfl
      · rfl
    have hone : ∀ u ∈ (l2.map fun d => Value.int .i64 ((d : Nat) : Int)), u.oneCell' = true := by
      intro u hu
      simp only [List.mem_map] at hu
      obtain ⟨d', _, rfl⟩ := hu
      rfl
    obtain ⟨v', w', hr, h2, h3, _⟩ := run_append_own (P := Tryz.prog) w B 33 ty 3 i0 (.int .i64 0) 1 8 rowInt.ut hi0 hz0 hz1 hz2 rfl (by decide) _ 1 _ hown ad sl.n sl.c (l2.map fun d => Value.int .i64 ((d : Nat) : Int)) (by simp [hn]) hnews hone (by rw [hn]; unfold maxLen; omega) (by rw [hn]; exact hl) (Nat.le_of_lt hBl)
    have hO : Own w' B 3 .i64 v' (d :: l2) := by
      unfold Own
      have e : (d :: l2).length = 1 + sl.n := by simp [hn]; omega
      rw [e]
      exact h2
    obtain ⟨u, hu, _⟩ := hO.ints
    rw [hu] at hr hO
    exact ⟨u, w', hr, hO, (Below.refl B w).grown h3 (Nat.le_of_lt hBl) (fun g hg => by simp [Value.ownBlock] at hg; omega)⟩

/-- At the operation. -/
theorem wp_prepend {w : World} {o : Oper} {a : Act} {K : Act → World → Prop} {Q : Exit → Act → World → Prop} (s x : Operand)
    (ho : o.op = .call { callee := .builtin .append, args := #[s, x], argTypes := #[33, 33] }) (B : Nat) (z : Int) (d : Nat) (sl : Sl) (l2 : List Nat) (hs : a.eval s = .slice (some ⟨B, 0, none⟩) 1 1) (hx : a.eval x = .slice sl.ao sl.n sl.c)
    (hz : z = (d : Int)) (hB : w.heap[B]? = some (.cells #[.int .i64 z] 3 (0, 0))) (hi : IntsAt w 3 .i64 sl l2) (hl : (1 + l2.length) * 8 ≤ 140737488355328)
    (h : ∀ (u : Sl) (w' : World), Own w' B 3 .i64 (.slice u.ao u.n u.c) (d :: l2) → Below B w w' → K (a.put o.dst (.slice u.ao u.n u.c)) w') : o.wp Tryz.prog a w K Q := by
  obtain ⟨u, w', hr, h2, h3⟩ := run_prepend w B z d hz sl l2 o.type hB hi hl
  unfold Oper.wp execOp
  simp only [ho, resolve, invoke, builtin, Sem.run_bind, Sem.run_pure, Result.andThen_ok, List.map_toArray, List.map_cons, List.map_nil, hs, hx, hr]
  exact h u w' h2 h3

/-- At a step of a region that draws its order. -/
theorem step_prepend {w : World} {ops : Array Oper} {o : Oper} {a : Act} {K : Act → World → Prop} {Q : Exit → Act → World → Prop} {E : Prop} (hgd : o.guard = none) (s x : Operand)
    (ho : o.op = .call { callee := .builtin .append, args := #[s, x], argTypes := #[33, 33] }) (B : Nat) (z : Int) (d : Nat) (sl : Sl) (l2 : List Nat) (hs : a.eval s = .slice (some ⟨B, 0, none⟩) 1 1) (hx : a.eval x = .slice sl.ao sl.n sl.c)
    (hz : z = (d : Int)) (hB : w.heap[B]? = some (.cells #[.int .i64 z] 3 (0, 0))) (hi : IntsAt w 3 .i64 sl l2) (hl : (1 + l2.length) * 8 ≤ 140737488355328)
    (h : ∀ (u : Sl) (w' : World), Own w' B 3 .i64 (.slice u.ao u.n u.c) (d :: l2) → Below B w w' → K (a.put o.dst (.slice u.ao u.n u.c)) w') :
    if Region.wanted o (yielded ops a.tmps) = true then Oper.wp Tryz.prog o a w K Q else E := by
  have hw : Region.wanted o (yielded ops a.tmps) = true := by simp [Region.wanted, hgd]
  rw [if_pos hw]
  exact wp_prepend s x ho B z d sl l2 hs hx hz hB hi hl h

end Go.Proofs.YtlpfkbkpnljieaaGreat
