/- Rows of integers that the call itself makes: make, append of one element, reading, writing. -/
import Derived.Test.YtnjohlimjbmkgaaProg
import Derived.Test.YtnjohlimjbmkgaaRep
import Derived.KernelRfl
namespace Go.Proofs.Ytnjohlimjbmkgaa
open Go.RowKit

/-- t is the type of slices of T, whose values are integers of kind k. -/
structure RowTy (t T : TypeId) (k : IntKind) (bytes : Nat) : Prop where
  ut : Try.prog.underlying t = some (.slice T)
  inf : (Try.prog.info? T).map (fun i => (i.zero, i.size, i.bytes)) = some (some (.int k 0), 1, bytes)

theorem rowU32 : RowTy 29 113 .u32 4 := ⟨Try.underlying29, by kernel_rfl⟩
theorem rowInt : RowTy 24 3 .i64 8 := ⟨Try.underlying24, by kernel_rfl⟩
theorem rowByte : RowTy 76 5 .u8 1 := ⟨Try.underlying76, by kernel_rfl⟩

/-- The slice v, the call's own, holds the numbers l. -/
def Own (w : World) (base : Nat) (T : TypeId) (k : IntKind) (v : Value) (l : List Nat) : Prop :=
  w.ownsRow base T 1 v l.length (l.map fun d => Value.int k ((d : Nat) : Int))

theorem Own.ints {w : World} {base : Nat} {T : TypeId} {k : IntKind} {v : Value} {l : List Nat} (h : Own w base T k v l) :
    ∃ s : Sl, v = .slice s.ao s.n s.c ∧ IntsAt w T k s l := IntsAt.of_owns h

theorem Own.intsAt {w : World} {base : Nat} {T : TypeId} {k : IntKind} {ao : Option Addr} {n c : Nat} {l : List Nat} (h : Own w base T k (.slice ao n c) l) : IntsAt w T k ⟨ao, n, c⟩ l := by
  obtain ⟨s, hs, hi⟩ := h.ints
  obtain ⟨a, b, d⟩ := s
  simp only [Value.slice.injEq] at hs
  obtain ⟨rfl, rfl, rfl⟩ := hs
  exact hi

theorem Own.nil (w : World) (base : Nat) (T : TypeId) (k : IntKind) : Own w base T k (.slice none 0 0) [] := World.ownsRow_nil w base T 1

theorem Own.below {w w' : World} {base B : Nat} {T : TypeId} {k : IntKind} {v : Value} {l : List Nat} (h : Own w base T k v l) (hb : Below B w w') (hB : w.heap.size ≤ B) : Own w' base T k v l := by
  obtain ⟨h1, h2⟩ := h
  refine ⟨h1, ?_⟩
  rcases h2 with h2 | ⟨g, cap, cur, hv, hbg, hg, hr⟩
  · exact .inl h2
  · exact .inr ⟨g, cap, cur, hv, hbg, by rw [hb.block g (Nat.lt_of_lt_of_le (Array.getElem?_eq_some_iff.1 hg).1 hB)]; exact hg, hr⟩

theorem Own.alloc {w : World} {base : Nat} {T : TypeId} {k : IntKind} {v : Value} {l : List Nat} (h : Own w base T k v l) (o : Obj) : Own (w.alloc o) base T k v l :=
  h.below ((Below.refl _ _).alloc (Nat.le_refl _) o) (Nat.le_refl _)

theorem Own.drew {w : World} {base : Nat} {T : TypeId} {k : IntKind} {v : Value} {l : List Nat} (h : Own w base T k v l) : Own w.drew base T k v l := h

theorem Own.set_other {w : World} {base : Nat} {T : TypeId} {k : IntKind} {v : Value} {l : List Nat} (h : Own w base T k v l) {a : Addr} (ha : a.block < base) (u : Value) : Own (w.setCell a u) base T k v l :=
  ownsRow_setCell_below h ha u

theorem below_of_grown {base : Nat} {w w' : World} {row : Option Nat} (hg : w.grownBy w' row) (hB : base ≤ w.heap.size) (hr : ∀ k, row = some k → base ≤ k) : Below base w w' :=
  (Below.refl base w).grown hg hB hr

theorem wpList_push {t T : TypeId} {k : IntKind} {bytes : Nat} (hT : RowTy t T k bytes) (w0 : World) {ops : Array Oper} {rest : List Oper} {o : Oper} {a : Act} {Q : Exit → Act → World → Prop}
    (hg : o.guard = none) (s x : Operand) (hop : o.op = Op.call { callee := Callee.builtin Builtin.append, args := #[s, x], argTypes := #[t, t] })
    (base : Nat) (v : Value) (l : List Nat) (z : Int) (d : Nat) (hs : a.eval s = v) (hx : a.eval x = .slice (some ⟨w0.heap.size, 0, none⟩) 1 1)
    (hown : Own w0 base T k v l) (hz : z = (d : Int)) (hlen : (l.length + 1) * bytes ≤ 140737488355328) (hlm : l.length + 1 ≤ maxLen) (hbase : base ≤ w0.heap.size)
    (hK : ∀ v' w', Own w' base T k v' (l ++ [d]) → Below base w0 w' → wpList Try.prog ops Q rest (a.put o.dst v') w') :
    wpList Try.prog ops Q (o :: rest) a (w0.alloc (.cells #[.int k z] T)) := by
  obtain ⟨i0, hi, hz0, hz1, hz2⟩ := info_parts hT.inf
  refine wpList_append_own _ hg s x t hop base T i0 (.int k 0) 1 bytes hT.ut hi hz0 hz1 hz2 rfl (by decide) v l.length _ hs (hown.alloc _) ⟨w0.heap.size, 0, none⟩ 1 1 [.int k z] hx rfl (cell_one_new _ _ _) ?_ hlm hlen (by simp; omega) ?_
  · intro u hu
    simp at hu
    subst hu
    rfl
  · intro v' w' h1 h2 _
    refine hK v' w' ?_ ?_
    · unfold Own
      subst hz
      simpa using h1
    · exact ((Below.refl base w0).alloc hbase _).grown h2 (by simp; omega) (fun g hgv => (hown.lt g hgv).1)

theorem wpList_mk {t T : TypeId} {k : IntKind} {bytes : Nat} (hT : RowTy t T k bytes) (w0 : World) {ops : Array Oper} {rest : List Oper} {o : Oper} {a : Act} {Q : Exit → Act → World → Prop}
    (hg : o.guard = none) (l c : Operand) (hop : o.op = Op.makeSlice t l c) (base : Nat) (kl kc : IntKind) (C : Int) (n : Nat) (hl : a.eval l = .int kl 0) (hc : a.eval c = .int kc C) (hC : C = (n : Int))
    (hbytes : bytes * n ≤ 281474976710656) (hn : n ≤ maxLen) (hbase : base ≤ w0.heap.size)
    (hK : ∀ v' w', Own w' base T k v' [] → Below base w0 w' → wpList Try.prog ops Q rest (a.put o.dst v') w') :
    wpList Try.prog ops Q (o :: rest) a w0 := by
  obtain ⟨i0, hi, hz0, hz1, hz2⟩ := info_parts hT.inf
  refine wpList_make_own _ hg l c t hop base T i0 (.int k 0) 1 hT.ut hi hz0 hz1 kl kc C n hl hc hC (by rw [hz2]; exact hbytes) hn hbase ?_
  intro w' h1 h2
  exact hK _ w' h1 (below_of_grown h2 hbase (by simp))

/-- 'make([]T, n)': n zeros. -/
theorem wpList_mkfull {t T : TypeId} {k : IntKind} {bytes : Nat} (hT : RowTy t T k bytes) (w0 : World) {ops : Array Oper} {rest : List Oper} {o : Oper} {a : Act} {Q : Exit → Act → World → Prop}
    (hg : o.guard = none) (l c : Operand) (hop : o.op = Op.makeSlice t l c) (base : Nat) (kl kc : IntKind) (L C : Int) (n : Nat) (hl : a.eval l = .int kl L) (hc : a.eval c = .int kc C) (hL : L = (n : Int)) (hC : C = (n : Int))
    (hbytes : bytes * n ≤ 281474976710656) (hn : n ≤ maxLen) (hbase : base ≤ w0.heap.size)
    (hK : ∀ w', Own w' base T k (.slice (some ⟨w0.heap.size, 0, none⟩) n n) (List.replicate n 0) → Below base w0 w' → w0.heap.size < w'.heap.size → wpList Try.prog ops Q rest (a.put o.dst (.slice (some ⟨w0.heap.size, 0, none⟩) n n)) w') :
    wpList Try.prog ops Q (o :: rest) a w0 := by
  obtain ⟨i0, hi, hz0, hz1, hz2⟩ := info_parts hT.inf
  refine wpList_make_full _ hg l c t hop base T i0 (.int k 0) 1 hT.ut hi hz0 hz1 kl kc L C n hl hc hL hC (by rw [hz2]; exact hbytes) hn hbase ?_
  intro w' h1 h2
  refine hK w' ?_ (below_of_grown h2 hbase (by simp)) ?_
  · unfold Own
    have e : (madeCells (Value.int k 0).cells (n * 1)).toList = (List.replicate n 0).map fun d => Value.int k ((d : Nat) : Int) := by
      apply List.ext_getElem (by simp [madeCells])
      intro j h1 h2
      simp [madeCells, Value.cells, Nat.mod_one]
    rw [e] at h1
    simpa using h1
  · have := (h1.lt w0.heap.size rfl).2
    exact this

/-- The same; all that was there stays. -/
theorem wpList_mkfull' {t T : TypeId} {k : IntKind} {bytes : Nat} (hT : RowTy t T k bytes) (w0 : World) {ops : Array Oper} {rest : List Oper} {o : Oper} {a : Act} {Q : Exit → Act → World → Prop}
    (hg : o.guard = none) (l c : Operand) (hop : o.op = Op.makeSlice t l c) (base : Nat) (kl kc : IntKind) (L C : Int) (n : Nat) (hl : a.eval l = .int kl L) (hc : a.eval c = .int kc C) (hL : L = (n : Int)) (hC : C = (n : Int))
    (hbytes : bytes * n ≤ 281474976710656) (hn : n ≤ maxLen) (hbase : base ≤ w0.heap.size)
    (hK : ∀ w', Own w' base T k (.slice (some ⟨w0.heap.size, 0, none⟩) n n) (List.replicate n 0) → Below w0.heap.size w0 w' → w0.heap.size < w'.heap.size → wpList Try.prog ops Q rest (a.put o.dst (.slice (some ⟨w0.heap.size, 0, none⟩) n n)) w') :
    wpList Try.prog ops Q (o :: rest) a w0 := by
  obtain ⟨i0, hi, hz0, hz1, hz2⟩ := info_parts hT.inf
  refine wpList_make_full _ hg l c t hop base T i0 (.int k 0) 1 hT.ut hi hz0 hz1 kl kc L C n hl hc hL hC (by rw [hz2]; exact hbytes) hn hbase ?_
  intro w' h1 h2
  refine hK w' ?_ (below_of_grown h2 (Nat.le_refl _) (by simp)) ?_
  · unfold Own
    have e : (madeCells (Value.int k 0).cells (n * 1)).toList = (List.replicate n 0).map fun d => Value.int k ((d : Nat) : Int) := by
      apply List.ext_getElem (by simp [madeCells])
      intro j h1 h2
      simp [madeCells, Value.cells, Nat.mod_one]
    rw [e] at h1
    simpa using h1
  · have := (h1.lt w0.heap.size rfl).2
    exact this

/-- 'append(v, s...)', v the call's own, s a slice with an element. -/
theorem wpList_pushAll {t T : TypeId} {k : IntKind} {bytes : Nat} (hT : RowTy t T k bytes) (w0 : World) {ops : Array Oper} {rest : List Oper} {o : Oper} {a : Act} {Q : Exit → Act → World → Prop}
    (hg : o.guard = none) (s x : Operand) (hop : o.op = Op.call { callee := Callee.builtin Builtin.append, args := #[s, x], argTypes := #[t, t] })
    (base : Nat) (v : Value) (l l2 : List Nat) (sl : Sl) (hs : a.eval s = v) (hx : a.eval x = .slice sl.ao sl.n sl.c)
    (hown : Own w0 base T k v l) (hi : IntsAt w0 T k sl l2) (hp : 0 < sl.n) (hlen : (l.length + l2.length) * bytes ≤ 140737488355328) (hlm : l.length + l2.length ≤ maxLen) (hbase : base ≤ w0.heap.size)
    (hK : ∀ v' w', Own w' base T k v' (l ++ l2) → Below base w0 w' → wpList Try.prog ops Q rest (a.put o.dst v') w') :
    wpList Try.prog ops Q (o :: rest) a w0 := by
  obtain ⟨i0, hi0, hz0, hz1, hz2⟩ := info_parts hT.inf
  obtain ⟨b, off, ha, hb, hc⟩ := hi.open hp
  have hn := hi.1
  refine wpList_append_own _ hg s x t hop base T i0 (.int k 0) 1 bytes hT.ut hi0 hz0 hz1 hz2 rfl (by decide) v l.length _ hs hown ⟨b, off, none⟩ sl.n sl.c (l2.map fun d => Value.int k ((d : Nat) : Int)) (by rw [hx, ha]) (by simp [hn]) ?_ ?_ (by rw [hn]; exact hlm) (by rw [hn]; exact hlen) hbase ?_
  · intro j u hj
    simp only [List.getElem?_map, Option.map_eq_some_iff] at hj
    obtain ⟨d, hd, rfl⟩ := hj
    have hjl : j < l2.length := (List.getElem?_eq_some_iff.1 hd).1
    have := hc j (by omega)
    rw [dg_of hjl] at this
    have e : l2[j] = d := (List.getElem?_eq_some_iff.1 hd).2
    rw [e] at this
    rw [← this]
    unfold Addr.add
    split
    · rename_i h0; subst h0; rfl
    · rfl
  · intro u hu
    simp only [List.mem_map] at hu
    obtain ⟨d, _, rfl⟩ := hu
    rfl
  · intro v' w' h1 h2 _
    refine hK v' w' ?_ ((Below.refl base w0).grown h2 hbase (fun g hgv => (hown.lt g hgv).1))
    unfold Own
    rw [List.length_append, List.map_append, ← hn]
    exact h1

/-- 'make([]T, m, n)': m zeros, room for n. -/
theorem wpList_mkcap {t T : TypeId} {k : IntKind} {bytes : Nat} (hT : RowTy t T k bytes) (w0 : World) {ops : Array Oper} {rest : List Oper} {o : Oper} {a : Act} {Q : Exit → Act → World → Prop}
    (hg : o.guard = none) (l c : Operand) (hop : o.op = Op.makeSlice t l c) (base : Nat) (kl kc : IntKind) (L C : Int) (m n : Nat) (hl : a.eval l = .int kl L) (hc : a.eval c = .int kc C) (hL : L = (m : Int)) (hC : C = (n : Int)) (hmn : m ≤ n)
    (hbytes : bytes * n ≤ 281474976710656) (hn : n ≤ maxLen) (hbase : base ≤ w0.heap.size)
    (hK : ∀ v' w', Own w' base T k v' (List.replicate m 0) → Below base w0 w' → w0.heap.size < w'.heap.size → wpList Try.prog ops Q rest (a.put o.dst v') w') :
    wpList Try.prog ops Q (o :: rest) a w0 := by
  obtain ⟨i0, hi, hz0, hz1, hz2⟩ := info_parts hT.inf
  have hnm : n ≤ 9223372036854775807 := by have := hn; simp only [maxLen] at this; omega
  have hr := run_make (P := Try.prog) w0 t T i0 (.int k 0) hT.ut hi hz0 kl kc (m : Int) (n : Int) (by omega) (by omega) (by rw [hz2, ← Int.natCast_mul]; omega) (by omega)
  simp only [Int.toNat_natCast, hz1, Nat.mul_one] at hr
  refine wpList_plain hg fun K hK' => ?_
  subst hL
  subst hC
  unfold Oper.wp
  simp [execOp, hop, hl, hc, hr, Result.andThen]
  refine hK' _ _ (hK _ _ ?_ ((Below.refl base w0).alloc hbase _) (by simp))
  refine ⟨by simp, .inr ⟨w0.heap.size, n, _, by simp, hbase, heap_alloc_new w0 _, by simpa using hmn, hn, by simp [madeCells], ?_⟩⟩
  apply List.ext_getElem (by simp [madeCells]; omega)
  intro j h1 h2
  simp [madeCells, Value.cells, Nat.mod_one]

/-- A cell of a row of the call's own. -/
theorem Own.slot {w : World} {base : Nat} {T : TypeId} {k : IntKind} {g n c : Nat} {l : List Nat} (h : Own w base T k (.slice (some ⟨g, 0, none⟩) n c) l) (i : Nat) (hi : i < l.length) :
    w.cell? ⟨g, i, none⟩ = some (.int k ((dg l i : Nat) : Int)) ∧ w.frozen? ⟨g, i, none⟩ = false ∧ base ≤ g ∧ g < w.heap.size := by
  have hn : n = l.length := by
    rcases h.2 with ⟨e, _⟩ | ⟨_, _, _, e, _⟩
    · simp at e
    · simp at e; exact e.2.1
  subst hn
  refine ⟨?_, World.ownsRow.frozenAt h i, h.lt g rfl⟩
  rw [World.ownsRow.cellAt h i (by omega)]
  simp [dg, hi]

theorem Own.store {w : World} {base : Nat} {T : TypeId} {k : IntKind} {g n c : Nat} {l : List Nat} (h : Own w base T k (.slice (some ⟨g, 0, none⟩) n c) l) (i d : Nat) :
    Own (w.setCell ⟨g, i, none⟩ (.int k ((d : Nat) : Int))) base T k (.slice (some ⟨g, 0, none⟩) n c) (l.set i d) ∧ Below base w (w.setCell ⟨g, i, none⟩ (.int k ((d : Nat) : Int))) := by
  have hn : n = l.length := by
    rcases h.2 with ⟨e, _⟩ | ⟨_, _, _, e, _⟩
    · simp at e
    · simp at e; exact e.2.1
  subst hn
  have h1 := World.ownsRow.stored h i (.int k ((d : Nat) : Int))
  refine ⟨?_, (Below.refl base w).setCell (h.lt g rfl).1 _⟩
  have h2 := h1.1
  unfold Own
  rw [List.length_set]
  rw [show (l.set i d).map (fun d => Value.int k ((d : Nat) : Int)) = (l.map (fun d => Value.int k ((d : Nat) : Int))).set i (Value.int k ((d : Nat) : Int)) from by rw [List.map_set]]
  exact h2

theorem Own.store' {w : World} {base : Nat} {T : TypeId} {k : IntKind} {g n c : Nat} {l : List Nat} (h : Own w base T k (.slice (some ⟨g, 0, none⟩) n c) l) (i : Nat) (z : Int) (d : Nat) (hz : z = (d : Int)) :
    Own (w.setCell ⟨g, i, none⟩ (.int k z)) base T k (.slice (some ⟨g, 0, none⟩) n c) (l.set i d) ∧ Below base w (w.setCell ⟨g, i, none⟩ (.int k z)) := by
  subst hz
  exact h.store i d

/-- A store into another row. -/
theorem Own.set_ne {w : World} {base : Nat} {T : TypeId} {k : IntKind} {g n c : Nat} {l : List Nat} (h : Own w base T k (.slice (some ⟨g, 0, none⟩) n c) l) {a : Addr} (ha : g ≠ a.block) (u : Value) :
    Own (w.setCell a u) base T k (.slice (some ⟨g, 0, none⟩) n c) l := by
  obtain ⟨h1, h2⟩ := h
  refine ⟨h1, ?_⟩
  rcases h2 with ⟨e, _⟩ | ⟨g', cap, cur, hv, hbg, hg, hr⟩
  · simp at e
  · simp only [Value.slice.injEq, Option.some.injEq, Addr.mk.injEq, and_true] at hv
    obtain ⟨rfl, hv1, hv2⟩ := hv
    exact .inr ⟨g, cap, cur, by rw [hv1, hv2], hbg, by rw [Below.heap_setCell _ _ _ _ ha]; exact hg, hr⟩

/-! Boxes: the blocks of local structs. -/
theorem ent_new (w : World) (o : Obj) : (w.alloc o).heap[w.heap.size]? = some o := heap_alloc_new w o
theorem ent_old {w : World} {k : Nat} {o : Obj} (h : w.heap[k]? = some o) (o' : Obj) : (w.alloc o').heap[k]? = some o := by
  rw [Below.heap_alloc w o' k (Array.getElem?_eq_some_iff.1 h).1]; exact h
theorem ent_below {B : Nat} {w w' : World} {k : Nat} {o : Obj} (hb : Below B w w') (hk : k < B) (h : w.heap[k]? = some o) : w'.heap[k]? = some o := (hb.block k hk).trans h
theorem ent_up {w w' : World} {k : Nat} {o : Obj} (hb : Below w.heap.size w w') (h : w.heap[k]? = some o) : w'.heap[k]? = some o := ent_below hb (Array.getElem?_eq_some_iff.1 h).1 h
theorem ent_cell {w : World} {b : Nat} {c : Array Value} {T : TypeId} {f : Nat × Nat} (h : w.heap[b]? = some (.cells c T f)) (i : Nat) : w.cell? ⟨b, i, none⟩ = c[i]? := cell_of_row w b i c T f h
theorem ent_frozen {w : World} {b : Nat} {c : Array Value} {T : TypeId} (h : w.heap[b]? = some (.cells c T (0, 0))) (i : Nat) : w.frozen? ⟨b, i, none⟩ = false := frozen_of_row w b i c T h
theorem ent_lt {w : World} {b : Nat} {o : Obj} (h : w.heap[b]? = some o) : b < w.heap.size := (Array.getElem?_eq_some_iff.1 h).1
theorem heap_setCell_same' (w : World) (b i : Nat) (c : Array Value) (T : TypeId) (f : Nat × Nat) (v : Value) (h : w.heap[b]? = some (.cells c T f)) : (w.setCell ⟨b, i, none⟩ v).heap[b]? = some (.cells (c.setIfInBounds i v) T f) := by
  simp [World.setCell, Array.getElem?_modify, h]
theorem ent_set {w : World} {b i : Nat} {c : Array Value} {T : TypeId} {f : Nat × Nat} (h : w.heap[b]? = some (.cells c T f)) (v : Value) : (w.setCell ⟨b, i, none⟩ v).heap[b]? = some (.cells (c.setIfInBounds i v) T f) := heap_setCell_same' w b i c T f v h
theorem ent_set_other {w : World} {b : Nat} {o : Obj} (h : w.heap[b]? = some o) {a : Addr} (hab : b ≠ a.block) (v : Value) : (w.setCell a v).heap[b]? = some o := by
  rw [Below.heap_setCell _ _ _ _ hab]; exact h

theorem ents1 (w : World) (o1 : Obj) : (w.alloc o1).heap[w.heap.size]? = some o1 ∧ (w.alloc o1).heap.size = w.heap.size + 1 := ⟨ent_new w o1, by simp⟩
theorem ents2 (w : World) (o1 o2 : Obj) : ((w.alloc o1).alloc o2).heap[w.heap.size]? = some o1 ∧ ((w.alloc o1).alloc o2).heap[w.heap.size + 1]? = some o2 ∧ ((w.alloc o1).alloc o2).heap.size = w.heap.size + 2 :=
  ⟨ent_old (ent_new w o1) o2, by have := ent_new (w.alloc o1) o2; simpa using this, by simp⟩
theorem ents3 (w : World) (o1 o2 o3 : Obj) : (((w.alloc o1).alloc o2).alloc o3).heap[w.heap.size]? = some o1 ∧ (((w.alloc o1).alloc o2).alloc o3).heap[w.heap.size + 1]? = some o2 ∧ (((w.alloc o1).alloc o2).alloc o3).heap[w.heap.size + 1 + 1]? = some o3 ∧ (((w.alloc o1).alloc o2).alloc o3).heap.size = w.heap.size + 3 :=
  ⟨ent_old (ents2 w o1 o2).1 o3, ent_old (ents2 w o1 o2).2.1 o3, by have := ent_new ((w.alloc o1).alloc o2) o3; simpa using this, by simp⟩
theorem ents4 (w : World) (o1 o2 o3 o4 : Obj) : ((((w.alloc o1).alloc o2).alloc o3).alloc o4).heap[w.heap.size]? = some o1 ∧ ((((w.alloc o1).alloc o2).alloc o3).alloc o4).heap[w.heap.size + 1]? = some o2 ∧ ((((w.alloc o1).alloc o2).alloc o3).alloc o4).heap[w.heap.size + 1 + 1]? = some o3 ∧ ((((w.alloc o1).alloc o2).alloc o3).alloc o4).heap[w.heap.size + 1 + 1 + 1]? = some o4 ∧ ((((w.alloc o1).alloc o2).alloc o3).alloc o4).heap.size = w.heap.size + 4 :=
  ⟨ent_old (ents3 w o1 o2 o3).1 o4, ent_old (ents3 w o1 o2 o3).2.1 o4, ent_old (ents3 w o1 o2 o3).2.2.1 o4, by have := ent_new (((w.alloc o1).alloc o2).alloc o3) o4; simpa using this, by simp⟩

end Go.Proofs.Ytnjohlimjbmkgaa
