
/- nat: Root. -/
import Derived.Test.YthjhcddkdplegaaProg
import Derived.Test.YthjhcddkdplegaaNatU
import Derived.Test.YthjhcddkdplegaaNatV
import Derived.Test.YthjhcddkdplegaaNatX
import Derived.Test.YthjhcddkdplegaaBase
import Derived.Test.YthjhcddkdplegaaMathR
import Derived.Deep.DeepCutAuto
namespace Go.Proofs.Ythjhcddkdplegaa
open Go.RowKit

/-- The root, on its way down. -/
def RootRel (w : World) (s : Sl) (x b4 B : Nat) (k : Nat) (wr : World) : Prop := ∃ sx : Sl,
  wr.heap[w.heap.size]? = some (.cells #[.slice s.ao s.n s.c] 26 (0, 0)) ∧ wr.heap[w.heap.size + 1]? = some (.cells #[.slice none 0 0] 26 (0, 0)) ∧
  wr.heap[w.heap.size + 1 + 1]? = some (.cells #[.slice none 0 0] 26 (0, 0)) ∧ wr.heap[b4]? = some (.cells #[.slice sx.ao sx.n sx.c] 26 (0, 0)) ∧
  NatS wr s x ∧ NatS wr sx k ∧ 0 < k ∧ x < (k + 1) * (k + 1) ∧ sx.n ≤ B ∧ Below w.heap.size w wr

theorem of_one (w : World) : Calls Try.prog 27 #[.int .u64 1] w fun e w' =>
      ∃ u : Sl, e = .returned (.agg #[.slice u.ao u.n u.c]) ∧ NatS w' u 1 ∧ u.n ≤ 2 ∧ Below w.heap.size w w' := of_spec 1 w (by omega)

/-- What Root answers. -/
def RootPost (w : World) (s : Sl) (x : Nat) (e : Ending) (w' : World) : Prop :=
  ∃ (u v : Sl) (r : Nat), e = .returned (.tuple #[.agg #[.slice u.ao u.n u.c], .agg #[.slice v.ao v.n v.c]]) ∧ NatS w' u r ∧ NatS w' v (x - r * r) ∧ r * r ≤ x ∧ x < (r + 1) * (r + 1) ∧ u.n ≤ s.n ∧ v.n ≤ s.n ∧ Below w.heap.size w w'

theorem bl_bound {w : World} {s : Sl} {x : Nat} (h : NatS w s x) : bl x ≤ 32 * s.n := by
  rw [bl_le]
  obtain ⟨l, k1, k2, k3, k4⟩ := h
  have k5 := val_lt 4294967296 l k2
  rw [pow32, ← k1.1, k4] at k5
  exact k5

/-- What every step of the beginning leaves. -/
def RootS (w : World) (s : Sl) (x : Nat) (w' : World) : Prop :=
  w'.heap[w.heap.size]? = some (.cells #[.slice s.ao s.n s.c] 26 (0, 0)) ∧ w'.heap[w.heap.size + 1]? = some (.cells #[.slice none 0 0] 26 (0, 0)) ∧
  w'.heap[w.heap.size + 1 + 1]? = some (.cells #[.slice none 0 0] 26 (0, 0)) ∧ NatS w' s x ∧ Below w.heap.size w w'

theorem RootS.up {w : World} {s : Sl} {x : Nat} {w' w'' : World} (h : RootS w s x w') (hb : Below w'.heap.size w' w'') : RootS w s x w'' :=
  ⟨ent_up hb h.1, ent_up hb h.2.1, ent_up hb h.2.2.1, h.2.2.2.1.up hb, h.2.2.2.2.trans (hb.mono h.2.2.2.2.size)⟩
theorem RootS.alloc {w : World} {s : Sl} {x : Nat} {w' : World} (h : RootS w s x w') (o : Obj) : RootS w s x (w'.alloc o) := h.up ((Below.refl _ _).alloc (Nat.le_refl _) o)
theorem RootS.drew {w : World} {s : Sl} {x : Nat} {w' : World} (h : RootS w s x w') : RootS w s x w'.drew := ⟨h.1, h.2.1, h.2.2.1, h.2.2.2.1, h.2.2.2.2.drew⟩
theorem RootS.cell {w : World} {s : Sl} {x : Nat} {w' : World} (h : RootS w s x w') : w'.cell? ⟨w.heap.size, 0, none⟩ = some (.slice s.ao s.n s.c) := ent_cell h.1 0
theorem RootS.both {w : World} {s : Sl} {x : Nat} {w' : World} (h : RootS w s x w') : w'.cell? ⟨w.heap.size, 0, none⟩ = some (.slice s.ao s.n s.c) ∧ RootS w s x w' := ⟨h.cell, h⟩
/-- A store into a later box. -/
theorem RootS.set {w : World} {s : Sl} {x : Nat} {w' : World} (h : RootS w s x w') {b : Nat} {c : Array Value} (hc : w'.heap[b]? = some (.cells c 26 (0, 0))) (hb : w.heap.size + 1 + 1 < b) (v : Value) : RootS w s x (w'.setCell ⟨b, 0, none⟩ v) :=
  ⟨ent_set_other h.1 (by simp; omega) v, ent_set_other h.2.1 (by simp; omega) v, ent_set_other h.2.2.1 (by simp; omega) v, h.2.2.2.1.kp ((Kp.refl _).setCell hc (by decide) v), h.2.2.2.2.setCell (by simp; omega) v⟩

theorem RootS.setNew {w : World} {s : Sl} {x : Nat} {w' : World} {c : Array Value} (h : RootS w s x (w'.alloc (.cells c 26))) (hb : w.heap.size + 1 + 1 < w'.heap.size) (v : Value) : RootS w s x ((w'.alloc (.cells c 26)).setCell ⟨w'.heap.size, 0, none⟩ v) := h.set (ent_new _ _) hb v
theorem RootS.re {w : World} {s : Sl} {x : Nat} {w' : World} {v0 v : Value} (h : RootS w s x (w'.alloc (.cells #[v0] 26))) (hb : w.heap.size + 1 + 1 < w'.heap.size) : RootS w s x (w'.alloc (.cells #[v] 26)) := by
  have h1 := h.setNew hb v
  have e : (w'.alloc (.cells #[v0] 26)).setCell ⟨w'.heap.size, 0, none⟩ v = w'.alloc (.cells #[v] 26) := by simp [go_sem]
  rwa [e] at h1
theorem RootS.drewAlloc {w : World} {s : Sl} {x : Nat} {w' : World} (h : RootS w s x w') (o : Obj) : RootS w s x (w'.alloc o).drew := (h.alloc o).drew
theorem RootS.lt {w : World} {s : Sl} {x : Nat} {w' w'' : World} (h : RootS w s x w') (hb : Below w'.heap.size w' w'') : w.heap.size + 1 + 1 < w''.heap.size := Nat.lt_of_lt_of_le (ent_lt h.2.2.1) hb.size
theorem root_bits {w w' : World} {s : Sl} {x : Nat} (h : RootS w s x w') (hn : s.n ≤ 2000) :
    Calls Try.prog 48 #[.agg #[.slice s.ao s.n s.c]] w' fun e w'' => e = .returned (.int .i64 (bl x : Int)) ∧ Below w'.heap.size w' w'' := bits_spec h.2.2.2.1 (by omega)
theorem root_up {w : World} {o : Sl} {k : Nat} {v : Int} (h : NatS w o 1) (hn : o.n ≤ 2) (hk : k ≤ 32000) (hv : v = (k : Int)) :
    Calls Try.prog 63 #[.agg #[.slice o.ao o.n o.c], .int .i64 v] w fun e w' =>
      ∃ u : Sl, e = .returned (.tuple #[.agg #[.slice u.ao u.n u.c], .int .i64 0]) ∧ NatS w' u (2 ^ k) ∧ u.n ≤ 2000 ∧ Below w.heap.size w w' := by
  subst hv
  refine (up_spec k h (by omega) (by omega)).mono ?_
  rintro e w' ⟨u, h1, h2, h3, h4⟩
  exact ⟨u, h1, by simpa using h2, by omega, h4⟩

theorem RootRel.mk {w : World} {s sx : Sl} {x b4 B k : Nat} {wr : World} (h : RootS w s x wr) (hb : wr.heap[b4]? = some (.cells #[.slice sx.ao sx.n sx.c] 26 (0, 0))) (hx : NatS wr sx k) (hk : 0 < k ∧ x < (k + 1) * (k + 1)) (hn : sx.n ≤ B) : RootRel w s x b4 B k wr :=
  ⟨sx, h.1, h.2.1, h.2.2.1, hb, h.2.2.2.1, hx, hk.1, hk.2, hn, h.2.2.2.2⟩
theorem RootRel.mkSet {w : World} {s sx : Sl} {x b4 B k : Nat} {wr : World} {v0 : Value} (h : RootS w s x (wr.setCell ⟨b4, 0, none⟩ (.slice sx.ao sx.n sx.c))) (hb : wr.heap[b4]? = some (.cells #[v0] 26 (0, 0))) (hx : NatS wr sx k) (hk : 0 < k ∧ x < (k + 1) * (k + 1)) (hn : sx.n ≤ B) : RootRel w s x b4 B k (wr.setCell ⟨b4, 0, none⟩ (.slice sx.ao sx.n sx.c)) :=
  RootRel.mk h (ent_set hb _) (hx.kp ((Kp.refl _).setCell hb (by decide) _)) hk hn
theorem RootRel.mkAlloc {w : World} {s sx : Sl} {x B k : Nat} {wr : World} (h : RootS w s x (wr.alloc (.cells #[.slice sx.ao sx.n sx.c] 26))) (hx : NatS wr sx k) (hk : 0 < k ∧ x < (k + 1) * (k + 1)) (hn : sx.n ≤ B) : RootRel w s x wr.heap.size B k (wr.alloc (.cells #[.slice sx.ao sx.n sx.c] 26)) :=
  RootRel.mk h (ent_new _ _) (hx.alloc _) hk hn

theorem root_le {a b : Nat} (h : a ≤ b) (h' : b ≤ 2000) : a ≤ 1000000000000 := by omega
/-- The end: the boxes as they lie. -/
def RootE (w : World) (s sx : Sl) (x k b4 : Nat) (w' : World) : Prop :=
  w'.heap[w.heap.size]? = some (.cells #[.slice s.ao s.n s.c] 26 (0, 0)) ∧ (∃ v, w'.heap[w.heap.size + 1]? = some (.cells #[v] 26 (0, 0))) ∧
  (∃ v, w'.heap[w.heap.size + 1 + 1]? = some (.cells #[v] 26 (0, 0))) ∧ w'.heap[b4]? = some (.cells #[.slice sx.ao sx.n sx.c] 26 (0, 0)) ∧ NatS w' s x ∧ NatS w' sx k ∧ Below w.heap.size w w'
theorem RootE.up {w : World} {s sx : Sl} {x k b4 : Nat} {w' w'' : World} (h : RootE w s sx x k b4 w') (hb : Below w'.heap.size w' w'') : RootE w s sx x k b4 w'' := by
  obtain ⟨h1, ⟨v2, h2⟩, ⟨v3, h3⟩, h4, h5, h6, h7⟩ := h
  exact ⟨ent_up hb h1, ⟨v2, ent_up hb h2⟩, ⟨v3, ent_up hb h3⟩, ent_up hb h4, h5.up hb, h6.up hb, h7.trans (hb.mono h7.size)⟩
theorem RootE.drew {w : World} {s sx : Sl} {x k b4 : Nat} {w' : World} (h : RootE w s sx x k b4 w') : RootE w s sx x k b4 w'.drew := ⟨h.1, h.2.1, h.2.2.1, h.2.2.2.1, h.2.2.2.2.1, h.2.2.2.2.2.1, h.2.2.2.2.2.2.drew⟩
theorem RootE.both {w : World} {s sx : Sl} {x k b4 : Nat} {w' : World} (h : RootE w s sx x k b4 w') : w'.cell? ⟨w.heap.size, 0, none⟩ = some (.slice s.ao s.n s.c) ∧ w'.cell? ⟨b4, 0, none⟩ = some (.slice sx.ao sx.n sx.c) ∧ RootE w s sx x k b4 w' := ⟨ent_cell h.1 0, ent_cell h.2.2.2.1 0, h⟩
theorem RootE.set2 {w : World} {s sx : Sl} {x k b4 : Nat} {w' : World} (h : RootE w s sx x k b4 w') (hb4 : w.heap.size + 1 + 1 < b4) (v : Value) : RootE w s sx x k b4 (w'.setCell ⟨w.heap.size + 1, 0, none⟩ v) := by
  obtain ⟨h1, ⟨v2, h2⟩, ⟨v3, h3⟩, h4, h5, h6, h7⟩ := h
  exact ⟨ent_set_other h1 (by simp) v, ⟨v, ent_set h2 v⟩, ⟨v3, ent_set_other h3 (by simp) v⟩, ent_set_other h4 (by simp; omega) v, h5.kp ((Kp.refl _).setCell h2 (by decide) v), h6.kp ((Kp.refl _).setCell h2 (by decide) v), h7.setCell (by simp) v⟩
theorem RootE.set3 {w : World} {s sx : Sl} {x k b4 : Nat} {w' : World} (h : RootE w s sx x k b4 w') (hb4 : w.heap.size + 1 + 1 < b4) (v : Value) : RootE w s sx x k b4 (w'.setCell ⟨w.heap.size + 1 + 1, 0, none⟩ v) := by
  obtain ⟨h1, ⟨v2, h2⟩, ⟨v3, h3⟩, h4, h5, h6, h7⟩ := h
  exact ⟨ent_set_other h1 (by simp; omega) v, ⟨v2, ent_set_other h2 (by simp) v⟩, ⟨v, ent_set h3 v⟩, ent_set_other h4 (by simp; omega) v, h5.kp ((Kp.refl _).setCell h3 (by decide) v), h6.kp ((Kp.refl _).setCell h3 (by decide) v), h7.setCell (by simp; omega) v⟩

end Go.Proofs.Ythjhcddkdplegaa
