/- zed: Floor. -/
import Derived.Test.YtnjohlimjbmkgaaProg
import Derived.Test.YtnjohlimjbmkgaaZedT
import Derived.Test.YtnjohlimjbmkgaaNatN
import Derived.Deep.DeepCutAuto
namespace Go.Proofs.Ytnjohlimjbmkgaa
open Go.RowKit

/-- Quotient and rest, in their boxes. -/
def FB (W : World) (q r : Sl) (b1 b2 : Bool) (s10 s11 : Value) (wx : World) : Prop := ∃ g k : Nat, s10 = .pointer (some ⟨g, 0, none⟩) ∧ s11 = .pointer (some ⟨k, 0, none⟩) ∧
  wx.heap[g]? = some (.cells #[.slice q.ao q.n q.c, .bool b1] 33 (0, 0)) ∧ wx.heap[k]? = some (.cells #[.slice r.ao r.n r.c, .bool b2] 33 (0, 0)) ∧ g ≠ k ∧ W.heap.size ≤ g ∧ W.heap.size ≤ k ∧ Grew W wx

theorem FB.e1 {W wd : World} (q r : Sl) (b1 b2 : Bool) (hg : Grew W wd) : FB W q r b1 b2 (.pointer (some ⟨wd.heap.size, 0, none⟩)) (.pointer (some ⟨wd.heap.size + 1, 0, none⟩)) ((wd.alloc (.cells #[.slice q.ao q.n q.c, .bool b1] 33)).alloc (.cells #[.slice r.ao r.n r.c, .bool b2] 33)) :=
  ⟨_, _, rfl, rfl, (ents2 _ _ _).1, (ents2 _ _ _).2.1, by omega, Below.size hg, by have := Below.size hg; omega, (hg.alloc _).alloc _⟩
theorem FB.e2 {W wd : World} (q r : Sl) (b1 b2 : Bool) (hg : Grew W wd) : FB W q r b1 b2 (.pointer (some ⟨wd.heap.size + 1, 0, none⟩)) (.pointer (some ⟨wd.heap.size, 0, none⟩)) ((wd.alloc (.cells #[.slice r.ao r.n r.c, .bool b2] 33)).alloc (.cells #[.slice q.ao q.n q.c, .bool b1] 33)) :=
  ⟨_, _, rfl, rfl, (ents2 _ _ _).2.1, (ents2 _ _ _).1, by omega, by have := Below.size hg; omega, Below.size hg, (hg.alloc _).alloc _⟩
theorem box2_keep {W : World} {k j : Nat} {o : Obj} (h : W.heap[k]? = some o) (hne : k ≠ j) (v b : Value) : ((W.setCell ⟨j, 0, none⟩ v).setCell ⟨j, 1, none⟩ b).heap[k]? = some o := ent_set_other (ent_set_other h hne v) hne b
theorem set2_new (W : World) (j : Nat) (v b : Value) (o : Obj) : (((W.setCell ⟨j, 0, none⟩ v).setCell ⟨j, 1, none⟩ b).alloc o).heap[W.heap.size]? = some o := by
  have := ent_new ((W.setCell ⟨j, 0, none⟩ v).setCell ⟨j, 1, none⟩ b) o
  simpa using this
theorem FB.e3 {W wd : World} {g : Nat} (q r : Sl) (b1 b2 : Bool) (hg : Grew W wd) (he : wd.heap[g]? = some (.cells #[.slice none 0 0, .bool false] 33 (0, 0))) (hl : W.heap.size ≤ g) : FB W q r b1 b2 (.pointer (some ⟨g, 0, none⟩)) (.pointer (some ⟨wd.heap.size, 0, none⟩)) (((wd.setCell ⟨g, 0, none⟩ (.slice q.ao q.n q.c)).setCell ⟨g, 1, none⟩ (.bool b1)).alloc (.cells #[.slice r.ao r.n r.c, .bool b2] 33)) :=
  ⟨_, _, rfl, rfl, ent_old (box2_set he _ _) _, set2_new _ _ _ _ _, Nat.ne_of_lt (ent_lt he), hl, Below.size hg, (hg.set2 hl _ _).alloc _⟩
theorem FB.e4 {W wd : World} {k : Nat} (q r : Sl) (b1 b2 : Bool) (hg : Grew W wd) (he : wd.heap[k]? = some (.cells #[.slice none 0 0, .bool false] 33 (0, 0))) (hl : W.heap.size ≤ k) : FB W q r b1 b2 (.pointer (some ⟨wd.heap.size, 0, none⟩)) (.pointer (some ⟨k, 0, none⟩)) (((wd.setCell ⟨k, 0, none⟩ (.slice r.ao r.n r.c)).setCell ⟨k, 1, none⟩ (.bool b2)).alloc (.cells #[.slice q.ao q.n q.c, .bool b1] 33)) :=
  ⟨_, _, rfl, rfl, set2_new _ _ _ _ _, ent_old (box2_set he _ _) _, (Nat.ne_of_lt (ent_lt he)).symm, Below.size hg, hl, (hg.set2 hl _ _).alloc _⟩
theorem FB.e5 {W wd : World} {g k : Nat} (q r : Sl) (b1 b2 : Bool) (hg : Grew W wd) (he : wd.heap[g]? = some (.cells #[.slice none 0 0, .bool false] 33 (0, 0))) (he' : wd.heap[k]? = some (.cells #[.slice none 0 0, .bool false] 33 (0, 0))) (hl : W.heap.size ≤ g) (hl' : W.heap.size ≤ k) (hne : g ≠ k) : FB W q r b1 b2 (.pointer (some ⟨g, 0, none⟩)) (.pointer (some ⟨k, 0, none⟩)) ((((wd.setCell ⟨g, 0, none⟩ (.slice q.ao q.n q.c)).setCell ⟨g, 1, none⟩ (.bool b1)).setCell ⟨k, 0, none⟩ (.slice r.ao r.n r.c)).setCell ⟨k, 1, none⟩ (.bool b2)) :=
  ⟨_, _, rfl, rfl, box2_keep (box2_set he _ _) hne _ _, box2_set (box2_keep he' hne.symm _ _) _ _, hne, hl, hl', (hg.set2 hl _ _).set2 hl' _ _⟩

/-- A number in its box, all else as it was. -/
def FrR (w W : World) (k : Nat) (z : Int) (n : Nat) (wx : World) : Prop := Fr w W k 33 wx ∧ ∃ (v : Sl) (d : Bool), wx.heap[k]? = some (.cells #[.slice v.ao v.n v.c, .bool d] 33 (0, 0)) ∧ ZS wx v d z ∧ v.n ≤ n

theorem div_v {w : World} {s t : Sl} {x y Q M : Nat} (hQ : Hid (x / y = Q)) (hM : Hid (x % y = M)) (h : NatS w s x) (h' : NatS w t y) (hn : s.n ≤ 100000000000) (hm : t.n ≤ 100000000000) (hy : 0 < y) :
    Calls Try.prog 67 #[.agg #[.slice s.ao s.n s.c], .agg #[.slice t.ao t.n t.c]] w fun e w' =>
      ∃ u v : Sl, e = .returned (.tuple #[.agg #[.slice u.ao u.n u.c], .agg #[.slice v.ao v.n v.c], .int .i64 0]) ∧ NatS w' u Q ∧ NatS w' v M ∧ u.n ≤ s.n ∧ v.n ≤ s.n ∧ v.n ≤ t.n ∧ Below w.heap.size w w' := by
  obtain rfl := hQ.out
  obtain rfl := hM.out
  exact div_spec h h' hn hm hy

end Go.Proofs.Ytnjohlimjbmkgaa
