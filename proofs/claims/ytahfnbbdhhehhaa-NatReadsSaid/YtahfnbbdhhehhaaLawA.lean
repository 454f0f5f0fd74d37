/- The law's helpers: few, same. -/
import Derived.Test.YtahfnbbdhhehhaaProg
import Derived.Test.YtahfnbbdhhehhaaParseS
import Derived.Test.YtahfnbbdhhehhaaRefC
import Derived.Test.YtahfnbbdhhehhaaNatO
import Derived.Deep.RegionHeld3
import Derived.Deep.RegionWith
import Derived.Deep.DrawnRows
import Derived.BigRegion
namespace Go.Proofs.Ytahfnbbdhhehhaa
open Go.RowKit

/-- All of W is as it was. -/
def Grew (W w : World) : Prop := Below W.heap.size W w
theorem Grew.refl (W : World) : Grew W W := Below.refl _ _
theorem Grew.call {W w w' : World} (h : Grew W w) (hb : Below w.heap.size w w') : Grew W w' := Below.trans h (hb.mono (Below.size h))
theorem Grew.alloc {W w : World} (h : Grew W w) (o : Obj) : Grew W (w.alloc o) := Below.alloc h (Below.size h) o
theorem Grew.drew {W w : World} (h : Grew W w) : Grew W w.drew := Below.drew h
theorem Grew.set {W w : World} (h : Grew W w) {a : Addr} (ha : W.heap.size ≤ a.block) (v : Value) : Grew W (w.setCell a v) := Below.setCell h ha v
theorem Grew.trans {W w w' : World} (h : Grew W w) (h' : Grew w w') : Grew W w' := h.call h'
theorem Grew.below {B : Nat} {w0 W w : World} (h : Below B w0 W) (h' : Grew W w) (hB : B ≤ W.heap.size) : Below B w0 w := h.trans (Below.mono h' hB)
theorem NatS.grew {W w : World} {s : Sl} {x : Nat} (h : NatS W s x) (hg : Grew W w) : NatS w s x := h.up hg
theorem RefS.grew {W w : World} {s : Sl} {x : Nat} (h : RefS W s x) (hg : Grew W w) : RefS w s x := h.up hg
theorem ent_grew {W w : World} {k : Nat} {o : Obj} (hg : Grew W w) (h : W.heap[k]? = some o) : w.heap[k]? = some o := ent_up hg h
theorem cell_grew {W w : World} {k : Nat} {v : Value} {T : TypeId} (hg : Grew W w) (h : W.heap[k]? = some (.cells #[v] T (0, 0))) : w.cell? ⟨k, 0, none⟩ = some v := box_cell (ent_up hg h)

theorem RefS.alloc {w : World} {s : Sl} {x : Nat} (h : RefS w s x) (o : Obj) : RefS (w.alloc o) s x := h.up ((Below.refl _ _).alloc (Nat.le_refl _) o)

/-- The blocks from b on are as they were. -/
def KeptUp (W : World) (b : Nat) (w : World) : Prop := ∀ k, b ≤ k → w.heap[k]? = W.heap[k]?
theorem KeptUp.refl (W : World) (b : Nat) : KeptUp W b W := fun _ _ => rfl
theorem KeptUp.drew {W w : World} {b : Nat} (h : KeptUp W b w) : KeptUp W b w.drew := h
theorem KeptUp.set {W w : World} {b : Nat} (h : KeptUp W b w) {a : Addr} (ha : a.block < b) (v : Value) : KeptUp W b (w.setCell a v) := fun k hk => by
  rw [Below.heap_setCell _ _ _ _ (by omega)]
  exact h k hk
theorem KeptUp.ent {W w : World} {b k : Nat} {o : Obj} (h : KeptUp W b w) (hk : W.heap[k]? = some o) (hb : b ≤ k) : w.heap[k]? = some o := by rw [h k hb]; exact hk

/-- A text's first signs. -/
def fewS (s : ByteArray) (n : Nat) : ByteArray := if n < s.size then s.extract 0 n else s

theorem fewS_le (s : ByteArray) (n : Nat) : (fewS s n).size ≤ n := by
  unfold fewS
  split
  · simp; omega
  · omega

theorem few_spec (s : ByteArray) (n : Nat) (w : World) (h : s.size ≤ 9223372036854775807) (hn : n ≤ 4096) :
    Calls Try.prog 37 #[.string s, .int .i64 n] w fun e w' => e = .returned (.string (fewS s n)) ∧ w = w' := by
  by_cases hc : n < s.size
  · have hcI : (n : Int) < (s.size : Int) := by omega
    have he : fewS s n = s.extract 0 n := by unfold fewS; rw [if_pos hc]
    have HE := Lib.hid he; clear he
    go_enter Try.func37, Try.ntmps37
    go_wp2
    go_ret
    exact ⟨by rw [HE.out]; rfl, rfl⟩
  · have hcI : decide ((n : Int) < (s.size : Int)) = false := by simp; omega
    have he : fewS s n = s := by unfold fewS; rw [if_neg hc]
    have HE := Lib.hid he; clear he
    go_enter Try.func37, Try.ntmps37
    go_wp2
    go_ret
    exact ⟨by rw [HE.out]; rfl, rfl⟩

set_option maxHeartbeats 800000 in
theorem same_spec {w : World} {s t : Sl} {x : Nat} (h : NatS w s x) (h' : RefS w t x) (hs : s.n ≤ 1000000000000) (ht : t.n ≤ 1000000000000) :
    Calls Try.prog 21 #[.agg #[.slice s.ao s.n s.c], .agg #[.slice t.ao t.n t.c]] w fun e w' => e = .returned (.bool true) ∧ Below w.heap.size w w' := by
  obtain ⟨hE1, hE2, _⟩ := ents2 w (.cells #[.slice s.ao s.n s.c] 24) (.cells #[.slice t.ao t.n t.c] 30)
  have hg := ((Grew.refl w).alloc (.cells #[.slice s.ao s.n s.c] 24)).alloc (.cells #[.slice t.ao t.n t.c] 30)
  have hx := h.grew hg
  have hx' := h'.grew hg
  go_enter Try.func21, Try.ntmps21
  go_wp2
  generalize hW : ((w.alloc (.cells #[.slice s.ao s.n s.c] 24)).alloc (.cells #[.slice t.ao t.n t.c] 30)) = W at *
  clear hW
  have mk : Hid (∀ w', Grew W w' → w'.cell? ⟨w.heap.size, 0, none⟩ = some (.slice s.ao s.n s.c) ∧ w'.cell? ⟨w.heap.size + 1, 0, none⟩ = some (.slice t.ao t.n t.c) ∧ Grew W w') :=
    fun w' hg => ⟨cell_grew hg hE1, cell_grew hg hE2, hg⟩
  clear hE1 hE2
  go_region_held3 (fun w' => w'.cell? ⟨w.heap.size, 0, none⟩ = some (.slice s.ao s.n s.c) ∧ w'.cell? ⟨w.heap.size + 1, 0, none⟩ = some (.slice t.ao t.n t.c) ∧ Grew W w')
    (first
      | exact mk.out _ (Grew.refl _).drew
      | exact mk.out _ (Grew.call (‹_ ∧ _ ∧ Grew W _›).2.2 ‹Below _ _ _›))
    (first
      | (go_at_call 17; refine (text_spec (hx.grew (‹_ ∧ _ ∧ Grew W _›).2.2) hs).mono ?_; rintro e w1 ⟨rfl, hb1⟩)
      | (go_at_call 49; refine (rtext_spec (hx'.grew (‹_ ∧ _ ∧ Grew W _›).2.2) ht).mono ?_; rintro e w2 ⟨rfl, hb2⟩))
  all_goals go_wp2
  all_goals go_ret
  all_goals exact ⟨rfl, hg.trans (‹_ ∧ _ ∧ Grew W _›).2.2⟩

theorem few200 (s : ByteArray) (w : World) (h : s.size ≤ 9223372036854775807) :
    Calls Try.prog 37 #[.string s, .int .i64 200] w fun e w' => e = .returned (.string (fewS s 200)) ∧ w = w' := few_spec s 200 w h (by omega)

theorem parse200 (s : ByteArray) (w : World) :
    Calls Try.prog 14 #[.string (fewS s 200)] w fun e w' =>
      ∃ u : Sl, e = .returned (.tuple #[.agg #[.slice u.ao u.n u.c], .int .i64 (perr (fewS s 200))]) ∧ NatS w' u (pval (fewS s 200)) ∧ u.n ≤ 200 ∧ Below w.heap.size w w' := by
  have h := fewS_le s 200
  refine (parse_spec (fewS s 200) w (by omega)).mono ?_
  rintro e w' ⟨u, h1, h2, h3, h4, h5⟩
  exact ⟨u, h1, h2, by omega, h5⟩

theorem rparse200 (s : ByteArray) (w : World) :
    Calls Try.prog 15 #[.string (fewS s 200)] w fun e w' =>
      ∃ u : Sl, e = .returned (.tuple #[.agg #[.slice u.ao u.n u.c], .int .i64 (perr (fewS s 200))]) ∧ RefS w' u (pval (fewS s 200)) ∧ u.n ≤ 200 ∧ Below w.heap.size w w' := by
  have h := fewS_le s 200
  refine (rparse_spec (fewS s 200) w (by omega)).mono ?_
  rintro e w' ⟨u, h1, h2, h3, h4, h5⟩
  exact ⟨u, h1, h2, by omega, h5⟩

/-- Are both texts read? -/
def ok2 (s t : ByteArray) : Bool := (perr (fewS s 200) == 0) && (perr (fewS t 200) == 0)

/-- What 'two' answers. -/
def TwoPost (w : World) (s t : ByteArray) (e : Ending) (w' : World) : Prop := ∃ a b x y : Sl,
  e = .returned (.tuple #[.agg #[.slice a.ao a.n a.c], .agg #[.slice b.ao b.n b.c], .agg #[.slice x.ao x.n x.c], .agg #[.slice y.ao y.n y.c], .bool (ok2 s t)]) ∧
  NatS w' a (pval (fewS s 200)) ∧ NatS w' b (pval (fewS t 200)) ∧ RefS w' x (pval (fewS s 200)) ∧ RefS w' y (pval (fewS t 200)) ∧ a.n ≤ 200 ∧ b.n ≤ 200 ∧ x.n ≤ 200 ∧ y.n ≤ 200 ∧ Below w.heap.size w w'

theorem ents4g (w : World) (o1 o2 o3 o4 : Obj) : Grew w ((((w.alloc o1).alloc o2).alloc o3).alloc o4) := ((((Grew.refl w).alloc o1).alloc o2).alloc o3).alloc o4

end Go.Proofs.Ytahfnbbdhhehhaa
