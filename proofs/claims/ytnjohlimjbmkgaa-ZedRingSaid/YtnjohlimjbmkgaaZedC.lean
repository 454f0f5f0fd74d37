/- zed: Big, Abs, Sign, Cmp, Text. -/
import Derived.Test.YtnjohlimjbmkgaaProg
import Derived.Test.YtnjohlimjbmkgaaZedB
import Derived.Test.YtnjohlimjbmkgaaNatF
import Derived.Test.YtnjohlimjbmkgaaNatR
import Derived.Test.YtnjohlimjbmkgaaTxtS
namespace Go.Proofs.Ytnjohlimjbmkgaa
open Go.RowKit

set_option maxRecDepth 100000 in
set_option maxHeartbeats 1600000 in
theorem zbig_spec {w : World} {s : Sl} {x : Nat} (h : NatS w s x) (hn : s.n ≤ 100000000000) :
    Calls Try.prog 43 #[.agg #[.slice s.ao s.n s.c]] w fun e w' => e = .returned (.agg #[.slice s.ao s.n s.c, .bool false]) ∧ Below w.heap.size w w' := by
  obtain ⟨hE1, hE2, -⟩ := ents2 w (.cells #[.slice s.ao s.n s.c] 31) (.cells #[.slice none 0 0, .bool false] 33)
  have hB := ((Grew.refl w).alloc (.cells #[.slice s.ao s.n s.c] 31)).alloc (.cells #[.slice none 0 0, .bool false] 33)
  have hx := h.grew hB
  have chE1 := box_cell hE1
  have chE2a := box2_c0 hE2
  have chE2b := box2_c1 hE2
  have fhE2a := box2_f hE2 0
  have fhE2b := box2_f hE2 1
  go_enter Try.func43, Try.ntmps43
  go_wp2_with fail
  generalize (w.alloc (.cells #[.slice s.ao s.n s.c] 31)).alloc (.cells #[.slice none 0 0, .bool false] 33) = W at *
  refine (zmade_spec _ hx (by omega)).mono ?_
  rintro e w1 ⟨rfl, hb1⟩
  have ha1 : Grew w1 (w1) := Grew.refl w1
  have hg1' := (Grew.call (Grew.refl _) hb1).trans ha1
  replace hx := hx.grew hg1'
  replace hE1 := ent_grew hg1' hE1
  replace hE2 := ent_grew hg1' hE2
  replace hB := hB.trans hg1'
  clear hg1' ha1 hb1 chE1 chE2a chE2b fhE2a fhE2b
  have chE1 := box_cell hE1
  have chE2a := box2_c0 hE2
  have chE2b := box2_c1 hE2
  have fhE2a := box2_f hE2 0
  have fhE2b := box2_f hE2 1
  go_wp2
  have hq := box2_set hE2 (.slice s.ao s.n s.c) (.bool false)
  have hq0 := box2_c0 hq
  have hq1 := box2_c1 hq
  have hq9 := hB.set2 (k := w.heap.size + 1) (by omega) (.slice s.ao s.n s.c) (.bool false)
  clear hq
  clear chE1 chE2a chE2b fhE2a fhE2b
  generalize (w1.setCell ⟨w.heap.size + 1, 0, none⟩ (.slice s.ao s.n s.c)).setCell ⟨w.heap.size + 1, 1, none⟩ (.bool false) = W9 at *
  refine bodyPost_ret (v := .agg #[.slice s.ao s.n s.c, .bool false]) (by simp [results, Try.results43, go_sem, hq0, hq1]) rfl ⟨rfl, hq9⟩

set_option maxRecDepth 100000 in
set_option maxHeartbeats 1600000 in
theorem zabs_spec {w : World} (s : Sl) (b : Bool) :
    Calls Try.prog 40 #[.agg #[.slice s.ao s.n s.c, .bool b]] w fun e w' => e = .returned (.agg #[.slice s.ao s.n s.c]) ∧ Below w.heap.size w w' := by
  obtain ⟨hE1, hE2, -⟩ := ents2 w (.cells #[.slice s.ao s.n s.c, .bool b] 33) (.cells #[.slice none 0 0] 31)
  have hB := ((Grew.refl w).alloc (.cells #[.slice s.ao s.n s.c, .bool b] 33)).alloc (.cells #[.slice none 0 0] 31)
  have chE1a := box2_c0 hE1
  have chE1b := box2_c1 hE1
  have chE2 := box_cell hE2
  have fhE2 := ent_frozen hE2 0
  go_enter Try.func40, Try.ntmps40
  go_wp2
  exact bodyPost_ret (v := .agg #[.slice s.ao s.n s.c]) (by simp [results, Try.results40, go_sem]) rfl ⟨rfl, ((Grew.refl w).alloc _).alloc _⟩

set_option maxRecDepth 100000 in
set_option maxHeartbeats 1600000 in
theorem zsign_neg {w : World} (s : Sl) :
    Calls Try.prog 22 #[.agg #[.slice s.ao s.n s.c, .bool true]] w fun e w' => e = .returned (.int .i64 (-1)) ∧ Below w.heap.size w w' := by
  have hE1 := ent_new w (.cells #[.slice s.ao s.n s.c, .bool true] 33)
  have hB := (Grew.refl w).alloc (.cells #[.slice s.ao s.n s.c, .bool true] 33)
  have chE1a := box2_c0 hE1
  have chE1b := box2_c1 hE1
  go_enter Try.func22, Try.ntmps22
  go_wp2
  generalize w.alloc (.cells #[.slice s.ao s.n s.c, .bool true] 33) = W at *
  go_ret
  exact ⟨rfl, hB⟩

set_option maxRecDepth 100000 in
set_option maxHeartbeats 1600000 in
theorem zsign_zero {w : World} {s : Sl} {x : Nat} (h : NatS w s x) (hn : s.n ≤ 100000000000) (hx0 : x = 0) :
    Calls Try.prog 22 #[.agg #[.slice s.ao s.n s.c, .bool false]] w fun e w' => e = .returned (.int .i64 0) ∧ Below w.heap.size w w' := by
  have hE1 := ent_new w (.cells #[.slice s.ao s.n s.c, .bool false] 33)
  have hB := (Grew.refl w).alloc (.cells #[.slice s.ao s.n s.c, .bool false] 33)
  have hx := h.grew hB
  have chE1a := box2_c0 hE1
  have chE1b := box2_c1 hE1
  have hz : (bl x == 0) = true := by rw [hx0]; rfl
  go_enter Try.func22, Try.ntmps22
  go_wp2_with fail
  generalize w.alloc (.cells #[.slice s.ao s.n s.c, .bool false] 33) = W at *
  refine (bits_spec hx (by omega)).mono ?_
  rintro e w1 ⟨rfl, hb1⟩
  have ha1 : Grew w1 (w1) := Grew.refl w1
  have hg1' := (Grew.call (Grew.refl _) hb1).trans ha1
  replace hx := hx.grew hg1'
  replace hE1 := ent_grew hg1' hE1
  replace hB := hB.trans hg1'
  clear hg1' ha1 hb1 chE1a chE1b
  have chE1a := box2_c0 hE1
  have chE1b := box2_c1 hE1
  go_wp2
  go_ret
  exact ⟨rfl, hB⟩

set_option maxRecDepth 100000 in
set_option maxHeartbeats 1600000 in
theorem zsign_pos {w : World} {s : Sl} {x : Nat} (h : NatS w s x) (hn : s.n ≤ 100000000000) (hx0 : 0 < x) :
    Calls Try.prog 22 #[.agg #[.slice s.ao s.n s.c, .bool false]] w fun e w' => e = .returned (.int .i64 1) ∧ Below w.heap.size w w' := by
  have hE1 := ent_new w (.cells #[.slice s.ao s.n s.c, .bool false] 33)
  have hB := (Grew.refl w).alloc (.cells #[.slice s.ao s.n s.c, .bool false] 33)
  have hx := h.grew hB
  have chE1a := box2_c0 hE1
  have chE1b := box2_c1 hE1
  have hz : (bl x == 0) = false := by have := bl_gt x; simp only [decide_eq_decide] at this; exact beq_eq_false_iff_ne.2 (by omega)
  go_enter Try.func22, Try.ntmps22
  go_wp2_with fail
  generalize w.alloc (.cells #[.slice s.ao s.n s.c, .bool false] 33) = W at *
  refine (bits_spec hx (by omega)).mono ?_
  rintro e w1 ⟨rfl, hb1⟩
  have ha1 : Grew w1 (w1) := Grew.refl w1
  have hg1' := (Grew.call (Grew.refl _) hb1).trans ha1
  replace hx := hx.grew hg1'
  replace hE1 := ent_grew hg1' hE1
  replace hB := hB.trans hg1'
  clear hg1' ha1 hb1 chE1a chE1b
  have chE1a := box2_c0 hE1
  have chE1b := box2_c1 hE1
  go_wp2
  go_ret
  exact ⟨rfl, hB⟩

set_option maxRecDepth 100000 in
set_option maxHeartbeats 1600000 in
theorem zcmp_part_true {w : World} (s t : Sl) :
    Calls Try.prog 29 #[.agg #[.slice s.ao s.n s.c, .bool true], .agg #[.slice t.ao t.n t.c, .bool false]] w fun e w' => e = .returned (.int .i64 (-1)) ∧ Below w.heap.size w w' := by
  obtain ⟨hE1, hE2, -⟩ := ents2 w (.cells #[.slice s.ao s.n s.c, .bool true] 33) (.cells #[.slice t.ao t.n t.c, .bool false] 33)
  have hB := ((Grew.refl w).alloc (.cells #[.slice s.ao s.n s.c, .bool true] 33)).alloc (.cells #[.slice t.ao t.n t.c, .bool false] 33)
  have chE1a := box2_c0 hE1
  have chE1b := box2_c1 hE1
  have chE2a := box2_c0 hE2
  have chE2b := box2_c1 hE2
  go_enter Try.func29, Try.ntmps29
  go_wp2
  generalize (w.alloc (.cells #[.slice s.ao s.n s.c, .bool true] 33)).alloc (.cells #[.slice t.ao t.n t.c, .bool false] 33) = W at *
  go_ret
  exact ⟨rfl, hB⟩

set_option maxRecDepth 100000 in
set_option maxHeartbeats 1600000 in
theorem zcmp_same_true {w : World} {s t : Sl} {x y : Nat} (h : NatS w s x) (h' : NatS w t y) (hn : s.n ≤ 100000000000) (hm : t.n ≤ 100000000000) :
    Calls Try.prog 29 #[.agg #[.slice s.ao s.n s.c, .bool true], .agg #[.slice t.ao t.n t.c, .bool true]] w fun e w' => e = .returned (.int .i64 (cmpN y x)) ∧ Below w.heap.size w w' := by
  obtain ⟨hE1, hE2, -⟩ := ents2 w (.cells #[.slice s.ao s.n s.c, .bool true] 33) (.cells #[.slice t.ao t.n t.c, .bool true] 33)
  have hB := ((Grew.refl w).alloc (.cells #[.slice s.ao s.n s.c, .bool true] 33)).alloc (.cells #[.slice t.ao t.n t.c, .bool true] 33)
  have hx := h.grew hB
  have hy := h'.grew hB
  have chE1a := box2_c0 hE1
  have chE1b := box2_c1 hE1
  have chE2a := box2_c0 hE2
  have chE2b := box2_c1 hE2
  go_enter Try.func29, Try.ntmps29
  go_wp2_with fail
  generalize (w.alloc (.cells #[.slice s.ao s.n s.c, .bool true] 33)).alloc (.cells #[.slice t.ao t.n t.c, .bool true] 33) = W at *
  refine (cmp_spec hy hx (by omega) (by omega)).mono ?_
  rintro e w1 ⟨rfl, hb1⟩
  have ha1 : Grew w1 (w1) := Grew.refl w1
  have hg1' := (Grew.call (Grew.refl _) hb1).trans ha1
  replace hx := hx.grew hg1'
  replace hy := hy.grew hg1'
  replace hE1 := ent_grew hg1' hE1
  replace hE2 := ent_grew hg1' hE2
  replace hB := hB.trans hg1'
  clear hg1' ha1 hb1 chE1a chE1b chE2a chE2b
  have chE1a := box2_c0 hE1
  have chE1b := box2_c1 hE1
  have chE2a := box2_c0 hE2
  have chE2b := box2_c1 hE2
  go_wp2
  go_ret
  exact ⟨rfl, hB⟩

set_option maxRecDepth 100000 in
set_option maxHeartbeats 1600000 in
theorem ztext_true {w : World} {s : Sl} {x : Nat} (h : NatS w s x) (hn : s.n ≤ 100000000000) :
    Calls Try.prog 38 #[.agg #[.slice s.ao s.n s.c, .bool true]] w fun e w' => e = .returned (.string (⟨#[45]⟩ ++ txt (dec x))) ∧ Below w.heap.size w w' := by
  have hE1 := ent_new w (.cells #[.slice s.ao s.n s.c, .bool true] 33)
  have hB := (Grew.refl w).alloc (.cells #[.slice s.ao s.n s.c, .bool true] 33)
  have hx := h.grew hB
  have chE1a := box2_c0 hE1
  have chE1b := box2_c1 hE1
  have hsz : ¬ 9223372036854775807 < 1 + (txt (dec x)).size := by have := txt_dec_size (dl_bound h); omega
  go_enter Try.func38, Try.ntmps38
  go_wp2_with fail
  generalize w.alloc (.cells #[.slice s.ao s.n s.c, .bool true] 33) = W at *
  refine (text_spec hx (by omega)).mono ?_
  rintro e w1 ⟨rfl, hb1⟩
  have ha1 : Grew w1 (w1) := Grew.refl w1
  have hg1' := (Grew.call (Grew.refl _) hb1).trans ha1
  replace hx := hx.grew hg1'
  replace hE1 := ent_grew hg1' hE1
  replace hB := hB.trans hg1'
  clear hg1' ha1 hb1 chE1a chE1b
  have chE1a := box2_c0 hE1
  have chE1b := box2_c1 hE1
  go_wp2
  go_ret
  exact ⟨rfl, hB⟩

set_option maxRecDepth 100000 in
set_option maxHeartbeats 1600000 in
theorem zcmp_part_false {w : World} (s t : Sl) :
    Calls Try.prog 29 #[.agg #[.slice s.ao s.n s.c, .bool false], .agg #[.slice t.ao t.n t.c, .bool true]] w fun e w' => e = .returned (.int .i64 1) ∧ Below w.heap.size w w' := by
  obtain ⟨hE1, hE2, -⟩ := ents2 w (.cells #[.slice s.ao s.n s.c, .bool false] 33) (.cells #[.slice t.ao t.n t.c, .bool true] 33)
  have hB := ((Grew.refl w).alloc (.cells #[.slice s.ao s.n s.c, .bool false] 33)).alloc (.cells #[.slice t.ao t.n t.c, .bool true] 33)
  have chE1a := box2_c0 hE1
  have chE1b := box2_c1 hE1
  have chE2a := box2_c0 hE2
  have chE2b := box2_c1 hE2
  go_enter Try.func29, Try.ntmps29
  go_wp2
  generalize (w.alloc (.cells #[.slice s.ao s.n s.c, .bool false] 33)).alloc (.cells #[.slice t.ao t.n t.c, .bool true] 33) = W at *
  go_ret
  exact ⟨rfl, hB⟩

set_option maxRecDepth 100000 in
set_option maxHeartbeats 1600000 in
theorem zcmp_same_false {w : World} {s t : Sl} {x y : Nat} (h : NatS w s x) (h' : NatS w t y) (hn : s.n ≤ 100000000000) (hm : t.n ≤ 100000000000) :
    Calls Try.prog 29 #[.agg #[.slice s.ao s.n s.c, .bool false], .agg #[.slice t.ao t.n t.c, .bool false]] w fun e w' => e = .returned (.int .i64 (cmpN x y)) ∧ Below w.heap.size w w' := by
  obtain ⟨hE1, hE2, -⟩ := ents2 w (.cells #[.slice s.ao s.n s.c, .bool false] 33) (.cells #[.slice t.ao t.n t.c, .bool false] 33)
  have hB := ((Grew.refl w).alloc (.cells #[.slice s.ao s.n s.c, .bool false] 33)).alloc (.cells #[.slice t.ao t.n t.c, .bool false] 33)
  have hx := h.grew hB
  have hy := h'.grew hB
  have chE1a := box2_c0 hE1
  have chE1b := box2_c1 hE1
  have chE2a := box2_c0 hE2
  have chE2b := box2_c1 hE2
  go_enter Try.func29, Try.ntmps29
  go_wp2_with fail
  generalize (w.alloc (.cells #[.slice s.ao s.n s.c, .bool false] 33)).alloc (.cells #[.slice t.ao t.n t.c, .bool false] 33) = W at *
  refine (cmp_spec hx hy (by omega) (by omega)).mono ?_
  rintro e w1 ⟨rfl, hb1⟩
  have ha1 : Grew w1 (w1) := Grew.refl w1
  have hg1' := (Grew.call (Grew.refl _) hb1).trans ha1
  replace hx := hx.grew hg1'
  replace hy := hy.grew hg1'
  replace hE1 := ent_grew hg1' hE1
  replace hE2 := ent_grew hg1' hE2
  replace hB := hB.trans hg1'
  clear hg1' ha1 hb1 chE1a chE1b chE2a chE2b
  have chE1a := box2_c0 hE1
  have chE1b := box2_c1 hE1
  have chE2a := box2_c0 hE2
  have chE2b := box2_c1 hE2
  go_wp2
  go_ret
  exact ⟨rfl, hB⟩

set_option maxRecDepth 100000 in
set_option maxHeartbeats 1600000 in
theorem ztext_false {w : World} {s : Sl} {x : Nat} (h : NatS w s x) (hn : s.n ≤ 100000000000) :
    Calls Try.prog 38 #[.agg #[.slice s.ao s.n s.c, .bool false]] w fun e w' => e = .returned (.string (txt (dec x))) ∧ Below w.heap.size w w' := by
  have hE1 := ent_new w (.cells #[.slice s.ao s.n s.c, .bool false] 33)
  have hB := (Grew.refl w).alloc (.cells #[.slice s.ao s.n s.c, .bool false] 33)
  have hx := h.grew hB
  have chE1a := box2_c0 hE1
  have chE1b := box2_c1 hE1
  go_enter Try.func38, Try.ntmps38
  go_wp2_with fail
  generalize w.alloc (.cells #[.slice s.ao s.n s.c, .bool false] 33) = W at *
  refine (text_spec hx (by omega)).mono ?_
  rintro e w1 ⟨rfl, hb1⟩
  have ha1 : Grew w1 (w1) := Grew.refl w1
  have hg1' := (Grew.call (Grew.refl _) hb1).trans ha1
  replace hx := hx.grew hg1'
  replace hE1 := ent_grew hg1' hE1
  replace hB := hB.trans hg1'
  clear hg1' ha1 hb1 chE1a chE1b
  have chE1a := box2_c0 hE1
  have chE1b := box2_c1 hE1
  go_wp2
  go_ret
  exact ⟨rfl, hB⟩


end Go.Proofs.Ytnjohlimjbmkgaa
