/- ref 02: Made, Text. -/
import Derived.Test.YtnjohlimjbmkgaaProg
import Derived.Test.YtnjohlimjbmkgaaZedA
import Derived.Test.YtnjohlimjbmkgaaFr
import Derived.Test.YtnjohlimjbmkgaaRefC
import Derived.Test.YtnjohlimjbmkgaaTxtS
namespace Go.Proofs.Ytnjohlimjbmkgaa
open Go.RowKit

set_option maxRecDepth 100000 in
set_option maxHeartbeats 1600000 in
theorem rmade_zero {w : World} {s : Sl} {x : Nat} (h : RefS w s x) (hn : s.n ≤ 100000000000) (S : Int) (hx0 : x = 0) :
    Calls Try.prog 47 #[.int .i64 S, .agg #[.slice s.ao s.n s.c]] w fun e w' => e = .returned (.agg #[.int .i64 0, .slice none 0 0]) ∧ Below w.heap.size w w' := by
  obtain ⟨hE1, hE2, -⟩ := ents2 w (.cells #[.slice s.ao s.n s.c] 26) (.cells #[.int .i64 0, .slice none 0 0] 28)
  have hB := ((Grew.refl w).alloc (.cells #[.slice s.ao s.n s.c] 26)).alloc (.cells #[.int .i64 0, .slice none 0 0] 28)
  have hx := h.grew hB
  have chE1 := box_cell hE1
  have chE2a := box2_c0 hE2
  have chE2b := box2_c1 hE2
  have fhE2a := box2_f hE2 0
  have fhE2b := box2_f hE2 1
  have hz : (s.n == 0) = true := beq_iff_eq.2 (h.zero_iff.1 hx0)
  have hzi : ((s.n : Int) == 0) = true := beq_iff_eq.2 (by have := h.zero_iff.1 hx0; omega)
  go_enter Try.func47, Try.ntmps47
  go_wp2
  exact bodyPost_ret (v := .agg #[.int .i64 0, .slice none 0 0]) (by simp [results, Try.results47, go_sem]) rfl ⟨rfl, ((Grew.refl w).alloc _).alloc _⟩

set_option maxRecDepth 100000 in
set_option maxHeartbeats 1600000 in
theorem rmade_pos {w : World} {s : Sl} {x : Nat} (h : RefS w s x) (hn : s.n ≤ 100000000000) (S : Int) (hx0 : 0 < x) :
    Calls Try.prog 47 #[.int .i64 S, .agg #[.slice s.ao s.n s.c]] w fun e w' => e = .returned (.agg #[.int .i64 S, .slice s.ao s.n s.c]) ∧ Below w.heap.size w w' := by
  obtain ⟨hE1, hE2, -⟩ := ents2 w (.cells #[.slice s.ao s.n s.c] 26) (.cells #[.int .i64 0, .slice none 0 0] 28)
  have hB := ((Grew.refl w).alloc (.cells #[.slice s.ao s.n s.c] 26)).alloc (.cells #[.int .i64 0, .slice none 0 0] 28)
  have hx := h.grew hB
  have chE1 := box_cell hE1
  have chE2a := box2_c0 hE2
  have chE2b := box2_c1 hE2
  have fhE2a := box2_f hE2 0
  have fhE2b := box2_f hE2 1
  have hz : (s.n == 0) = false := beq_eq_false_iff_ne.2 (fun e => by have := h.zero_iff.2 e; omega)
  have hzi : ((s.n : Int) == 0) = false := beq_eq_false_iff_ne.2 (fun e => by have := h.zero_iff.2 (by omega); omega)
  go_enter Try.func47, Try.ntmps47
  go_wp2
  exact bodyPost_ret (v := .agg #[.int .i64 S, .slice s.ao s.n s.c]) (by simp [results, Try.results47, go_sem]) rfl ⟨rfl, ((Grew.refl w).alloc _).alloc _⟩

set_option maxRecDepth 100000 in
set_option maxHeartbeats 1600000 in
theorem rztext_n {w : World} {s : Sl} {x : Nat} (h : RefS w s x) (hn : s.n ≤ 100000000000) :
    Calls Try.prog 66 #[.agg #[.int .i64 (-1), .slice s.ao s.n s.c]] w fun e w' => e = .returned (.string (⟨#[45]⟩ ++ txt (dec x))) ∧ Below w.heap.size w w' := by
  have hE1 := ent_new w (.cells #[.int .i64 (-1), .slice s.ao s.n s.c] 28)
  have hB := (Grew.refl w).alloc (.cells #[.int .i64 (-1), .slice s.ao s.n s.c] 28)
  have hx := h.grew hB
  have chE1a := box2_c0 hE1
  have chE1b := box2_c1 hE1
  have hsz : ¬ 9223372036854775807 < 1 + (txt (dec x)).size := by have := txt_dec_size (rdl_bound h); omega
  go_enter Try.func66, Try.ntmps66
  go_wp2_with fail
  generalize w.alloc (.cells #[.int .i64 (-1), .slice s.ao s.n s.c] 28) = W at *
  refine (rtext_spec hx (by omega)).mono ?_
  rintro e w1 ⟨rfl, hb1⟩
  have ha1 : Grew w1 (w1) := Grew.refl w1
  have hg1' := (Grew.call (Grew.refl _) hb1).trans ha1
  replace hx := hx.grew hg1'
  replace hE1 := ent_grew hg1' hE1
  replace hB := hB.trans hg1'
  clear hg1' ha1 hb1 chE1a chE1b
  have chE1a := box2_c0 hE1
  have chE1b := box2_c1 hE1
  go_wp2
  go_ret
  exact ⟨rfl, hB⟩

set_option maxRecDepth 100000 in
set_option maxHeartbeats 1600000 in
theorem rztext_z {w : World} {s : Sl} {x : Nat} (h : RefS w s x) (hn : s.n ≤ 100000000000) :
    Calls Try.prog 66 #[.agg #[.int .i64 0, .slice s.ao s.n s.c]] w fun e w' => e = .returned (.string (txt (dec x))) ∧ Below w.heap.size w w' := by
  have hE1 := ent_new w (.cells #[.int .i64 0, .slice s.ao s.n s.c] 28)
  have hB := (Grew.refl w).alloc (.cells #[.int .i64 0, .slice s.ao s.n s.c] 28)
  have hx := h.grew hB
  have chE1a := box2_c0 hE1
  have chE1b := box2_c1 hE1
  go_enter Try.func66, Try.ntmps66
  go_wp2_with fail
  generalize w.alloc (.cells #[.int .i64 0, .slice s.ao s.n s.c] 28) = W at *
  refine (rtext_spec hx (by omega)).mono ?_
  rintro e w1 ⟨rfl, hb1⟩
  have ha1 : Grew w1 (w1) := Grew.refl w1
  have hg1' := (Grew.call (Grew.refl _) hb1).trans ha1
  replace hx := hx.grew hg1'
  replace hE1 := ent_grew hg1' hE1
  replace hB := hB.trans hg1'
  clear hg1' ha1 hb1 chE1a chE1b
  have chE1a := box2_c0 hE1
  have chE1b := box2_c1 hE1
  go_wp2
  go_ret
  exact ⟨rfl, hB⟩

set_option maxRecDepth 100000 in
set_option maxHeartbeats 1600000 in
theorem rztext_p {w : World} {s : Sl} {x : Nat} (h : RefS w s x) (hn : s.n ≤ 100000000000) :
    Calls Try.prog 66 #[.agg #[.int .i64 1, .slice s.ao s.n s.c]] w fun e w' => e = .returned (.string (txt (dec x))) ∧ Below w.heap.size w w' := by
  have hE1 := ent_new w (.cells #[.int .i64 1, .slice s.ao s.n s.c] 28)
  have hB := (Grew.refl w).alloc (.cells #[.int .i64 1, .slice s.ao s.n s.c] 28)
  have hx := h.grew hB
  have chE1a := box2_c0 hE1
  have chE1b := box2_c1 hE1
  go_enter Try.func66, Try.ntmps66
  go_wp2_with fail
  generalize w.alloc (.cells #[.int .i64 1, .slice s.ao s.n s.c] 28) = W at *
  refine (rtext_spec hx (by omega)).mono ?_
  rintro e w1 ⟨rfl, hb1⟩
  have ha1 : Grew w1 (w1) := Grew.refl w1
  have hg1' := (Grew.call (Grew.refl _) hb1).trans ha1
  replace hx := hx.grew hg1'
  replace hE1 := ent_grew hg1' hE1
  replace hB := hB.trans hg1'
  clear hg1' ha1 hb1 chE1a chE1b
  have chE1a := box2_c0 hE1
  have chE1b := box2_c1 hE1
  go_wp2
  go_ret
  exact ⟨rfl, hB⟩


end Go.Proofs.Ytnjohlimjbmkgaa
