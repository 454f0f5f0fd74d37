/- zed: Floor, where nothing is put right. -/
import Derived.Test.YtnjohlimjbmkgaaProg
import Derived.Test.YtnjohlimjbmkgaaZedF
namespace Go.Proofs.Ytnjohlimjbmkgaa
open Go.RowKit

set_option maxRecDepth 100000 in
set_option maxHeartbeats 1600000 in
theorem zfloor_ff {w : World} {s t : Sl} {x y : Nat} (h : NatS w s x) (h' : NatS w t y) (hn : s.n ≤ 10000000000) (hm : t.n ≤ 10000000000) (hyp : 0 < y) {Q M : Nat} (hQ : Hid (x / y = Q)) (hM : Hid (x % y = M)) :
    Calls Try.prog 21 #[.agg #[.slice s.ao s.n s.c, .bool false], .agg #[.slice t.ao t.n t.c, .bool false]] w fun e w' => ∃ (u : Sl) (d : Bool) (v : Sl) (d' : Bool), e = .returned (.tuple #[.agg #[.slice u.ao u.n u.c, .bool d], .agg #[.slice v.ao v.n v.c, .bool d'], .int .i64 0]) ∧ ZS w' u d (((Q : Nat) : Int)) ∧ ZS w' v d' (((M : Nat) : Int)) ∧ u.n ≤ s.n + 3 ∧ v.n ≤ max s.n t.n + 1 ∧ Below w.heap.size w w' := by
  obtain ⟨hE1, hE2, hE3, hE4, -⟩ := ents4 w (.cells #[.slice s.ao s.n s.c, .bool false] 33) (.cells #[.slice t.ao t.n t.c, .bool false] 33) (.cells #[.slice none 0 0, .bool false] 33) (.cells #[.slice none 0 0, .bool false] 33)
  have hB := ((((Grew.refl w).alloc (.cells #[.slice s.ao s.n s.c, .bool false] 33)).alloc (.cells #[.slice t.ao t.n t.c, .bool false] 33)).alloc (.cells #[.slice none 0 0, .bool false] 33)).alloc (.cells #[.slice none 0 0, .bool false] 33)
  have hx := h.grew hB
  have hy := h'.grew hB
  have chE1a := box2_c0 hE1
  have chE1b := box2_c1 hE1
  have chE2a := box2_c0 hE2
  have chE2b := box2_c1 hE2
  have chE3a := box2_c0 hE3
  have chE3b := box2_c1 hE3
  have fhE3a := box2_f hE3 0
  have fhE3b := box2_f hE3 1
  have chE4a := box2_c0 hE4
  have chE4b := box2_c1 hE4
  have fhE4a := box2_f hE4 0
  have fhE4b := box2_f hE4 1
  go_enter Try.func21, Try.ntmps21
  go_wp2_with fail
  generalize (((w.alloc (.cells #[.slice s.ao s.n s.c, .bool false] 33)).alloc (.cells #[.slice t.ao t.n t.c, .bool false] 33)).alloc (.cells #[.slice none 0 0, .bool false] 33)).alloc (.cells #[.slice none 0 0, .bool false] 33) = W at *
  refine (div_v hQ hM hx hy (by omega) (by omega) hyp).mono ?_
  rintro e w1 ⟨q, r, rfl, hq, hr, hqn, hrn, -, hb1⟩
  have ha1 : Grew w1 (((w1.alloc (.cells #[.slice q.ao q.n q.c] 31)).alloc (.cells #[.slice r.ao r.n r.c] 31))) := ((Grew.refl w1).alloc (.cells #[.slice q.ao q.n q.c] 31)).alloc (.cells #[.slice r.ao r.n r.c] 31)
  have hg1' := (Grew.call (Grew.refl _) hb1).trans ha1
  replace hx := hx.grew hg1'
  replace hy := hy.grew hg1'
  replace hE1 := ent_grew hg1' hE1
  replace hE2 := ent_grew hg1' hE2
  replace hE3 := ent_grew hg1' hE3
  replace hE4 := ent_grew hg1' hE4
  replace hq := hq.grew ha1
  replace hr := hr.grew ha1
  obtain ⟨hEq, hEr, -⟩ := ents2 w1 (.cells #[.slice q.ao q.n q.c] 31) (.cells #[.slice r.ao r.n r.c] 31)
  replace hB := hB.trans hg1'
  clear hg1' ha1 hb1 chE1a chE1b chE2a chE2b chE3a chE3b fhE3a fhE3b chE4a chE4b fhE4a fhE4b
  have chE1a := box2_c0 hE1
  have chE1b := box2_c1 hE1
  have chE2a := box2_c0 hE2
  have chE2b := box2_c1 hE2
  have chE3a := box2_c0 hE3
  have chE3b := box2_c1 hE3
  have fhE3a := box2_f hE3 0
  have fhE3b := box2_f hE3 1
  have chE4a := box2_c0 hE4
  have chE4b := box2_c1 hE4
  have fhE4a := box2_f hE4 0
  have fhE4b := box2_f hE4 1
  have chEq := box_cell hEq
  have chEr := box_cell hEr
  go_upto_region 4 with fail
  generalize ((w1.alloc (.cells #[.slice q.ao q.n q.c] 31)).alloc (.cells #[.slice r.ao r.n r.c] 31)) = W2 at *
  clear chE1a chE1b chE2a chE2b chE3a chE3b fhE3a fhE3b chE4a chE4b fhE4a fhE4b chEq chEr
  go_cut [10, 11] (fun s10 s11 wx => FB W2 q r false false s10 s11 wx)
  case first =>
    have mk : Hid (∀ w', Grew W2 w' → w'.cell? ⟨w.heap.size, 1, none⟩ = some (.bool false) ∧ w'.cell? ⟨w.heap.size + 1, 1, none⟩ = some (.bool false) ∧ w'.cell? ⟨w1.heap.size, 0, none⟩ = some (.slice q.ao q.n q.c) ∧ w'.cell? ⟨w1.heap.size + 1, 0, none⟩ = some (.slice r.ao r.n r.c) ∧ Grew W2 w') := fun w' hg => ⟨box2_c1 (ent_grew hg hE1), box2_c1 (ent_grew hg hE2), cell_grew hg hEq, cell_grew hg hEr, hg⟩
    clear hE1 hE2 hE3 hE4 hEq hEr hB
    go_region_held3 (fun w' => w'.cell? ⟨w.heap.size, 1, none⟩ = some (.bool false) ∧ w'.cell? ⟨w.heap.size + 1, 1, none⟩ = some (.bool false) ∧ w'.cell? ⟨w1.heap.size, 0, none⟩ = some (.slice q.ao q.n q.c) ∧ w'.cell? ⟨w1.heap.size + 1, 0, none⟩ = some (.slice r.ao r.n r.c) ∧ Grew W2 w')
      (first | (refine mk.out _ ?_; repeat' first | assumption | with_reducible exact Grew.refl _ | with_reducible refine Grew.alloc ?_ _ | with_reducible refine Grew.drew ?_ | refine Grew.set ?_ (by (try dsimp only); omega) _))
      (first
        | (go_at_call 68; have hbt0 := hbt; clear hbt0; refine (zmade_spec _ (hr.grew (‹_ ∧ _ ∧ _ ∧ _ ∧ Grew W2 _›.2.2.2.2)) (by omega)).mono ?_; rintro e wd ⟨rfl, hbd⟩; (have hgd : Grew W2 wd := Grew.call (‹_ ∧ _ ∧ _ ∧ _ ∧ Grew W2 _›.2.2.2.2) hbd); (have hsd : W2.heap.size ≤ wd.heap.size := Below.size hgd); (first | (have he3 : wd.heap[W2.heap.size]? = some (.cells #[.slice none 0 0, .bool false] 33 (0, 0)) := (by with_reducible first | exact ent_up hbd he1 | exact ent_up hbd (ent_old he1 _)); have hc3 := box2_c0 he3; have hd3 := box2_c1 he3; have hf3 := box2_f he3 0; have hg3 := box2_f he3 1; have hl3 : W2.heap.size < wd.heap.size := ent_lt he3; have hm3 : ¬ (W2.heap.size = wd.heap.size) := Nat.ne_of_lt (ent_lt he3)) | skip); (first | (have he4 : wd.heap[W2.heap.size + 1]? = some (.cells #[.slice none 0 0, .bool false] 33 (0, 0)) := (by with_reducible first | exact ent_up hbd he2); have hc4 := box2_c0 he4; have hd4 := box2_c1 he4; have hf4 := box2_f he4 0; have hg4 := box2_f he4 1; have hl4 : W2.heap.size + 1 < wd.heap.size := ent_lt he4; have hm4 : ¬ (W2.heap.size + 1 = wd.heap.size) := Nat.ne_of_lt (ent_lt he4)) | skip); (first | (have he5 : wd.heap[wt.heap.size]? = some (.cells #[.slice none 0 0, .bool false] 33 (0, 0)) := (by with_reducible first | exact ent_up hbd (ent_new wt _) | exact ent_up hbd (ent_old (ent_new wt _) _)); have hc5 := box2_c0 he5; have hd5 := box2_c1 he5; have hf5 := box2_f he5 0; have hg5 := box2_f he5 1; have hl5 : wt.heap.size < wd.heap.size := ent_lt he5; have hm5 : ¬ (wt.heap.size = wd.heap.size) := Nat.ne_of_lt (ent_lt he5)) | skip); (first | (have he6 : wd.heap[wt.heap.size + 1]? = some (.cells #[.slice none 0 0, .bool false] 33 (0, 0)) := (by with_reducible first | exact ent_up hbd (ents2 wt _ _).2.1); have hc6 := box2_c0 he6; have hd6 := box2_c1 he6; have hf6 := box2_f he6 0; have hg6 := box2_f he6 1; have hl6 : wt.heap.size + 1 < wd.heap.size := ent_lt he6; have hm6 : ¬ (wt.heap.size + 1 = wd.heap.size) := Nat.ne_of_lt (ent_lt he6)) | skip))
        | (go_at_call 68; refine (zmade_spec _ (hq.grew (‹_ ∧ _ ∧ _ ∧ _ ∧ Grew W2 _›.2.2.2.2)) (by omega)).mono ?_; rintro e wt ⟨rfl, hbt⟩; (have hgt : Grew W2 wt := Grew.call (‹_ ∧ _ ∧ _ ∧ _ ∧ Grew W2 _›.2.2.2.2) hbt); (have hst : W2.heap.size ≤ wt.heap.size := Below.size hgt); (first | (have he1 : wt.heap[W2.heap.size]? = some (.cells #[.slice none 0 0, .bool false] 33 (0, 0)) := (by with_reducible first | exact ent_up (below_undrew hbt) (ent_new W2 _) | exact ent_up (below_undrew hbt) (ent_old (ent_new W2 _) _)); have hc1 := box2_c0 he1; have hd1 := box2_c1 he1; have hf1 := box2_f he1 0; have hg1 := box2_f he1 1; have hl1 : W2.heap.size < wt.heap.size := ent_lt he1; have hm1 : ¬ (W2.heap.size = wt.heap.size) := Nat.ne_of_lt (ent_lt he1)) | skip); (first | (have he2 : wt.heap[W2.heap.size + 1]? = some (.cells #[.slice none 0 0, .bool false] 33 (0, 0)) := (by with_reducible first | exact ent_up (below_undrew hbt) (ents2 W2 _ _).2.1); have hc2 := box2_c0 he2; have hd2 := box2_c1 he2; have hf2 := box2_f he2 0; have hg2 := box2_f he2 1; have hl2 : W2.heap.size + 1 < wt.heap.size := ent_lt he2; have hm2 : ¬ (W2.heap.size + 1 = wt.heap.size) := Nat.ne_of_lt (ent_lt he2)) | skip)))
    all_goals go_wp2
    all_goals go_meet
    all_goals clear mk
    all_goals (first | with_reducible exact FB.e1 _ _ _ _ hgd | with_reducible exact FB.e2 _ _ _ _ hgd | (with_reducible refine FB.e3 _ _ _ _ hgd (by assumption) ?_; omega) | (with_reducible refine FB.e4 _ _ _ _ hgd (by assumption) ?_; omega) | (with_reducible refine FB.e5 _ _ _ _ hgd (by assumption) (by assumption) ?_ ?_ ?_ <;> omega) | trace_state)
  case rest =>
    have hlt4 := ent_lt hE4
    obtain ⟨g, k, rfl, rfl, hEg, hEk, hgk, hg1, hk1, hGr⟩ := hcut
    clear hEq hEr
    replace hE1 := ent_grew hGr hE1
    replace hE2 := ent_grew hGr hE2
    replace hE3 := ent_grew hGr hE3
    replace hE4 := ent_grew hGr hE4
    replace hx := hx.grew hGr
    replace hy := hy.grew hGr
    replace hq := hq.grew hGr
    replace hr := hr.grew hGr
    replace hB := hB.trans hGr
    clear hGr
    have hn3g : ¬ (w.heap.size + 1 + 1 = g) := by omega
    have hn4g : ¬ (w.heap.size + 1 + 1 + 1 = g) := by omega
    have hn3k : ¬ (w.heap.size + 1 + 1 = k) := by omega
    have hn4k : ¬ (w.heap.size + 1 + 1 + 1 = k) := by omega
    have hn1g : ¬ (w.heap.size = g) := by omega
    have hn2g : ¬ (w.heap.size + 1 = g) := by omega
    have hn1k : ¬ (w.heap.size = k) := by omega
    have hn2k : ¬ (w.heap.size + 1 = k) := by omega
    have chE1a := box2_c0 hE1
    have chE1b := box2_c1 hE1
    have chE2a := box2_c0 hE2
    have chE2b := box2_c1 hE2
    have chE3a := box2_c0 hE3
    have chE3b := box2_c1 hE3
    have fhE3a := box2_f hE3 0
    have fhE3b := box2_f hE3 1
    have chE4a := box2_c0 hE4
    have chE4b := box2_c1 hE4
    have fhE4a := box2_f hE4 0
    have fhE4b := box2_f hE4 1
    have chEga := box2_c0 hEg
    have chEgb := box2_c1 hEg
    have fhEga := box2_f hEg 0
    have fhEgb := box2_f hEg 1
    have chEka := box2_c0 hEk
    have chEkb := box2_c1 hEk
    have fhEka := box2_f hEk 0
    have fhEkb := box2_f hEk 1
    go_wp2
    go_region
    all_goals go_wp2
    have h3 := box2_keep (j := w.heap.size + 1 + 1 + 1) (box2_set hE3 (.slice q.ao q.n q.c) (.bool false)) (by omega) (.slice r.ao r.n r.c) (.bool false)
    have h4k := box2_keep (j := w.heap.size + 1 + 1) hE4 (by omega) (.slice q.ao q.n q.c) (.bool false)
    have h4 := box2_set h4k (.slice r.ao r.n r.c) (.bool false)
    have hk9 := ((Kp.refl wc).set2 hE3 (by decide) (.slice q.ao q.n q.c) (.bool false)).set2 h4k (by decide) (.slice r.ao r.n r.c) (.bool false)
    have hq9 := (hB.set2 (k := w.heap.size + 1 + 1) (by omega) (.slice q.ao q.n q.c) (.bool false)).set2 (k := w.heap.size + 1 + 1 + 1) (by omega) (.slice r.ao r.n r.c) (.bool false)
    clear h4k
    clear chE1a chE1b chE2a chE2b chE3a chE3b fhE3a fhE3b chE4a chE4b fhE4a fhE4b chEga chEgb fhEga fhEgb chEka chEkb fhEka fhEkb
    replace hq := hq.kp hk9
    replace hr := hr.kp hk9
    have s0 := box2_c0 h3
    have s1 := box2_c1 h3
    have s2 := box2_c0 h4
    have s3 := box2_c1 h4
    clear h3 h4 hk9
    generalize (((wc.setCell ⟨w.heap.size + 1 + 1, 0, none⟩ (.slice q.ao q.n q.c)).setCell ⟨w.heap.size + 1 + 1, 1, none⟩ (.bool false)).setCell ⟨w.heap.size + 1 + 1 + 1, 0, none⟩ (.slice r.ao r.n r.c)).setCell ⟨w.heap.size + 1 + 1 + 1, 1, none⟩ (.bool false) = W9 at *
    exact bodyPost_ret (v := .tuple #[.agg #[.slice q.ao q.n q.c, .bool false], .agg #[.slice r.ao r.n r.c, .bool false], .int .i64 0]) (by simp [results, Try.results21, go_sem, s0, s1, s2, s3]) rfl (by first | exact ⟨q, false, r, false, rfl, ⟨hq, (decide_eq_false (Int.not_lt.2 (Int.natCast_nonneg _))).symm⟩, ⟨hr, (decide_eq_false (Int.not_lt.2 (Int.natCast_nonneg _))).symm⟩, by omega, by omega, hq9⟩ | (have hq9 := Grew.drew hq9; exact ⟨q, false, r, false, rfl, ⟨hq, (decide_eq_false (Int.not_lt.2 (Int.natCast_nonneg _))).symm⟩, ⟨hr, (decide_eq_false (Int.not_lt.2 (Int.natCast_nonneg _))).symm⟩, by omega, by omega, hq9⟩))

set_option maxRecDepth 100000 in
set_option maxHeartbeats 1600000 in
theorem zfloor_ft {w : World} {s t : Sl} {x y : Nat} (h : NatS w s x) (h' : NatS w t y) (hn : s.n ≤ 10000000000) (hm : t.n ≤ 10000000000) (hyp : 0 < y) {Q M : Nat} (hQ : Hid (x / y = Q)) (hM : Hid (x % y = M)) :
    Calls Try.prog 21 #[.agg #[.slice s.ao s.n s.c, .bool false], .agg #[.slice t.ao t.n t.c, .bool true]] w fun e w' => ∃ (u : Sl) (d : Bool) (v : Sl) (d' : Bool), e = .returned (.tuple #[.agg #[.slice u.ao u.n u.c, .bool d], .agg #[.slice v.ao v.n v.c, .bool d'], .int .i64 0]) ∧ ZS w' u d (-((Q : Nat) : Int)) ∧ ZS w' v d' (((M : Nat) : Int)) ∧ u.n ≤ s.n + 3 ∧ v.n ≤ max s.n t.n + 1 ∧ Below w.heap.size w w' := by
  obtain ⟨hE1, hE2, hE3, hE4, -⟩ := ents4 w (.cells #[.slice s.ao s.n s.c, .bool false] 33) (.cells #[.slice t.ao t.n t.c, .bool true] 33) (.cells #[.slice none 0 0, .bool false] 33) (.cells #[.slice none 0 0, .bool false] 33)
  have hB := ((((Grew.refl w).alloc (.cells #[.slice s.ao s.n s.c, .bool false] 33)).alloc (.cells #[.slice t.ao t.n t.c, .bool true] 33)).alloc (.cells #[.slice none 0 0, .bool false] 33)).alloc (.cells #[.slice none 0 0, .bool false] 33)
  have hx := h.grew hB
  have hy := h'.grew hB
  have chE1a := box2_c0 hE1
  have chE1b := box2_c1 hE1
  have chE2a := box2_c0 hE2
  have chE2b := box2_c1 hE2
  have chE3a := box2_c0 hE3
  have chE3b := box2_c1 hE3
  have fhE3a := box2_f hE3 0
  have fhE3b := box2_f hE3 1
  have chE4a := box2_c0 hE4
  have chE4b := box2_c1 hE4
  have fhE4a := box2_f hE4 0
  have fhE4b := box2_f hE4 1
  go_enter Try.func21, Try.ntmps21
  go_wp2_with fail
  generalize (((w.alloc (.cells #[.slice s.ao s.n s.c, .bool false] 33)).alloc (.cells #[.slice t.ao t.n t.c, .bool true] 33)).alloc (.cells #[.slice none 0 0, .bool false] 33)).alloc (.cells #[.slice none 0 0, .bool false] 33) = W at *
  refine (div_v hQ hM hx hy (by omega) (by omega) hyp).mono ?_
  rintro e w1 ⟨q, r, rfl, hq, hr, hqn, hrn, -, hb1⟩
  have ha1 : Grew w1 (((w1.alloc (.cells #[.slice q.ao q.n q.c] 31)).alloc (.cells #[.slice r.ao r.n r.c] 31))) := ((Grew.refl w1).alloc (.cells #[.slice q.ao q.n q.c] 31)).alloc (.cells #[.slice r.ao r.n r.c] 31)
  have hg1' := (Grew.call (Grew.refl _) hb1).trans ha1
  replace hx := hx.grew hg1'
  replace hy := hy.grew hg1'
  replace hE1 := ent_grew hg1' hE1
  replace hE2 := ent_grew hg1' hE2
  replace hE3 := ent_grew hg1' hE3
  replace hE4 := ent_grew hg1' hE4
  replace hq := hq.grew ha1
  replace hr := hr.grew ha1
  obtain ⟨hEq, hEr, -⟩ := ents2 w1 (.cells #[.slice q.ao q.n q.c] 31) (.cells #[.slice r.ao r.n r.c] 31)
  replace hB := hB.trans hg1'
  clear hg1' ha1 hb1 chE1a chE1b chE2a chE2b chE3a chE3b fhE3a fhE3b chE4a chE4b fhE4a fhE4b
  have chE1a := box2_c0 hE1
  have chE1b := box2_c1 hE1
  have chE2a := box2_c0 hE2
  have chE2b := box2_c1 hE2
  have chE3a := box2_c0 hE3
  have chE3b := box2_c1 hE3
  have fhE3a := box2_f hE3 0
  have fhE3b := box2_f hE3 1
  have chE4a := box2_c0 hE4
  have chE4b := box2_c1 hE4
  have fhE4a := box2_f hE4 0
  have fhE4b := box2_f hE4 1
  have chEq := box_cell hEq
  have chEr := box_cell hEr
  go_upto_region 4 with fail
  generalize ((w1.alloc (.cells #[.slice q.ao q.n q.c] 31)).alloc (.cells #[.slice r.ao r.n r.c] 31)) = W2 at *
  clear chE1a chE1b chE2a chE2b chE3a chE3b fhE3a fhE3b chE4a chE4b fhE4a fhE4b chEq chEr
  go_cut [10, 11] (fun s10 s11 wx => FB W2 q r (decide (0 < Q)) false s10 s11 wx)
  case first =>
    have mk : Hid (∀ w', Grew W2 w' → w'.cell? ⟨w.heap.size, 1, none⟩ = some (.bool false) ∧ w'.cell? ⟨w.heap.size + 1, 1, none⟩ = some (.bool true) ∧ w'.cell? ⟨w1.heap.size, 0, none⟩ = some (.slice q.ao q.n q.c) ∧ w'.cell? ⟨w1.heap.size + 1, 0, none⟩ = some (.slice r.ao r.n r.c) ∧ Grew W2 w') := fun w' hg => ⟨box2_c1 (ent_grew hg hE1), box2_c1 (ent_grew hg hE2), cell_grew hg hEq, cell_grew hg hEr, hg⟩
    clear hE1 hE2 hE3 hE4 hEq hEr hB
    go_region_held3 (fun w' => w'.cell? ⟨w.heap.size, 1, none⟩ = some (.bool false) ∧ w'.cell? ⟨w.heap.size + 1, 1, none⟩ = some (.bool true) ∧ w'.cell? ⟨w1.heap.size, 0, none⟩ = some (.slice q.ao q.n q.c) ∧ w'.cell? ⟨w1.heap.size + 1, 0, none⟩ = some (.slice r.ao r.n r.c) ∧ Grew W2 w')
      (first | (refine mk.out _ ?_; repeat' first | assumption | with_reducible exact Grew.refl _ | with_reducible refine Grew.alloc ?_ _ | with_reducible refine Grew.drew ?_ | refine Grew.set ?_ (by (try dsimp only); omega) _))
      (first
        | (go_at_call 68; have hbt0 := hbt; clear hbt0; refine (zmade_spec _ (hr.grew (‹_ ∧ _ ∧ _ ∧ _ ∧ Grew W2 _›.2.2.2.2)) (by omega)).mono ?_; rintro e wd ⟨rfl, hbd⟩; (have hgd : Grew W2 wd := Grew.call (‹_ ∧ _ ∧ _ ∧ _ ∧ Grew W2 _›.2.2.2.2) hbd); (have hsd : W2.heap.size ≤ wd.heap.size := Below.size hgd); (first | (have he3 : wd.heap[W2.heap.size]? = some (.cells #[.slice none 0 0, .bool false] 33 (0, 0)) := (by with_reducible first | exact ent_up hbd he1 | exact ent_up hbd (ent_old he1 _)); have hc3 := box2_c0 he3; have hd3 := box2_c1 he3; have hf3 := box2_f he3 0; have hg3 := box2_f he3 1; have hl3 : W2.heap.size < wd.heap.size := ent_lt he3; have hm3 : ¬ (W2.heap.size = wd.heap.size) := Nat.ne_of_lt (ent_lt he3)) | skip); (first | (have he4 : wd.heap[W2.heap.size + 1]? = some (.cells #[.slice none 0 0, .bool false] 33 (0, 0)) := (by with_reducible first | exact ent_up hbd he2); have hc4 := box2_c0 he4; have hd4 := box2_c1 he4; have hf4 := box2_f he4 0; have hg4 := box2_f he4 1; have hl4 : W2.heap.size + 1 < wd.heap.size := ent_lt he4; have hm4 : ¬ (W2.heap.size + 1 = wd.heap.size) := Nat.ne_of_lt (ent_lt he4)) | skip); (first | (have he5 : wd.heap[wt.heap.size]? = some (.cells #[.slice none 0 0, .bool false] 33 (0, 0)) := (by with_reducible first | exact ent_up hbd (ent_new wt _) | exact ent_up hbd (ent_old (ent_new wt _) _)); have hc5 := box2_c0 he5; have hd5 := box2_c1 he5; have hf5 := box2_f he5 0; have hg5 := box2_f he5 1; have hl5 : wt.heap.size < wd.heap.size := ent_lt he5; have hm5 : ¬ (wt.heap.size = wd.heap.size) := Nat.ne_of_lt (ent_lt he5)) | skip); (first | (have he6 : wd.heap[wt.heap.size + 1]? = some (.cells #[.slice none 0 0, .bool false] 33 (0, 0)) := (by with_reducible first | exact ent_up hbd (ents2 wt _ _).2.1); have hc6 := box2_c0 he6; have hd6 := box2_c1 he6; have hf6 := box2_f he6 0; have hg6 := box2_f he6 1; have hl6 : wt.heap.size + 1 < wd.heap.size := ent_lt he6; have hm6 : ¬ (wt.heap.size + 1 = wd.heap.size) := Nat.ne_of_lt (ent_lt he6)) | skip))
        | (go_at_call 68; refine (zmade_spec _ (hq.grew (‹_ ∧ _ ∧ _ ∧ _ ∧ Grew W2 _›.2.2.2.2)) (by omega)).mono ?_; rintro e wt ⟨rfl, hbt⟩; (have hgt : Grew W2 wt := Grew.call (‹_ ∧ _ ∧ _ ∧ _ ∧ Grew W2 _›.2.2.2.2) hbt); (have hst : W2.heap.size ≤ wt.heap.size := Below.size hgt); (first | (have he1 : wt.heap[W2.heap.size]? = some (.cells #[.slice none 0 0, .bool false] 33 (0, 0)) := (by with_reducible first | exact ent_up (below_undrew hbt) (ent_new W2 _) | exact ent_up (below_undrew hbt) (ent_old (ent_new W2 _) _)); have hc1 := box2_c0 he1; have hd1 := box2_c1 he1; have hf1 := box2_f he1 0; have hg1 := box2_f he1 1; have hl1 : W2.heap.size < wt.heap.size := ent_lt he1; have hm1 : ¬ (W2.heap.size = wt.heap.size) := Nat.ne_of_lt (ent_lt he1)) | skip); (first | (have he2 : wt.heap[W2.heap.size + 1]? = some (.cells #[.slice none 0 0, .bool false] 33 (0, 0)) := (by with_reducible first | exact ent_up (below_undrew hbt) (ents2 W2 _ _).2.1); have hc2 := box2_c0 he2; have hd2 := box2_c1 he2; have hf2 := box2_f he2 0; have hg2 := box2_f he2 1; have hl2 : W2.heap.size + 1 < wt.heap.size := ent_lt he2; have hm2 : ¬ (W2.heap.size + 1 = wt.heap.size) := Nat.ne_of_lt (ent_lt he2)) | skip)))
    all_goals go_wp2
    all_goals go_meet
    all_goals clear mk
    all_goals (first | with_reducible exact FB.e1 _ _ _ _ hgd | with_reducible exact FB.e2 _ _ _ _ hgd | (with_reducible refine FB.e3 _ _ _ _ hgd (by assumption) ?_; omega) | (with_reducible refine FB.e4 _ _ _ _ hgd (by assumption) ?_; omega) | (with_reducible refine FB.e5 _ _ _ _ hgd (by assumption) (by assumption) ?_ ?_ ?_ <;> omega) | trace_state)
  case rest =>
    have hlt4 := ent_lt hE4
    obtain ⟨g, k, rfl, rfl, hEg, hEk, hgk, hg1, hk1, hGr⟩ := hcut
    clear hEq hEr
    replace hE1 := ent_grew hGr hE1
    replace hE2 := ent_grew hGr hE2
    replace hE3 := ent_grew hGr hE3
    replace hE4 := ent_grew hGr hE4
    replace hx := hx.grew hGr
    replace hy := hy.grew hGr
    replace hq := hq.grew hGr
    replace hr := hr.grew hGr
    replace hB := hB.trans hGr
    clear hGr
    have hn3g : ¬ (w.heap.size + 1 + 1 = g) := by omega
    have hn4g : ¬ (w.heap.size + 1 + 1 + 1 = g) := by omega
    have hn3k : ¬ (w.heap.size + 1 + 1 = k) := by omega
    have hn4k : ¬ (w.heap.size + 1 + 1 + 1 = k) := by omega
    have hn1g : ¬ (w.heap.size = g) := by omega
    have hn2g : ¬ (w.heap.size + 1 = g) := by omega
    have hn1k : ¬ (w.heap.size = k) := by omega
    have hn2k : ¬ (w.heap.size + 1 = k) := by omega
    have chE1a := box2_c0 hE1
    have chE1b := box2_c1 hE1
    have chE2a := box2_c0 hE2
    have chE2b := box2_c1 hE2
    have chE3a := box2_c0 hE3
    have chE3b := box2_c1 hE3
    have fhE3a := box2_f hE3 0
    have fhE3b := box2_f hE3 1
    have chE4a := box2_c0 hE4
    have chE4b := box2_c1 hE4
    have fhE4a := box2_f hE4 0
    have fhE4b := box2_f hE4 1
    have chEga := box2_c0 hEg
    have chEgb := box2_c1 hEg
    have fhEga := box2_f hEg 0
    have fhEgb := box2_f hEg 1
    have chEka := box2_c0 hEk
    have chEkb := box2_c1 hEk
    have fhEka := box2_f hEk 0
    have fhEkb := box2_f hEk 1
    go_wp2
    go_region
    all_goals go_wp2
    have h3 := box2_keep (j := w.heap.size + 1 + 1 + 1) (box2_set hE3 (.slice q.ao q.n q.c) (.bool (decide (0 < Q)))) (by omega) (.slice r.ao r.n r.c) (.bool false)
    have h4k := box2_keep (j := w.heap.size + 1 + 1) hE4 (by omega) (.slice q.ao q.n q.c) (.bool (decide (0 < Q)))
    have h4 := box2_set h4k (.slice r.ao r.n r.c) (.bool false)
    have hk9 := ((Kp.refl wc).set2 hE3 (by decide) (.slice q.ao q.n q.c) (.bool (decide (0 < Q)))).set2 h4k (by decide) (.slice r.ao r.n r.c) (.bool false)
    have hq9 := (hB.set2 (k := w.heap.size + 1 + 1) (by omega) (.slice q.ao q.n q.c) (.bool (decide (0 < Q)))).set2 (k := w.heap.size + 1 + 1 + 1) (by omega) (.slice r.ao r.n r.c) (.bool false)
    clear h4k
    clear chE1a chE1b chE2a chE2b chE3a chE3b fhE3a fhE3b chE4a chE4b fhE4a fhE4b chEga chEgb fhEga fhEgb chEka chEkb fhEka fhEkb
    replace hq := hq.kp hk9
    replace hr := hr.kp hk9
    have s0 := box2_c0 h3
    have s1 := box2_c1 h3
    have s2 := box2_c0 h4
    have s3 := box2_c1 h4
    clear h3 h4 hk9
    generalize (((wc.setCell ⟨w.heap.size + 1 + 1, 0, none⟩ (.slice q.ao q.n q.c)).setCell ⟨w.heap.size + 1 + 1, 1, none⟩ (.bool (decide (0 < Q)))).setCell ⟨w.heap.size + 1 + 1 + 1, 0, none⟩ (.slice r.ao r.n r.c)).setCell ⟨w.heap.size + 1 + 1 + 1, 1, none⟩ (.bool false) = W9 at *
    exact bodyPost_ret (v := .tuple #[.agg #[.slice q.ao q.n q.c, .bool (decide (0 < Q))], .agg #[.slice r.ao r.n r.c, .bool false], .int .i64 0]) (by simp [results, Try.results21, go_sem, s0, s1, s2, s3]) rfl (by first | exact ⟨q, (decide (0 < Q)), r, false, rfl, ⟨by rw [Int.natAbs_neg]; exact hq, by rw [decide_eq_decide]; omega⟩, ⟨hr, (decide_eq_false (Int.not_lt.2 (Int.natCast_nonneg _))).symm⟩, by omega, by omega, hq9⟩ | (have hq9 := Grew.drew hq9; exact ⟨q, (decide (0 < Q)), r, false, rfl, ⟨by rw [Int.natAbs_neg]; exact hq, by rw [decide_eq_decide]; omega⟩, ⟨hr, (decide_eq_false (Int.not_lt.2 (Int.natCast_nonneg _))).symm⟩, by omega, by omega, hq9⟩))

set_option maxRecDepth 100000 in
set_option maxHeartbeats 1600000 in
theorem zfloor_tf_z {w : World} {s t : Sl} {x y : Nat} (h : NatS w s x) (h' : NatS w t y) (hn : s.n ≤ 10000000000) (hm : t.n ≤ 10000000000) (hyp : 0 < y) {Q M : Nat} (hQ : Hid (x / y = Q)) (hM : Hid (x % y = M)) (hr0 : M = 0) :
    Calls Try.prog 21 #[.agg #[.slice s.ao s.n s.c, .bool true], .agg #[.slice t.ao t.n t.c, .bool false]] w fun e w' => ∃ (u : Sl) (d : Bool) (v : Sl) (d' : Bool), e = .returned (.tuple #[.agg #[.slice u.ao u.n u.c, .bool d], .agg #[.slice v.ao v.n v.c, .bool d'], .int .i64 0]) ∧ ZS w' u d (-((Q : Nat) : Int)) ∧ ZS w' v d' (((M : Nat) : Int)) ∧ u.n ≤ s.n + 3 ∧ v.n ≤ max s.n t.n + 1 ∧ Below w.heap.size w w' := by
  obtain ⟨hE1, hE2, hE3, hE4, -⟩ := ents4 w (.cells #[.slice s.ao s.n s.c, .bool true] 33) (.cells #[.slice t.ao t.n t.c, .bool false] 33) (.cells #[.slice none 0 0, .bool false] 33) (.cells #[.slice none 0 0, .bool false] 33)
  have hB := ((((Grew.refl w).alloc (.cells #[.slice s.ao s.n s.c, .bool true] 33)).alloc (.cells #[.slice t.ao t.n t.c, .bool false] 33)).alloc (.cells #[.slice none 0 0, .bool false] 33)).alloc (.cells #[.slice none 0 0, .bool false] 33)
  have hx := h.grew hB
  have hy := h'.grew hB
  have chE1a := box2_c0 hE1
  have chE1b := box2_c1 hE1
  have chE2a := box2_c0 hE2
  have chE2b := box2_c1 hE2
  have chE3a := box2_c0 hE3
  have chE3b := box2_c1 hE3
  have fhE3a := box2_f hE3 0
  have fhE3b := box2_f hE3 1
  have chE4a := box2_c0 hE4
  have chE4b := box2_c1 hE4
  have fhE4a := box2_f hE4 0
  have fhE4b := box2_f hE4 1
  go_enter Try.func21, Try.ntmps21
  go_wp2_with fail
  generalize (((w.alloc (.cells #[.slice s.ao s.n s.c, .bool true] 33)).alloc (.cells #[.slice t.ao t.n t.c, .bool false] 33)).alloc (.cells #[.slice none 0 0, .bool false] 33)).alloc (.cells #[.slice none 0 0, .bool false] 33) = W at *
  refine (div_v hQ hM hx hy (by omega) (by omega) hyp).mono ?_
  rintro e w1 ⟨q, r, rfl, hq, hr, hqn, hrn, -, hb1⟩
  have ha1 : Grew w1 (((w1.alloc (.cells #[.slice q.ao q.n q.c] 31)).alloc (.cells #[.slice r.ao r.n r.c] 31))) := ((Grew.refl w1).alloc (.cells #[.slice q.ao q.n q.c] 31)).alloc (.cells #[.slice r.ao r.n r.c] 31)
  have hg1' := (Grew.call (Grew.refl _) hb1).trans ha1
  replace hx := hx.grew hg1'
  replace hy := hy.grew hg1'
  replace hE1 := ent_grew hg1' hE1
  replace hE2 := ent_grew hg1' hE2
  replace hE3 := ent_grew hg1' hE3
  replace hE4 := ent_grew hg1' hE4
  replace hq := hq.grew ha1
  replace hr := hr.grew ha1
  obtain ⟨hEq, hEr, -⟩ := ents2 w1 (.cells #[.slice q.ao q.n q.c] 31) (.cells #[.slice r.ao r.n r.c] 31)
  replace hB := hB.trans hg1'
  clear hg1' ha1 hb1 chE1a chE1b chE2a chE2b chE3a chE3b fhE3a fhE3b chE4a chE4b fhE4a fhE4b
  have chE1a := box2_c0 hE1
  have chE1b := box2_c1 hE1
  have chE2a := box2_c0 hE2
  have chE2b := box2_c1 hE2
  have chE3a := box2_c0 hE3
  have chE3b := box2_c1 hE3
  have fhE3a := box2_f hE3 0
  have fhE3b := box2_f hE3 1
  have chE4a := box2_c0 hE4
  have chE4b := box2_c1 hE4
  have fhE4a := box2_f hE4 0
  have fhE4b := box2_f hE4 1
  have chEq := box_cell hEq
  have chEr := box_cell hEr
  go_upto_region 4 with fail
  generalize ((w1.alloc (.cells #[.slice q.ao q.n q.c] 31)).alloc (.cells #[.slice r.ao r.n r.c] 31)) = W2 at *
  clear chE1a chE1b chE2a chE2b chE3a chE3b fhE3a fhE3b chE4a chE4b fhE4a fhE4b chEq chEr
  go_cut [10, 11] (fun s10 s11 wx => FB W2 q r (decide (0 < Q)) false s10 s11 wx)
  case first =>
    have mk : Hid (∀ w', Grew W2 w' → w'.cell? ⟨w.heap.size, 1, none⟩ = some (.bool true) ∧ w'.cell? ⟨w.heap.size + 1, 1, none⟩ = some (.bool false) ∧ w'.cell? ⟨w1.heap.size, 0, none⟩ = some (.slice q.ao q.n q.c) ∧ w'.cell? ⟨w1.heap.size + 1, 0, none⟩ = some (.slice r.ao r.n r.c) ∧ Grew W2 w') := fun w' hg => ⟨box2_c1 (ent_grew hg hE1), box2_c1 (ent_grew hg hE2), cell_grew hg hEq, cell_grew hg hEr, hg⟩
    clear hE1 hE2 hE3 hE4 hEq hEr hB
    go_region_held3 (fun w' => w'.cell? ⟨w.heap.size, 1, none⟩ = some (.bool true) ∧ w'.cell? ⟨w.heap.size + 1, 1, none⟩ = some (.bool false) ∧ w'.cell? ⟨w1.heap.size, 0, none⟩ = some (.slice q.ao q.n q.c) ∧ w'.cell? ⟨w1.heap.size + 1, 0, none⟩ = some (.slice r.ao r.n r.c) ∧ Grew W2 w')
      (first | (refine mk.out _ ?_; repeat' first | assumption | with_reducible exact Grew.refl _ | with_reducible refine Grew.alloc ?_ _ | with_reducible refine Grew.drew ?_ | refine Grew.set ?_ (by (try dsimp only); omega) _))
      (first
        | (go_at_call 68; have hbt0 := hbt; clear hbt0; refine (zmade_spec _ (hr.grew (‹_ ∧ _ ∧ _ ∧ _ ∧ Grew W2 _›.2.2.2.2)) (by omega)).mono ?_; rintro e wd ⟨rfl, hbd⟩; (have hgd : Grew W2 wd := Grew.call (‹_ ∧ _ ∧ _ ∧ _ ∧ Grew W2 _›.2.2.2.2) hbd); (have hsd : W2.heap.size ≤ wd.heap.size := Below.size hgd); (first | (have he3 : wd.heap[W2.heap.size]? = some (.cells #[.slice none 0 0, .bool false] 33 (0, 0)) := (by with_reducible first | exact ent_up hbd he1 | exact ent_up hbd (ent_old he1 _)); have hc3 := box2_c0 he3; have hd3 := box2_c1 he3; have hf3 := box2_f he3 0; have hg3 := box2_f he3 1; have hl3 : W2.heap.size < wd.heap.size := ent_lt he3; have hm3 : ¬ (W2.heap.size = wd.heap.size) := Nat.ne_of_lt (ent_lt he3)) | skip); (first | (have he4 : wd.heap[W2.heap.size + 1]? = some (.cells #[.slice none 0 0, .bool false] 33 (0, 0)) := (by with_reducible first | exact ent_up hbd he2); have hc4 := box2_c0 he4; have hd4 := box2_c1 he4; have hf4 := box2_f he4 0; have hg4 := box2_f he4 1; have hl4 : W2.heap.size + 1 < wd.heap.size := ent_lt he4; have hm4 : ¬ (W2.heap.size + 1 = wd.heap.size) := Nat.ne_of_lt (ent_lt he4)) | skip); (first | (have he5 : wd.heap[wt.heap.size]? = some (.cells #[.slice none 0 0, .bool false] 33 (0, 0)) := (by with_reducible first | exact ent_up hbd (ent_new wt _) | exact ent_up hbd (ent_old (ent_new wt _) _)); have hc5 := box2_c0 he5; have hd5 := box2_c1 he5; have hf5 := box2_f he5 0; have hg5 := box2_f he5 1; have hl5 : wt.heap.size < wd.heap.size := ent_lt he5; have hm5 : ¬ (wt.heap.size = wd.heap.size) := Nat.ne_of_lt (ent_lt he5)) | skip); (first | (have he6 : wd.heap[wt.heap.size + 1]? = some (.cells #[.slice none 0 0, .bool false] 33 (0, 0)) := (by with_reducible first | exact ent_up hbd (ents2 wt _ _).2.1); have hc6 := box2_c0 he6; have hd6 := box2_c1 he6; have hf6 := box2_f he6 0; have hg6 := box2_f he6 1; have hl6 : wt.heap.size + 1 < wd.heap.size := ent_lt he6; have hm6 : ¬ (wt.heap.size + 1 = wd.heap.size) := Nat.ne_of_lt (ent_lt he6)) | skip))
        | (go_at_call 68; refine (zmade_spec _ (hq.grew (‹_ ∧ _ ∧ _ ∧ _ ∧ Grew W2 _›.2.2.2.2)) (by omega)).mono ?_; rintro e wt ⟨rfl, hbt⟩; (have hgt : Grew W2 wt := Grew.call (‹_ ∧ _ ∧ _ ∧ _ ∧ Grew W2 _›.2.2.2.2) hbt); (have hst : W2.heap.size ≤ wt.heap.size := Below.size hgt); (first | (have he1 : wt.heap[W2.heap.size]? = some (.cells #[.slice none 0 0, .bool false] 33 (0, 0)) := (by with_reducible first | exact ent_up (below_undrew hbt) (ent_new W2 _) | exact ent_up (below_undrew hbt) (ent_old (ent_new W2 _) _)); have hc1 := box2_c0 he1; have hd1 := box2_c1 he1; have hf1 := box2_f he1 0; have hg1 := box2_f he1 1; have hl1 : W2.heap.size < wt.heap.size := ent_lt he1; have hm1 : ¬ (W2.heap.size = wt.heap.size) := Nat.ne_of_lt (ent_lt he1)) | skip); (first | (have he2 : wt.heap[W2.heap.size + 1]? = some (.cells #[.slice none 0 0, .bool false] 33 (0, 0)) := (by with_reducible first | exact ent_up (below_undrew hbt) (ents2 W2 _ _).2.1); have hc2 := box2_c0 he2; have hd2 := box2_c1 he2; have hf2 := box2_f he2 0; have hg2 := box2_f he2 1; have hl2 : W2.heap.size + 1 < wt.heap.size := ent_lt he2; have hm2 : ¬ (W2.heap.size + 1 = wt.heap.size) := Nat.ne_of_lt (ent_lt he2)) | skip)))
    all_goals go_wp2
    all_goals go_meet
    all_goals clear mk
    all_goals (first | with_reducible exact FB.e1 _ _ _ _ hgd | with_reducible exact FB.e2 _ _ _ _ hgd | (with_reducible refine FB.e3 _ _ _ _ hgd (by assumption) ?_; omega) | (with_reducible refine FB.e4 _ _ _ _ hgd (by assumption) ?_; omega) | (with_reducible refine FB.e5 _ _ _ _ hgd (by assumption) (by assumption) ?_ ?_ ?_ <;> omega) | trace_state)
  case rest =>
    have hlt4 := ent_lt hE4
    obtain ⟨g, k, rfl, rfl, hEg, hEk, hgk, hg1, hk1, hGr⟩ := hcut
    clear hEq hEr
    replace hE1 := ent_grew hGr hE1
    replace hE2 := ent_grew hGr hE2
    replace hE3 := ent_grew hGr hE3
    replace hE4 := ent_grew hGr hE4
    replace hx := hx.grew hGr
    replace hy := hy.grew hGr
    replace hq := hq.grew hGr
    replace hr := hr.grew hGr
    replace hB := hB.trans hGr
    clear hGr
    have hn3g : ¬ (w.heap.size + 1 + 1 = g) := by omega
    have hn4g : ¬ (w.heap.size + 1 + 1 + 1 = g) := by omega
    have hn3k : ¬ (w.heap.size + 1 + 1 = k) := by omega
    have hn4k : ¬ (w.heap.size + 1 + 1 + 1 = k) := by omega
    have hn1g : ¬ (w.heap.size = g) := by omega
    have hn2g : ¬ (w.heap.size + 1 = g) := by omega
    have hn1k : ¬ (w.heap.size = k) := by omega
    have hn2k : ¬ (w.heap.size + 1 = k) := by omega
    have chE1a := box2_c0 hE1
    have chE1b := box2_c1 hE1
    have chE2a := box2_c0 hE2
    have chE2b := box2_c1 hE2
    have chE3a := box2_c0 hE3
    have chE3b := box2_c1 hE3
    have fhE3a := box2_f hE3 0
    have fhE3b := box2_f hE3 1
    have chE4a := box2_c0 hE4
    have chE4b := box2_c1 hE4
    have fhE4a := box2_f hE4 0
    have fhE4b := box2_f hE4 1
    have chEga := box2_c0 hEg
    have chEgb := box2_c1 hEg
    have fhEga := box2_f hEg 0
    have fhEgb := box2_f hEg 1
    have chEka := box2_c0 hEk
    have chEkb := box2_c1 hEk
    have fhEka := box2_f hEk 0
    have fhEkb := box2_f hEk 1
    go_wp2
    go_region
    all_goals go_wp2
    have h3 := box2_keep (j := w.heap.size + 1 + 1 + 1) (box2_set hE3 (.slice q.ao q.n q.c) (.bool (decide (0 < Q)))) (by omega) (.slice r.ao r.n r.c) (.bool false)
    have h4k := box2_keep (j := w.heap.size + 1 + 1) hE4 (by omega) (.slice q.ao q.n q.c) (.bool (decide (0 < Q)))
    have h4 := box2_set h4k (.slice r.ao r.n r.c) (.bool false)
    have hk9 := ((Kp.refl wc).set2 hE3 (by decide) (.slice q.ao q.n q.c) (.bool (decide (0 < Q)))).set2 h4k (by decide) (.slice r.ao r.n r.c) (.bool false)
    have hq9 := (hB.set2 (k := w.heap.size + 1 + 1) (by omega) (.slice q.ao q.n q.c) (.bool (decide (0 < Q)))).set2 (k := w.heap.size + 1 + 1 + 1) (by omega) (.slice r.ao r.n r.c) (.bool false)
    clear h4k
    clear chE1a chE1b chE2a chE2b chE3a chE3b fhE3a fhE3b chE4a chE4b fhE4a fhE4b chEga chEgb fhEga fhEgb chEka chEkb fhEka fhEkb
    replace hq := hq.kp hk9
    replace hr := hr.kp hk9
    have s0 := box2_c0 h3
    have s1 := box2_c1 h3
    have s2 := box2_c0 h4
    have s3 := box2_c1 h4
    clear h3 h4 hk9
    generalize (((wc.setCell ⟨w.heap.size + 1 + 1, 0, none⟩ (.slice q.ao q.n q.c)).setCell ⟨w.heap.size + 1 + 1, 1, none⟩ (.bool (decide (0 < Q)))).setCell ⟨w.heap.size + 1 + 1 + 1, 0, none⟩ (.slice r.ao r.n r.c)).setCell ⟨w.heap.size + 1 + 1 + 1, 1, none⟩ (.bool false) = W9 at *
    exact bodyPost_ret (v := .tuple #[.agg #[.slice q.ao q.n q.c, .bool (decide (0 < Q))], .agg #[.slice r.ao r.n r.c, .bool false], .int .i64 0]) (by simp [results, Try.results21, go_sem, s0, s1, s2, s3]) rfl (by first | exact ⟨q, (decide (0 < Q)), r, false, rfl, ⟨by rw [Int.natAbs_neg]; exact hq, by rw [decide_eq_decide]; omega⟩, ⟨hr, (decide_eq_false (Int.not_lt.2 (Int.natCast_nonneg _))).symm⟩, by omega, by omega, hq9⟩ | (have hq9 := Grew.drew hq9; exact ⟨q, (decide (0 < Q)), r, false, rfl, ⟨by rw [Int.natAbs_neg]; exact hq, by rw [decide_eq_decide]; omega⟩, ⟨hr, (decide_eq_false (Int.not_lt.2 (Int.natCast_nonneg _))).symm⟩, by omega, by omega, hq9⟩))

set_option maxRecDepth 100000 in
set_option maxHeartbeats 1600000 in
theorem zfloor_tt_z {w : World} {s t : Sl} {x y : Nat} (h : NatS w s x) (h' : NatS w t y) (hn : s.n ≤ 10000000000) (hm : t.n ≤ 10000000000) (hyp : 0 < y) {Q M : Nat} (hQ : Hid (x / y = Q)) (hM : Hid (x % y = M)) (hr0 : M = 0) :
    Calls Try.prog 21 #[.agg #[.slice s.ao s.n s.c, .bool true], .agg #[.slice t.ao t.n t.c, .bool true]] w fun e w' => ∃ (u : Sl) (d : Bool) (v : Sl) (d' : Bool), e = .returned (.tuple #[.agg #[.slice u.ao u.n u.c, .bool d], .agg #[.slice v.ao v.n v.c, .bool d'], .int .i64 0]) ∧ ZS w' u d (((Q : Nat) : Int)) ∧ ZS w' v d' (((M : Nat) : Int)) ∧ u.n ≤ s.n + 3 ∧ v.n ≤ max s.n t.n + 1 ∧ Below w.heap.size w w' := by
  obtain ⟨hE1, hE2, hE3, hE4, -⟩ := ents4 w (.cells #[.slice s.ao s.n s.c, .bool true] 33) (.cells #[.slice t.ao t.n t.c, .bool true] 33) (.cells #[.slice none 0 0, .bool false] 33) (.cells #[.slice none 0 0, .bool false] 33)
  have hB := ((((Grew.refl w).alloc (.cells #[.slice s.ao s.n s.c, .bool true] 33)).alloc (.cells #[.slice t.ao t.n t.c, .bool true] 33)).alloc (.cells #[.slice none 0 0, .bool false] 33)).alloc (.cells #[.slice none 0 0, .bool false] 33)
  have hx := h.grew hB
  have hy := h'.grew hB
  have chE1a := box2_c0 hE1
  have chE1b := box2_c1 hE1
  have chE2a := box2_c0 hE2
  have chE2b := box2_c1 hE2
  have chE3a := box2_c0 hE3
  have chE3b := box2_c1 hE3
  have fhE3a := box2_f hE3 0
  have fhE3b := box2_f hE3 1
  have chE4a := box2_c0 hE4
  have chE4b := box2_c1 hE4
  have fhE4a := box2_f hE4 0
  have fhE4b := box2_f hE4 1
  go_enter Try.func21, Try.ntmps21
  go_wp2_with fail
  generalize (((w.alloc (.cells #[.slice s.ao s.n s.c, .bool true] 33)).alloc (.cells #[.slice t.ao t.n t.c, .bool true] 33)).alloc (.cells #[.slice none 0 0, .bool false] 33)).alloc (.cells #[.slice none 0 0, .bool false] 33) = W at *
  refine (div_v hQ hM hx hy (by omega) (by omega) hyp).mono ?_
  rintro e w1 ⟨q, r, rfl, hq, hr, hqn, hrn, -, hb1⟩
  have ha1 : Grew w1 (((w1.alloc (.cells #[.slice q.ao q.n q.c] 31)).alloc (.cells #[.slice r.ao r.n r.c] 31))) := ((Grew.refl w1).alloc (.cells #[.slice q.ao q.n q.c] 31)).alloc (.cells #[.slice r.ao r.n r.c] 31)
  have hg1' := (Grew.call (Grew.refl _) hb1).trans ha1
  replace hx := hx.grew hg1'
  replace hy := hy.grew hg1'
  replace hE1 := ent_grew hg1' hE1
  replace hE2 := ent_grew hg1' hE2
  replace hE3 := ent_grew hg1' hE3
  replace hE4 := ent_grew hg1' hE4
  replace hq := hq.grew ha1
  replace hr := hr.grew ha1
  obtain ⟨hEq, hEr, -⟩ := ents2 w1 (.cells #[.slice q.ao q.n q.c] 31) (.cells #[.slice r.ao r.n r.c] 31)
  replace hB := hB.trans hg1'
  clear hg1' ha1 hb1 chE1a chE1b chE2a chE2b chE3a chE3b fhE3a fhE3b chE4a chE4b fhE4a fhE4b
  have chE1a := box2_c0 hE1
  have chE1b := box2_c1 hE1
  have chE2a := box2_c0 hE2
  have chE2b := box2_c1 hE2
  have chE3a := box2_c0 hE3
  have chE3b := box2_c1 hE3
  have fhE3a := box2_f hE3 0
  have fhE3b := box2_f hE3 1
  have chE4a := box2_c0 hE4
  have chE4b := box2_c1 hE4
  have fhE4a := box2_f hE4 0
  have fhE4b := box2_f hE4 1
  have chEq := box_cell hEq
  have chEr := box_cell hEr
  go_upto_region 4 with fail
  generalize ((w1.alloc (.cells #[.slice q.ao q.n q.c] 31)).alloc (.cells #[.slice r.ao r.n r.c] 31)) = W2 at *
  clear chE1a chE1b chE2a chE2b chE3a chE3b fhE3a fhE3b chE4a chE4b fhE4a fhE4b chEq chEr
  go_cut [10, 11] (fun s10 s11 wx => FB W2 q r false false s10 s11 wx)
  case first =>
    have mk : Hid (∀ w', Grew W2 w' → w'.cell? ⟨w.heap.size, 1, none⟩ = some (.bool true) ∧ w'.cell? ⟨w.heap.size + 1, 1, none⟩ = some (.bool true) ∧ w'.cell? ⟨w1.heap.size, 0, none⟩ = some (.slice q.ao q.n q.c) ∧ w'.cell? ⟨w1.heap.size + 1, 0, none⟩ = some (.slice r.ao r.n r.c) ∧ Grew W2 w') := fun w' hg => ⟨box2_c1 (ent_grew hg hE1), box2_c1 (ent_grew hg hE2), cell_grew hg hEq, cell_grew hg hEr, hg⟩
    clear hE1 hE2 hE3 hE4 hEq hEr hB
    go_region_held3 (fun w' => w'.cell? ⟨w.heap.size, 1, none⟩ = some (.bool true) ∧ w'.cell? ⟨w.heap.size + 1, 1, none⟩ = some (.bool true) ∧ w'.cell? ⟨w1.heap.size, 0, none⟩ = some (.slice q.ao q.n q.c) ∧ w'.cell? ⟨w1.heap.size + 1, 0, none⟩ = some (.slice r.ao r.n r.c) ∧ Grew W2 w')
      (first | (refine mk.out _ ?_; repeat' first | assumption | with_reducible exact Grew.refl _ | with_reducible refine Grew.alloc ?_ _ | with_reducible refine Grew.drew ?_ | refine Grew.set ?_ (by (try dsimp only); omega) _))
      (first
        | (go_at_call 68; have hbt0 := hbt; clear hbt0; refine (zmade_spec _ (hr.grew (‹_ ∧ _ ∧ _ ∧ _ ∧ Grew W2 _›.2.2.2.2)) (by omega)).mono ?_; rintro e wd ⟨rfl, hbd⟩; (have hgd : Grew W2 wd := Grew.call (‹_ ∧ _ ∧ _ ∧ _ ∧ Grew W2 _›.2.2.2.2) hbd); (have hsd : W2.heap.size ≤ wd.heap.size := Below.size hgd); (first | (have he3 : wd.heap[W2.heap.size]? = some (.cells #[.slice none 0 0, .bool false] 33 (0, 0)) := (by with_reducible first | exact ent_up hbd he1 | exact ent_up hbd (ent_old he1 _)); have hc3 := box2_c0 he3; have hd3 := box2_c1 he3; have hf3 := box2_f he3 0; have hg3 := box2_f he3 1; have hl3 : W2.heap.size < wd.heap.size := ent_lt he3; have hm3 : ¬ (W2.heap.size = wd.heap.size) := Nat.ne_of_lt (ent_lt he3)) | skip); (first | (have he4 : wd.heap[W2.heap.size + 1]? = some (.cells #[.slice none 0 0, .bool false] 33 (0, 0)) := (by with_reducible first | exact ent_up hbd he2); have hc4 := box2_c0 he4; have hd4 := box2_c1 he4; have hf4 := box2_f he4 0; have hg4 := box2_f he4 1; have hl4 : W2.heap.size + 1 < wd.heap.size := ent_lt he4; have hm4 : ¬ (W2.heap.size + 1 = wd.heap.size) := Nat.ne_of_lt (ent_lt he4)) | skip); (first | (have he5 : wd.heap[wt.heap.size]? = some (.cells #[.slice none 0 0, .bool false] 33 (0, 0)) := (by with_reducible first | exact ent_up hbd (ent_new wt _) | exact ent_up hbd (ent_old (ent_new wt _) _)); have hc5 := box2_c0 he5; have hd5 := box2_c1 he5; have hf5 := box2_f he5 0; have hg5 := box2_f he5 1; have hl5 : wt.heap.size < wd.heap.size := ent_lt he5; have hm5 : ¬ (wt.heap.size = wd.heap.size) := Nat.ne_of_lt (ent_lt he5)) | skip); (first | (have he6 : wd.heap[wt.heap.size + 1]? = some (.cells #[.slice none 0 0, .bool false] 33 (0, 0)) := (by with_reducible first | exact ent_up hbd (ents2 wt _ _).2.1); have hc6 := box2_c0 he6; have hd6 := box2_c1 he6; have hf6 := box2_f he6 0; have hg6 := box2_f he6 1; have hl6 : wt.heap.size + 1 < wd.heap.size := ent_lt he6; have hm6 : ¬ (wt.heap.size + 1 = wd.heap.size) := Nat.ne_of_lt (ent_lt he6)) | skip))
        | (go_at_call 68; refine (zmade_spec _ (hq.grew (‹_ ∧ _ ∧ _ ∧ _ ∧ Grew W2 _›.2.2.2.2)) (by omega)).mono ?_; rintro e wt ⟨rfl, hbt⟩; (have hgt : Grew W2 wt := Grew.call (‹_ ∧ _ ∧ _ ∧ _ ∧ Grew W2 _›.2.2.2.2) hbt); (have hst : W2.heap.size ≤ wt.heap.size := Below.size hgt); (first | (have he1 : wt.heap[W2.heap.size]? = some (.cells #[.slice none 0 0, .bool false] 33 (0, 0)) := (by with_reducible first | exact ent_up (below_undrew hbt) (ent_new W2 _) | exact ent_up (below_undrew hbt) (ent_old (ent_new W2 _) _)); have hc1 := box2_c0 he1; have hd1 := box2_c1 he1; have hf1 := box2_f he1 0; have hg1 := box2_f he1 1; have hl1 : W2.heap.size < wt.heap.size := ent_lt he1; have hm1 : ¬ (W2.heap.size = wt.heap.size) := Nat.ne_of_lt (ent_lt he1)) | skip); (first | (have he2 : wt.heap[W2.heap.size + 1]? = some (.cells #[.slice none 0 0, .bool false] 33 (0, 0)) := (by with_reducible first | exact ent_up (below_undrew hbt) (ents2 W2 _ _).2.1); have hc2 := box2_c0 he2; have hd2 := box2_c1 he2; have hf2 := box2_f he2 0; have hg2 := box2_f he2 1; have hl2 : W2.heap.size + 1 < wt.heap.size := ent_lt he2; have hm2 : ¬ (W2.heap.size + 1 = wt.heap.size) := Nat.ne_of_lt (ent_lt he2)) | skip)))
    all_goals go_wp2
    all_goals go_meet
    all_goals clear mk
    all_goals (first | with_reducible exact FB.e1 _ _ _ _ hgd | with_reducible exact FB.e2 _ _ _ _ hgd | (with_reducible refine FB.e3 _ _ _ _ hgd (by assumption) ?_; omega) | (with_reducible refine FB.e4 _ _ _ _ hgd (by assumption) ?_; omega) | (with_reducible refine FB.e5 _ _ _ _ hgd (by assumption) (by assumption) ?_ ?_ ?_ <;> omega) | trace_state)
  case rest =>
    have hlt4 := ent_lt hE4
    obtain ⟨g, k, rfl, rfl, hEg, hEk, hgk, hg1, hk1, hGr⟩ := hcut
    clear hEq hEr
    replace hE1 := ent_grew hGr hE1
    replace hE2 := ent_grew hGr hE2
    replace hE3 := ent_grew hGr hE3
    replace hE4 := ent_grew hGr hE4
    replace hx := hx.grew hGr
    replace hy := hy.grew hGr
    replace hq := hq.grew hGr
    replace hr := hr.grew hGr
    replace hB := hB.trans hGr
    clear hGr
    have hn3g : ¬ (w.heap.size + 1 + 1 = g) := by omega
    have hn4g : ¬ (w.heap.size + 1 + 1 + 1 = g) := by omega
    have hn3k : ¬ (w.heap.size + 1 + 1 = k) := by omega
    have hn4k : ¬ (w.heap.size + 1 + 1 + 1 = k) := by omega
    have hn1g : ¬ (w.heap.size = g) := by omega
    have hn2g : ¬ (w.heap.size + 1 = g) := by omega
    have hn1k : ¬ (w.heap.size = k) := by omega
    have hn2k : ¬ (w.heap.size + 1 = k) := by omega
    have chE1a := box2_c0 hE1
    have chE1b := box2_c1 hE1
    have chE2a := box2_c0 hE2
    have chE2b := box2_c1 hE2
    have chE3a := box2_c0 hE3
    have chE3b := box2_c1 hE3
    have fhE3a := box2_f hE3 0
    have fhE3b := box2_f hE3 1
    have chE4a := box2_c0 hE4
    have chE4b := box2_c1 hE4
    have fhE4a := box2_f hE4 0
    have fhE4b := box2_f hE4 1
    have chEga := box2_c0 hEg
    have chEgb := box2_c1 hEg
    have fhEga := box2_f hEg 0
    have fhEgb := box2_f hEg 1
    have chEka := box2_c0 hEk
    have chEkb := box2_c1 hEk
    have fhEka := box2_f hEk 0
    have fhEkb := box2_f hEk 1
    go_wp2
    go_region
    all_goals go_wp2
    have h3 := box2_keep (j := w.heap.size + 1 + 1 + 1) (box2_set hE3 (.slice q.ao q.n q.c) (.bool false)) (by omega) (.slice r.ao r.n r.c) (.bool false)
    have h4k := box2_keep (j := w.heap.size + 1 + 1) hE4 (by omega) (.slice q.ao q.n q.c) (.bool false)
    have h4 := box2_set h4k (.slice r.ao r.n r.c) (.bool false)
    have hk9 := ((Kp.refl wc).set2 hE3 (by decide) (.slice q.ao q.n q.c) (.bool false)).set2 h4k (by decide) (.slice r.ao r.n r.c) (.bool false)
    have hq9 := (hB.set2 (k := w.heap.size + 1 + 1) (by omega) (.slice q.ao q.n q.c) (.bool false)).set2 (k := w.heap.size + 1 + 1 + 1) (by omega) (.slice r.ao r.n r.c) (.bool false)
    clear h4k
    clear chE1a chE1b chE2a chE2b chE3a chE3b fhE3a fhE3b chE4a chE4b fhE4a fhE4b chEga chEgb fhEga fhEgb chEka chEkb fhEka fhEkb
    replace hq := hq.kp hk9
    replace hr := hr.kp hk9
    have s0 := box2_c0 h3
    have s1 := box2_c1 h3
    have s2 := box2_c0 h4
    have s3 := box2_c1 h4
    clear h3 h4 hk9
    generalize (((wc.setCell ⟨w.heap.size + 1 + 1, 0, none⟩ (.slice q.ao q.n q.c)).setCell ⟨w.heap.size + 1 + 1, 1, none⟩ (.bool false)).setCell ⟨w.heap.size + 1 + 1 + 1, 0, none⟩ (.slice r.ao r.n r.c)).setCell ⟨w.heap.size + 1 + 1 + 1, 1, none⟩ (.bool false) = W9 at *
    exact bodyPost_ret (v := .tuple #[.agg #[.slice q.ao q.n q.c, .bool false], .agg #[.slice r.ao r.n r.c, .bool false], .int .i64 0]) (by simp [results, Try.results21, go_sem, s0, s1, s2, s3]) rfl (by first | exact ⟨q, false, r, false, rfl, ⟨hq, (decide_eq_false (Int.not_lt.2 (Int.natCast_nonneg _))).symm⟩, ⟨hr, (decide_eq_false (Int.not_lt.2 (Int.natCast_nonneg _))).symm⟩, by omega, by omega, hq9⟩ | (have hq9 := Grew.drew hq9; exact ⟨q, false, r, false, rfl, ⟨hq, (decide_eq_false (Int.not_lt.2 (Int.natCast_nonneg _))).symm⟩, ⟨hr, (decide_eq_false (Int.not_lt.2 (Int.natCast_nonneg _))).symm⟩, by omega, by omega, hq9⟩))


end Go.Proofs.Ytnjohlimjbmkgaa
