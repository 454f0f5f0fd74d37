/- zed: Add, Neg, Mul. -/
import Derived.Test.YtnjohlimjbmkgaaProg
import Derived.Test.YtnjohlimjbmkgaaZedA
import Derived.Test.YtnjohlimjbmkgaaFr
import Derived.Test.YtnjohlimjbmkgaaNatD
import Derived.Test.YtnjohlimjbmkgaaNatH
namespace Go.Proofs.Ytnjohlimjbmkgaa
open Go.RowKit

set_option maxRecDepth 100000 in
set_option maxHeartbeats 1600000 in
theorem zadd_same_true {w : World} {s t : Sl} {x y : Nat} (h : NatS w s x) (h' : NatS w t y) (hn : s.n ≤ 100000000000) (hm : t.n ≤ 100000000000) :
    Calls Try.prog 24 #[.agg #[.slice s.ao s.n s.c, .bool true], .agg #[.slice t.ao t.n t.c, .bool true]] w fun e w' => ∃ u : Sl, e = .returned (.agg #[.slice u.ao u.n u.c, .bool (true && decide (0 < x + y))]) ∧ NatS w' u (x + y) ∧ u.n ≤ max s.n t.n + 1 ∧ Below w.heap.size w w' := by
  obtain ⟨hE1, hE2, hE3, -⟩ := ents3 w (.cells #[.slice s.ao s.n s.c, .bool true] 33) (.cells #[.slice t.ao t.n t.c, .bool true] 33) (.cells #[.slice none 0 0, .bool false] 33)
  have hB := (((Grew.refl w).alloc (.cells #[.slice s.ao s.n s.c, .bool true] 33)).alloc (.cells #[.slice t.ao t.n t.c, .bool true] 33)).alloc (.cells #[.slice none 0 0, .bool false] 33)
  have hx := h.grew hB
  have hy := h'.grew hB
  have chE1a := box2_c0 hE1
  have chE1b := box2_c1 hE1
  have chE2a := box2_c0 hE2
  have chE2b := box2_c1 hE2
  have chE3a := box2_c0 hE3
  have chE3b := box2_c1 hE3
  have fhE3a := box2_f hE3 0
  have fhE3b := box2_f hE3 1
  go_enter Try.func24, Try.ntmps24
  go_wp2
  generalize ((w.alloc (.cells #[.slice s.ao s.n s.c, .bool true] 33)).alloc (.cells #[.slice t.ao t.n t.c, .bool true] 33)).alloc (.cells #[.slice none 0 0, .bool false] 33) = W at *
  clear chE1a chE1b chE2a chE2b chE3a chE3b fhE3a fhE3b
  have hF0 := Fr.init hE3 hB
  refine wp_region_held_drew (S := (fun w' => Fr w W (w.heap.size + 1 + 1) 33 w')) (by kernel_rfl) ?hSz21 (fun hHeld => ?restz21)
  case hSz21 => (try dsimp only); (first | exact hF0.drew | exact hHeld.call ‹Below _ _ _›)
  refine wpAnyH_take (i := 0) (oi := ?oiz22) (v := ?vz22) ?hiz22 (by kernel_rfl) (by kernel_rfl) (by kernel_rfl) ?hqz22 ?hyz22 hHeld ?restz22
  case hiz22 => simp only [List.getElem?_toArray, List.getElem?_cons_zero]; exact rfl
  case hqz22 => exact fun _ _ _ h => h
  case hyz22 => refine Or.inl ⟨by rfl, ?_⟩; intro w hSw; (try dsimp only at hSw); go_simp; try with_reducible rfl
  (try simp only [Act.put, List.setIfInBounds_toArray, List.set_cons_zero, List.set_cons_succ])
  refine wpAnyH_take (i := 1) (oi := ?oiz23) (v := ?vz23) ?hiz23 (by kernel_rfl) (by kernel_rfl) (by kernel_rfl) ?hqz23 ?hyz23 hHeld ?restz23
  case hiz23 => simp only [List.getElem?_toArray, List.getElem?_cons_succ, List.getElem?_cons_zero]; exact rfl
  case hqz23 => exact fun _ _ _ h => h
  case hyz23 => refine Or.inl ⟨by rfl, ?_⟩; intro w hSw; have phE1 := hSw.ent hE1 (by omega); have qhE1 := box2_c0 phE1; have rhE1 := box2_c1 phE1; have phE2 := hSw.ent hE2 (by omega); have qhE2 := box2_c0 phE2; have rhE2 := box2_c1 phE2; go_simp; try with_reducible rfl
  (try simp only [Act.put, List.setIfInBounds_toArray, List.set_cons_zero, List.set_cons_succ])
  refine wpAnyH_take (i := 2) (oi := ?oiz24) (v := ?vz24) ?hiz24 (by kernel_rfl) (by kernel_rfl) (by kernel_rfl) ?hqz24 ?hyz24 hHeld ?restz24
  case hiz24 => simp only [List.getElem?_toArray, List.getElem?_cons_succ, List.getElem?_cons_zero]; exact rfl
  case hqz24 => exact fun _ _ _ h => h
  case hyz24 => refine Or.inl ⟨by rfl, ?_⟩; intro w hSw; (try dsimp only at hSw); go_simp; try with_reducible rfl
  (try simp only [Act.put, List.setIfInBounds_toArray, List.set_cons_zero, List.set_cons_succ])
  refine wpAnyH_take (i := 3) (oi := ?oiz25) (v := ?vz25) ?hiz25 (by kernel_rfl) (by kernel_rfl) (by kernel_rfl) ?hqz25 ?hyz25 hHeld ?restz25
  case hiz25 => simp only [List.getElem?_toArray, List.getElem?_cons_succ, List.getElem?_cons_zero]; exact rfl
  case hqz25 => exact fun _ _ _ h => h
  case hyz25 => refine Or.inl ⟨by rfl, ?_⟩; intro w hSw; have phE1 := hSw.ent hE1 (by omega); have qhE1 := box2_c0 phE1; have rhE1 := box2_c1 phE1; have phE2 := hSw.ent hE2 (by omega); have qhE2 := box2_c0 phE2; have rhE2 := box2_c1 phE2; go_simp; try with_reducible rfl
  (try simp only [Act.put, List.setIfInBounds_toArray, List.set_cons_zero, List.set_cons_succ])
  refine wpAnyH_take (i := 5) (oi := ?oiz26) (v := ?vz26) ?hiz26 (by kernel_rfl) (by kernel_rfl) (by kernel_rfl) ?hqz26 ?hyz26 hHeld ?restz26
  case hiz26 => simp only [List.getElem?_toArray, List.getElem?_cons_succ, List.getElem?_cons_zero]; exact rfl
  case hqz26 => exact fun _ _ _ h => h
  case hyz26 => refine Or.inl ⟨by rfl, ?_⟩; intro w hSw; (try dsimp only at hSw); go_simp; try with_reducible rfl
  (try simp only [Act.put, List.setIfInBounds_toArray, List.set_cons_zero, List.set_cons_succ])
  refine wpAnyH_take (i := 6) (oi := ?oiz27) (v := ?vz27) ?hiz27 (by kernel_rfl) (by kernel_rfl) (by kernel_rfl) ?hqz27 ?hyz27 hHeld ?restz27
  case hiz27 => simp only [List.getElem?_toArray, List.getElem?_cons_succ, List.getElem?_cons_zero]; exact rfl
  case hqz27 => exact fun _ _ _ h => h
  case hyz27 => refine Or.inl ⟨by rfl, ?_⟩; intro w hSw; have phE1 := hSw.ent hE1 (by omega); have qhE1 := box2_c0 phE1; have rhE1 := box2_c1 phE1; have phE2 := hSw.ent hE2 (by omega); have qhE2 := box2_c0 phE2; have rhE2 := box2_c1 phE2; go_simp; try with_reducible rfl
  (try simp only [Act.put, List.setIfInBounds_toArray, List.set_cons_zero, List.set_cons_succ])
  refine wpAnyH_ready (rs := [4]) (by kernel_rfl) (by simp) ?_
  refine AllReadyH.cons (o := ?oiz28) ?hiz28 (fun K hK => ?stepz28) AllReadyH.nil
  case hiz28 => simp only [List.getElem?_toArray, List.getElem?_cons_succ, List.getElem?_cons_zero]; exact rfl
  go_simp
  (go_at_call 72; refine (add_spec (hHeld.nat hx) (hHeld.nat hy) (by omega) (by omega)).mono ?_; rintro e w1 ⟨u, rfl, hu, hun, hb1⟩)
  refine hK.out _ _ ?hSz28 (fun hHeld' => ?restz28)
  case hSz28 => (try dsimp only); (first | exact hF0.drew | exact hHeld.call ‹Below _ _ _›)
  clear hK K hHeld
  have hHeld := hHeld'
  clear hHeld'
  (try simp only [Act.put, List.setIfInBounds_toArray, List.set_cons_zero, List.set_cons_succ])
  refine wpAnyH_ready (rs := [7]) (by kernel_rfl) (by simp) ?_
  refine AllReadyH.cons (o := ?oiz29) ?hiz29 (fun K hK => ?stepz29) AllReadyH.nil
  case hiz29 => simp only [List.getElem?_toArray, List.getElem?_cons_succ, List.getElem?_cons_zero]; exact rfl
  go_simp
  (go_at_call 68; refine (zmade_spec _ hu (by omega)).mono ?_; rintro e w2 ⟨rfl, hb2⟩)
  refine hK.out _ _ ?hSz29 (fun hHeld' => ?restz29)
  case hSz29 => (try dsimp only); (first | exact hF0.drew | exact hHeld.call ‹Below _ _ _›)
  clear hK K hHeld
  have hHeld := hHeld'
  clear hHeld'
  (try simp only [Act.put, List.setIfInBounds_toArray, List.set_cons_zero, List.set_cons_succ])
  refine wpAnyH_ready (rs := [8]) (by kernel_rfl) (by simp) ?_
  refine AllReadyH.cons (o := ?oiz30) ?hiz30 (fun K hK => ?stepz30) AllReadyH.nil
  case hiz30 => simp only [List.getElem?_toArray, List.getElem?_cons_succ, List.getElem?_cons_zero]; exact rfl
  obtain ⟨v0, b0, hR⟩ := hHeld.res; have c0 := box2_c0 hR; have c1 := box2_c1 hR; have f0 := box2_f hR 0; have f1 := box2_f hR 1; go_simp
  refine hK.out _ _ ?hSz30 (fun hHeld' => ?restz30)
  case hSz30 => (try dsimp only); exact hHeld.set2 (by decide) (by omega) _ _
  clear hK K hHeld
  have hHeld := hHeld'
  clear hHeld'
  (try simp only [Act.put, List.setIfInBounds_toArray, List.set_cons_zero, List.set_cons_succ])
  refine wpAnyH_done (by kernel_rfl) ?_ _
  have hq := box2_set hR (.slice u.ao u.n u.c) (.bool (decide (0 < x + y)))
  have hq0 := box2_c0 hq
  have hq1 := box2_c1 hq
  have hq9 := hHeld.below
  have hu2 := (hu.up hb2).kp ((Kp.refl _).set2 hR (by decide) (.slice u.ao u.n u.c) (.bool (decide (0 < x + y))))
  clear hHeld hq hR c0 c1 f0 f1
  generalize (w2.setCell ⟨w.heap.size + 1 + 1, 0, none⟩ (.slice u.ao u.n u.c)).setCell ⟨w.heap.size + 1 + 1, 1, none⟩ (.bool (decide (0 < x + y))) = W9 at *
  go_wp2
  refine bodyPost_ret (v := .agg #[.slice u.ao u.n u.c, .bool (decide (0 < x + y))]) (by simp [results, Try.results24, go_sem, hq0, hq1]) rfl ⟨u, rfl, hu2, hun, hq9⟩

set_option maxRecDepth 100000 in
set_option maxHeartbeats 1600000 in
theorem zadd_ge_true {w : World} {s t : Sl} {x y : Nat} (h : NatS w s x) (h' : NatS w t y) (hn : s.n ≤ 100000000000) (hm : t.n ≤ 100000000000) (hxy : y ≤ x) :
    Calls Try.prog 24 #[.agg #[.slice s.ao s.n s.c, .bool true], .agg #[.slice t.ao t.n t.c, .bool false]] w fun e w' => ∃ u : Sl, e = .returned (.agg #[.slice u.ao u.n u.c, .bool (true && decide (0 < x - y))]) ∧ NatS w' u (x - y) ∧ u.n ≤ max s.n t.n + 1 ∧ Below w.heap.size w w' := by
  obtain ⟨hE1, hE2, hE3, -⟩ := ents3 w (.cells #[.slice s.ao s.n s.c, .bool true] 33) (.cells #[.slice t.ao t.n t.c, .bool false] 33) (.cells #[.slice none 0 0, .bool false] 33)
  have hB := (((Grew.refl w).alloc (.cells #[.slice s.ao s.n s.c, .bool true] 33)).alloc (.cells #[.slice t.ao t.n t.c, .bool false] 33)).alloc (.cells #[.slice none 0 0, .bool false] 33)
  have hx := h.grew hB
  have hy := h'.grew hB
  have chE1a := box2_c0 hE1
  have chE1b := box2_c1 hE1
  have chE2a := box2_c0 hE2
  have chE2b := box2_c1 hE2
  have chE3a := box2_c0 hE3
  have chE3b := box2_c1 hE3
  have fhE3a := box2_f hE3 0
  have fhE3b := box2_f hE3 1
  go_enter Try.func24, Try.ntmps24
  go_wp2_with fail
  generalize ((w.alloc (.cells #[.slice s.ao s.n s.c, .bool true] 33)).alloc (.cells #[.slice t.ao t.n t.c, .bool false] 33)).alloc (.cells #[.slice none 0 0, .bool false] 33) = W at *
  refine (sub_ge hx hy (by omega) (by omega) hxy).mono ?_
  rintro e w1 ⟨u, rfl, hu, hun, hb1⟩
  have ha1 : Grew w1 ((w1.alloc (.cells #[.slice u.ao u.n u.c] 31))) := (Grew.refl w1).alloc (.cells #[.slice u.ao u.n u.c] 31)
  have hg1' := (Grew.call (Grew.refl _) hb1).trans ha1
  replace hx := hx.grew hg1'
  replace hy := hy.grew hg1'
  replace hE1 := ent_grew hg1' hE1
  replace hE2 := ent_grew hg1' hE2
  replace hE3 := ent_grew hg1' hE3
  replace hu := hu.grew ha1
  have hEu := ent_new w1 (.cells #[.slice u.ao u.n u.c] 31)
  replace hB := hB.trans hg1'
  clear hg1' ha1 hb1 chE1a chE1b chE2a chE2b chE3a chE3b fhE3a fhE3b
  have chE1a := box2_c0 hE1
  have chE1b := box2_c1 hE1
  have chE2a := box2_c0 hE2
  have chE2b := box2_c1 hE2
  have chE3a := box2_c0 hE3
  have chE3b := box2_c1 hE3
  have fhE3a := box2_f hE3 0
  have fhE3b := box2_f hE3 1
  have chEu := box_cell hEu
  go_wp2_with fail
  generalize (w1.alloc (.cells #[.slice u.ao u.n u.c] 31)) = W1 at *
  refine (zmade_spec _ hu (by omega)).mono ?_
  rintro e w2 ⟨rfl, hb2⟩
  have ha2 : Grew w2 (w2) := Grew.refl w2
  have hg2' := (Grew.call (Grew.refl _) hb2).trans ha2
  replace hx := hx.grew hg2'
  replace hy := hy.grew hg2'
  replace hu := hu.grew hg2'
  replace hE1 := ent_grew hg2' hE1
  replace hE2 := ent_grew hg2' hE2
  replace hE3 := ent_grew hg2' hE3
  replace hEu := ent_grew hg2' hEu
  replace hB := hB.trans hg2'
  clear hg2' ha2 hb2 chE1a chE1b chE2a chE2b chE3a chE3b fhE3a fhE3b chEu
  have chE1a := box2_c0 hE1
  have chE1b := box2_c1 hE1
  have chE2a := box2_c0 hE2
  have chE2b := box2_c1 hE2
  have chE3a := box2_c0 hE3
  have chE3b := box2_c1 hE3
  have fhE3a := box2_f hE3 0
  have fhE3b := box2_f hE3 1
  have chEu := box_cell hEu
  go_wp2
  have hq := box2_set hE3 (.slice u.ao u.n u.c) (.bool (decide (0 < x - y)))
  have hq0 := box2_c0 hq
  have hq1 := box2_c1 hq
  have hq9 := hB.set2 (k := w.heap.size + 1 + 1) (by omega) (.slice u.ao u.n u.c) (.bool (decide (0 < x - y)))
  have hu2 := (hu).kp ((Kp.refl _).set2 hE3 (by decide) (.slice u.ao u.n u.c) (.bool (decide (0 < x - y))))
  clear hq
  clear chE1a chE1b chE2a chE2b chE3a chE3b fhE3a fhE3b chEu
  generalize (w2.setCell ⟨w.heap.size + 1 + 1, 0, none⟩ (.slice u.ao u.n u.c)).setCell ⟨w.heap.size + 1 + 1, 1, none⟩ (.bool (decide (0 < x - y))) = W9 at *
  refine bodyPost_ret (v := .agg #[.slice u.ao u.n u.c, .bool (decide (0 < x - y))]) (by simp [results, Try.results24, go_sem, hq0, hq1]) rfl ⟨u, rfl, hu2, by omega, hq9⟩

set_option maxRecDepth 100000 in
set_option maxHeartbeats 1600000 in
theorem zadd_lt_true {w : World} {s t : Sl} {x y : Nat} (h : NatS w s x) (h' : NatS w t y) (hn : s.n ≤ 100000000000) (hm : t.n ≤ 100000000000) (hxy : x < y) :
    Calls Try.prog 24 #[.agg #[.slice s.ao s.n s.c, .bool true], .agg #[.slice t.ao t.n t.c, .bool false]] w fun e w' => ∃ u : Sl, e = .returned (.agg #[.slice u.ao u.n u.c, .bool (false && decide (0 < y - x))]) ∧ NatS w' u (y - x) ∧ u.n ≤ max s.n t.n + 1 ∧ Below w.heap.size w w' := by
  obtain ⟨hE1, hE2, hE3, -⟩ := ents3 w (.cells #[.slice s.ao s.n s.c, .bool true] 33) (.cells #[.slice t.ao t.n t.c, .bool false] 33) (.cells #[.slice none 0 0, .bool false] 33)
  have hB := (((Grew.refl w).alloc (.cells #[.slice s.ao s.n s.c, .bool true] 33)).alloc (.cells #[.slice t.ao t.n t.c, .bool false] 33)).alloc (.cells #[.slice none 0 0, .bool false] 33)
  have hx := h.grew hB
  have hy := h'.grew hB
  have chE1a := box2_c0 hE1
  have chE1b := box2_c1 hE1
  have chE2a := box2_c0 hE2
  have chE2b := box2_c1 hE2
  have chE3a := box2_c0 hE3
  have chE3b := box2_c1 hE3
  have fhE3a := box2_f hE3 0
  have fhE3b := box2_f hE3 1
  go_enter Try.func24, Try.ntmps24
  go_wp2_with fail
  generalize ((w.alloc (.cells #[.slice s.ao s.n s.c, .bool true] 33)).alloc (.cells #[.slice t.ao t.n t.c, .bool false] 33)).alloc (.cells #[.slice none 0 0, .bool false] 33) = W at *
  refine (sub_lt hx hy (by omega) (by omega) hxy).mono ?_
  rintro e w1 ⟨rfl, hb1⟩
  have ha1 : Grew w1 ((w1.alloc (.cells #[.slice none 0 0] 31))) := (Grew.refl w1).alloc (.cells #[.slice none 0 0] 31)
  have hg1' := (Grew.call (Grew.refl _) hb1).trans ha1
  replace hx := hx.grew hg1'
  replace hy := hy.grew hg1'
  replace hE1 := ent_grew hg1' hE1
  replace hE2 := ent_grew hg1' hE2
  replace hE3 := ent_grew hg1' hE3
  have hEv := ent_new w1 (.cells #[.slice none 0 0] 31)
  replace hB := hB.trans hg1'
  clear hg1' ha1 hb1 chE1a chE1b chE2a chE2b chE3a chE3b fhE3a fhE3b
  have chE1a := box2_c0 hE1
  have chE1b := box2_c1 hE1
  have chE2a := box2_c0 hE2
  have chE2b := box2_c1 hE2
  have chE3a := box2_c0 hE3
  have chE3b := box2_c1 hE3
  have fhE3a := box2_f hE3 0
  have fhE3b := box2_f hE3 1
  have chEv := box_cell hEv
  go_wp2_with fail
  generalize (w1.alloc (.cells #[.slice none 0 0] 31)) = W1 at *
  refine (sub_ge hy hx (by omega) (by omega) (by omega)).mono ?_
  rintro e w2 ⟨u, rfl, hu, hun, hb2⟩
  have ha2 : Grew w2 ((w2.alloc (.cells #[.slice u.ao u.n u.c] 31))) := (Grew.refl w2).alloc (.cells #[.slice u.ao u.n u.c] 31)
  have hg2' := (Grew.call (Grew.refl _) hb2).trans ha2
  replace hx := hx.grew hg2'
  replace hy := hy.grew hg2'
  replace hE1 := ent_grew hg2' hE1
  replace hE2 := ent_grew hg2' hE2
  replace hE3 := ent_grew hg2' hE3
  replace hEv := ent_grew hg2' hEv
  replace hu := hu.grew ha2
  have hEu := ent_new w2 (.cells #[.slice u.ao u.n u.c] 31)
  replace hB := hB.trans hg2'
  clear hg2' ha2 hb2 chE1a chE1b chE2a chE2b chE3a chE3b fhE3a fhE3b chEv
  have chE1a := box2_c0 hE1
  have chE1b := box2_c1 hE1
  have chE2a := box2_c0 hE2
  have chE2b := box2_c1 hE2
  have chE3a := box2_c0 hE3
  have chE3b := box2_c1 hE3
  have fhE3a := box2_f hE3 0
  have fhE3b := box2_f hE3 1
  have chEv := box_cell hEv
  have chEu := box_cell hEu
  go_wp2_with fail
  generalize (w2.alloc (.cells #[.slice u.ao u.n u.c] 31)) = W2 at *
  refine (zmade_spec _ hu (by omega)).mono ?_
  rintro e w3 ⟨rfl, hb3⟩
  have ha3 : Grew w3 (w3) := Grew.refl w3
  have hg3' := (Grew.call (Grew.refl _) hb3).trans ha3
  replace hx := hx.grew hg3'
  replace hy := hy.grew hg3'
  replace hu := hu.grew hg3'
  replace hE1 := ent_grew hg3' hE1
  replace hE2 := ent_grew hg3' hE2
  replace hE3 := ent_grew hg3' hE3
  replace hEv := ent_grew hg3' hEv
  replace hEu := ent_grew hg3' hEu
  replace hB := hB.trans hg3'
  clear hg3' ha3 hb3 chE1a chE1b chE2a chE2b chE3a chE3b fhE3a fhE3b chEv chEu
  have chE1a := box2_c0 hE1
  have chE1b := box2_c1 hE1
  have chE2a := box2_c0 hE2
  have chE2b := box2_c1 hE2
  have chE3a := box2_c0 hE3
  have chE3b := box2_c1 hE3
  have fhE3a := box2_f hE3 0
  have fhE3b := box2_f hE3 1
  have chEv := box_cell hEv
  have chEu := box_cell hEu
  go_wp2
  have hq := box2_set hE3 (.slice u.ao u.n u.c) (.bool false)
  have hq0 := box2_c0 hq
  have hq1 := box2_c1 hq
  have hq9 := hB.set2 (k := w.heap.size + 1 + 1) (by omega) (.slice u.ao u.n u.c) (.bool false)
  have hu2 := (hu).kp ((Kp.refl _).set2 hE3 (by decide) (.slice u.ao u.n u.c) (.bool false))
  clear hq
  clear chE1a chE1b chE2a chE2b chE3a chE3b fhE3a fhE3b chEv chEu
  generalize (w3.setCell ⟨w.heap.size + 1 + 1, 0, none⟩ (.slice u.ao u.n u.c)).setCell ⟨w.heap.size + 1 + 1, 1, none⟩ (.bool false) = W9 at *
  refine bodyPost_ret (v := .agg #[.slice u.ao u.n u.c, .bool false]) (by simp [results, Try.results24, go_sem, hq0, hq1]) rfl ⟨u, rfl, hu2, by omega, hq9⟩

set_option maxRecDepth 100000 in
set_option maxHeartbeats 1600000 in
theorem zneg_true {w : World} {s : Sl} {x : Nat} (h : NatS w s x) (hn : s.n ≤ 100000000000) :
    Calls Try.prog 27 #[.agg #[.slice s.ao s.n s.c, .bool true]] w fun e w' => e = .returned (.agg #[.slice s.ao s.n s.c, .bool (false && decide (0 < x))]) ∧ Below w.heap.size w w' := by
  obtain ⟨hE1, hE2, -⟩ := ents2 w (.cells #[.slice s.ao s.n s.c, .bool true] 33) (.cells #[.slice none 0 0, .bool false] 33)
  have hB := ((Grew.refl w).alloc (.cells #[.slice s.ao s.n s.c, .bool true] 33)).alloc (.cells #[.slice none 0 0, .bool false] 33)
  have hx := h.grew hB
  have chE1a := box2_c0 hE1
  have chE1b := box2_c1 hE1
  have chE2a := box2_c0 hE2
  have chE2b := box2_c1 hE2
  have fhE2a := box2_f hE2 0
  have fhE2b := box2_f hE2 1
  go_enter Try.func27, Try.ntmps27
  go_wp2_with fail
  generalize (w.alloc (.cells #[.slice s.ao s.n s.c, .bool true] 33)).alloc (.cells #[.slice none 0 0, .bool false] 33) = W at *
  refine (zmade_spec _ hx (by omega)).mono ?_
  rintro e w1 ⟨rfl, hb1⟩
  have ha1 : Grew w1 (w1) := Grew.refl w1
  have hg1' := (Grew.call (Grew.refl _) hb1).trans ha1
  replace hx := hx.grew hg1'
  replace hE1 := ent_grew hg1' hE1
  replace hE2 := ent_grew hg1' hE2
  replace hB := hB.trans hg1'
  clear hg1' ha1 hb1 chE1a chE1b chE2a chE2b fhE2a fhE2b
  have chE1a := box2_c0 hE1
  have chE1b := box2_c1 hE1
  have chE2a := box2_c0 hE2
  have chE2b := box2_c1 hE2
  have fhE2a := box2_f hE2 0
  have fhE2b := box2_f hE2 1
  go_wp2
  have hq := box2_set hE2 (.slice s.ao s.n s.c) (.bool false)
  have hq0 := box2_c0 hq
  have hq1 := box2_c1 hq
  have hq9 := hB.set2 (k := w.heap.size + 1) (by omega) (.slice s.ao s.n s.c) (.bool false)
  clear hq
  clear chE1a chE1b chE2a chE2b fhE2a fhE2b
  generalize (w1.setCell ⟨w.heap.size + 1, 0, none⟩ (.slice s.ao s.n s.c)).setCell ⟨w.heap.size + 1, 1, none⟩ (.bool false) = W9 at *
  refine bodyPost_ret (v := .agg #[.slice s.ao s.n s.c, .bool false]) (by simp [results, Try.results27, go_sem, hq0, hq1]) rfl ⟨rfl, hq9⟩

set_option maxRecDepth 100000 in
set_option maxHeartbeats 1600000 in
theorem zmul_true_true {w : World} {s t : Sl} {x y : Nat} (h : NatS w s x) (h' : NatS w t y) (hn : s.n ≤ 100000000000) (hm : t.n ≤ 100000000000) :
    Calls Try.prog 31 #[.agg #[.slice s.ao s.n s.c, .bool true], .agg #[.slice t.ao t.n t.c, .bool true]] w fun e w' => ∃ u : Sl, e = .returned (.agg #[.slice u.ao u.n u.c, .bool (false && decide (0 < x * y))]) ∧ NatS w' u (x * y) ∧ u.n ≤ s.n + t.n ∧ Below w.heap.size w w' := by
  obtain ⟨hE1, hE2, hE3, -⟩ := ents3 w (.cells #[.slice s.ao s.n s.c, .bool true] 33) (.cells #[.slice t.ao t.n t.c, .bool true] 33) (.cells #[.slice none 0 0, .bool false] 33)
  have hB := (((Grew.refl w).alloc (.cells #[.slice s.ao s.n s.c, .bool true] 33)).alloc (.cells #[.slice t.ao t.n t.c, .bool true] 33)).alloc (.cells #[.slice none 0 0, .bool false] 33)
  have hx := h.grew hB
  have hy := h'.grew hB
  have chE1a := box2_c0 hE1
  have chE1b := box2_c1 hE1
  have chE2a := box2_c0 hE2
  have chE2b := box2_c1 hE2
  have chE3a := box2_c0 hE3
  have chE3b := box2_c1 hE3
  have fhE3a := box2_f hE3 0
  have fhE3b := box2_f hE3 1
  go_enter Try.func31, Try.ntmps31
  go_wp2
  generalize ((w.alloc (.cells #[.slice s.ao s.n s.c, .bool true] 33)).alloc (.cells #[.slice t.ao t.n t.c, .bool true] 33)).alloc (.cells #[.slice none 0 0, .bool false] 33) = W at *
  clear chE1a chE1b chE2a chE2b chE3a chE3b fhE3a fhE3b
  have hF0 := Fr.init hE3 hB
  refine wp_region_held_drew (S := (fun w' => Fr w W (w.heap.size + 1 + 1) 33 w')) (by kernel_rfl) ?hSz31 (fun hHeld => ?restz31)
  case hSz31 => (try dsimp only); (first | exact hF0.drew | exact hHeld.call ‹Below _ _ _›)
  refine wpAnyH_take (i := 0) (oi := ?oiz32) (v := ?vz32) ?hiz32 (by kernel_rfl) (by kernel_rfl) (by kernel_rfl) ?hqz32 ?hyz32 hHeld ?restz32
  case hiz32 => simp only [List.getElem?_toArray, List.getElem?_cons_zero]; exact rfl
  case hqz32 => exact fun _ _ _ h => h
  case hyz32 => refine Or.inl ⟨by rfl, ?_⟩; intro w hSw; (try dsimp only at hSw); go_simp; try with_reducible rfl
  (try simp only [Act.put, List.setIfInBounds_toArray, List.set_cons_zero, List.set_cons_succ])
  refine wpAnyH_take (i := 1) (oi := ?oiz33) (v := ?vz33) ?hiz33 (by kernel_rfl) (by kernel_rfl) (by kernel_rfl) ?hqz33 ?hyz33 hHeld ?restz33
  case hiz33 => simp only [List.getElem?_toArray, List.getElem?_cons_succ, List.getElem?_cons_zero]; exact rfl
  case hqz33 => exact fun _ _ _ h => h
  case hyz33 => refine Or.inl ⟨by rfl, ?_⟩; intro w hSw; have phE1 := hSw.ent hE1 (by omega); have qhE1 := box2_c0 phE1; have rhE1 := box2_c1 phE1; have phE2 := hSw.ent hE2 (by omega); have qhE2 := box2_c0 phE2; have rhE2 := box2_c1 phE2; go_simp; try with_reducible rfl
  (try simp only [Act.put, List.setIfInBounds_toArray, List.set_cons_zero, List.set_cons_succ])
  refine wpAnyH_take (i := 2) (oi := ?oiz34) (v := ?vz34) ?hiz34 (by kernel_rfl) (by kernel_rfl) (by kernel_rfl) ?hqz34 ?hyz34 hHeld ?restz34
  case hiz34 => simp only [List.getElem?_toArray, List.getElem?_cons_succ, List.getElem?_cons_zero]; exact rfl
  case hqz34 => exact fun _ _ _ h => h
  case hyz34 => refine Or.inl ⟨by rfl, ?_⟩; intro w hSw; (try dsimp only at hSw); go_simp; try with_reducible rfl
  (try simp only [Act.put, List.setIfInBounds_toArray, List.set_cons_zero, List.set_cons_succ])
  refine wpAnyH_take (i := 3) (oi := ?oiz35) (v := ?vz35) ?hiz35 (by kernel_rfl) (by kernel_rfl) (by kernel_rfl) ?hqz35 ?hyz35 hHeld ?restz35
  case hiz35 => simp only [List.getElem?_toArray, List.getElem?_cons_succ, List.getElem?_cons_zero]; exact rfl
  case hqz35 => exact fun _ _ _ h => h
  case hyz35 => refine Or.inl ⟨by rfl, ?_⟩; intro w hSw; have phE1 := hSw.ent hE1 (by omega); have qhE1 := box2_c0 phE1; have rhE1 := box2_c1 phE1; have phE2 := hSw.ent hE2 (by omega); have qhE2 := box2_c0 phE2; have rhE2 := box2_c1 phE2; go_simp; try with_reducible rfl
  (try simp only [Act.put, List.setIfInBounds_toArray, List.set_cons_zero, List.set_cons_succ])
  refine wpAnyH_take (i := 5) (oi := ?oiz36) (v := ?vz36) ?hiz36 (by kernel_rfl) (by kernel_rfl) (by kernel_rfl) ?hqz36 ?hyz36 hHeld ?restz36
  case hiz36 => simp only [List.getElem?_toArray, List.getElem?_cons_succ, List.getElem?_cons_zero]; exact rfl
  case hqz36 => exact fun _ _ _ h => h
  case hyz36 => refine Or.inl ⟨by rfl, ?_⟩; intro w hSw; (try dsimp only at hSw); go_simp; try with_reducible rfl
  (try simp only [Act.put, List.setIfInBounds_toArray, List.set_cons_zero, List.set_cons_succ])
  refine wpAnyH_take (i := 6) (oi := ?oiz37) (v := ?vz37) ?hiz37 (by kernel_rfl) (by kernel_rfl) (by kernel_rfl) ?hqz37 ?hyz37 hHeld ?restz37
  case hiz37 => simp only [List.getElem?_toArray, List.getElem?_cons_succ, List.getElem?_cons_zero]; exact rfl
  case hqz37 => exact fun _ _ _ h => h
  case hyz37 => refine Or.inl ⟨by rfl, ?_⟩; intro w hSw; have phE1 := hSw.ent hE1 (by omega); have qhE1 := box2_c0 phE1; have rhE1 := box2_c1 phE1; have phE2 := hSw.ent hE2 (by omega); have qhE2 := box2_c0 phE2; have rhE2 := box2_c1 phE2; go_simp; try with_reducible rfl
  (try simp only [Act.put, List.setIfInBounds_toArray, List.set_cons_zero, List.set_cons_succ])
  refine wpAnyH_take (i := 7) (oi := ?oiz38) (v := ?vz38) ?hiz38 (by kernel_rfl) (by kernel_rfl) (by kernel_rfl) ?hqz38 ?hyz38 hHeld ?restz38
  case hiz38 => simp only [List.getElem?_toArray, List.getElem?_cons_succ, List.getElem?_cons_zero]; exact rfl
  case hqz38 => exact fun _ _ _ h => h
  case hyz38 => refine Or.inl ⟨by rfl, ?_⟩; intro w hSw; (try dsimp only at hSw); go_simp; try with_reducible rfl
  (try simp only [Act.put, List.setIfInBounds_toArray, List.set_cons_zero, List.set_cons_succ])
  refine wpAnyH_take (i := 8) (oi := ?oiz39) (v := ?vz39) ?hiz39 (by kernel_rfl) (by kernel_rfl) (by kernel_rfl) ?hqz39 ?hyz39 hHeld ?restz39
  case hiz39 => simp only [List.getElem?_toArray, List.getElem?_cons_succ, List.getElem?_cons_zero]; exact rfl
  case hqz39 => exact fun _ _ _ h => h
  case hyz39 => refine Or.inl ⟨by rfl, ?_⟩; intro w hSw; have phE1 := hSw.ent hE1 (by omega); have qhE1 := box2_c0 phE1; have rhE1 := box2_c1 phE1; have phE2 := hSw.ent hE2 (by omega); have qhE2 := box2_c0 phE2; have rhE2 := box2_c1 phE2; go_simp; try with_reducible rfl
  (try simp only [Act.put, List.setIfInBounds_toArray, List.set_cons_zero, List.set_cons_succ])
  refine wpAnyH_take (i := 9) (oi := ?oiz40) (v := ?vz40) ?hiz40 (by kernel_rfl) (by kernel_rfl) (by kernel_rfl) ?hqz40 ?hyz40 hHeld ?restz40
  case hiz40 => simp only [List.getElem?_toArray, List.getElem?_cons_succ, List.getElem?_cons_zero]; exact rfl
  case hqz40 => exact fun _ _ _ h => h
  case hyz40 => refine Or.inl ⟨by rfl, ?_⟩; intro w hSw; (try dsimp only at hSw); go_simp; try with_reducible rfl
  (try simp only [Act.put, List.setIfInBounds_toArray, List.set_cons_zero, List.set_cons_succ])
  refine wpAnyH_ready (rs := [4]) (by kernel_rfl) (by simp) ?_
  refine AllReadyH.cons (o := ?oiz41) ?hiz41 (fun K hK => ?stepz41) AllReadyH.nil
  case hiz41 => simp only [List.getElem?_toArray, List.getElem?_cons_succ, List.getElem?_cons_zero]; exact rfl
  go_simp
  (go_at_call 74; refine (mul_spec (hHeld.nat hx) (hHeld.nat hy) (by omega) (by omega)).mono ?_; rintro e w1 ⟨u, rfl, hu, hun, hb1⟩)
  refine hK.out _ _ ?hSz41 (fun hHeld' => ?restz41)
  case hSz41 => (try dsimp only); (first | exact hF0.drew | exact hHeld.call ‹Below _ _ _›)
  clear hK K hHeld
  have hHeld := hHeld'
  clear hHeld'
  (try simp only [Act.put, List.setIfInBounds_toArray, List.set_cons_zero, List.set_cons_succ])
  refine wpAnyH_ready (rs := [10]) (by kernel_rfl) (by simp) ?_
  refine AllReadyH.cons (o := ?oiz42) ?hiz42 (fun K hK => ?stepz42) AllReadyH.nil
  case hiz42 => simp only [List.getElem?_toArray, List.getElem?_cons_succ, List.getElem?_cons_zero]; exact rfl
  go_simp
  (go_at_call 68; refine (zmade_spec _ hu (by omega)).mono ?_; rintro e w2 ⟨rfl, hb2⟩)
  refine hK.out _ _ ?hSz42 (fun hHeld' => ?restz42)
  case hSz42 => (try dsimp only); (first | exact hF0.drew | exact hHeld.call ‹Below _ _ _›)
  clear hK K hHeld
  have hHeld := hHeld'
  clear hHeld'
  (try simp only [Act.put, List.setIfInBounds_toArray, List.set_cons_zero, List.set_cons_succ])
  refine wpAnyH_ready (rs := [11]) (by kernel_rfl) (by simp) ?_
  refine AllReadyH.cons (o := ?oiz43) ?hiz43 (fun K hK => ?stepz43) AllReadyH.nil
  case hiz43 => simp only [List.getElem?_toArray, List.getElem?_cons_succ, List.getElem?_cons_zero]; exact rfl
  obtain ⟨v0, b0, hR⟩ := hHeld.res; have c0 := box2_c0 hR; have c1 := box2_c1 hR; have f0 := box2_f hR 0; have f1 := box2_f hR 1; go_simp
  refine hK.out _ _ ?hSz43 (fun hHeld' => ?restz43)
  case hSz43 => (try dsimp only); exact hHeld.set2 (by decide) (by omega) _ _
  clear hK K hHeld
  have hHeld := hHeld'
  clear hHeld'
  (try simp only [Act.put, List.setIfInBounds_toArray, List.set_cons_zero, List.set_cons_succ])
  refine wpAnyH_done (by kernel_rfl) ?_ _
  have hq := box2_set hR (.slice u.ao u.n u.c) (.bool false)
  have hq0 := box2_c0 hq
  have hq1 := box2_c1 hq
  have hq9 := hHeld.below
  have hu2 := (hu.up hb2).kp ((Kp.refl _).set2 hR (by decide) (.slice u.ao u.n u.c) (.bool false))
  clear hHeld hq hR c0 c1 f0 f1
  generalize (w2.setCell ⟨w.heap.size + 1 + 1, 0, none⟩ (.slice u.ao u.n u.c)).setCell ⟨w.heap.size + 1 + 1, 1, none⟩ (.bool false) = W9 at *
  go_wp2
  refine bodyPost_ret (v := .agg #[.slice u.ao u.n u.c, .bool false]) (by simp [results, Try.results31, go_sem, hq0, hq1]) rfl ⟨u, rfl, hu2, hun, hq9⟩

set_option maxRecDepth 100000 in
set_option maxHeartbeats 1600000 in
theorem zmul_true_false {w : World} {s t : Sl} {x y : Nat} (h : NatS w s x) (h' : NatS w t y) (hn : s.n ≤ 100000000000) (hm : t.n ≤ 100000000000) :
    Calls Try.prog 31 #[.agg #[.slice s.ao s.n s.c, .bool true], .agg #[.slice t.ao t.n t.c, .bool false]] w fun e w' => ∃ u : Sl, e = .returned (.agg #[.slice u.ao u.n u.c, .bool (true && decide (0 < x * y))]) ∧ NatS w' u (x * y) ∧ u.n ≤ s.n + t.n ∧ Below w.heap.size w w' := by
  obtain ⟨hE1, hE2, hE3, -⟩ := ents3 w (.cells #[.slice s.ao s.n s.c, .bool true] 33) (.cells #[.slice t.ao t.n t.c, .bool false] 33) (.cells #[.slice none 0 0, .bool false] 33)
  have hB := (((Grew.refl w).alloc (.cells #[.slice s.ao s.n s.c, .bool true] 33)).alloc (.cells #[.slice t.ao t.n t.c, .bool false] 33)).alloc (.cells #[.slice none 0 0, .bool false] 33)
  have hx := h.grew hB
  have hy := h'.grew hB
  have chE1a := box2_c0 hE1
  have chE1b := box2_c1 hE1
  have chE2a := box2_c0 hE2
  have chE2b := box2_c1 hE2
  have chE3a := box2_c0 hE3
  have chE3b := box2_c1 hE3
  have fhE3a := box2_f hE3 0
  have fhE3b := box2_f hE3 1
  go_enter Try.func31, Try.ntmps31
  go_wp2
  generalize ((w.alloc (.cells #[.slice s.ao s.n s.c, .bool true] 33)).alloc (.cells #[.slice t.ao t.n t.c, .bool false] 33)).alloc (.cells #[.slice none 0 0, .bool false] 33) = W at *
  clear chE1a chE1b chE2a chE2b chE3a chE3b fhE3a fhE3b
  have hF0 := Fr.init hE3 hB
  refine wp_region_held_drew (S := (fun w' => Fr w W (w.heap.size + 1 + 1) 33 w')) (by kernel_rfl) ?hSz44 (fun hHeld => ?restz44)
  case hSz44 => (try dsimp only); (first | exact hF0.drew | exact hHeld.call ‹Below _ _ _›)
  refine wpAnyH_take (i := 0) (oi := ?oiz45) (v := ?vz45) ?hiz45 (by kernel_rfl) (by kernel_rfl) (by kernel_rfl) ?hqz45 ?hyz45 hHeld ?restz45
  case hiz45 => simp only [List.getElem?_toArray, List.getElem?_cons_zero]; exact rfl
  case hqz45 => exact fun _ _ _ h => h
  case hyz45 => refine Or.inl ⟨by rfl, ?_⟩; intro w hSw; (try dsimp only at hSw); go_simp; try with_reducible rfl
  (try simp only [Act.put, List.setIfInBounds_toArray, List.set_cons_zero, List.set_cons_succ])
  refine wpAnyH_take (i := 1) (oi := ?oiz46) (v := ?vz46) ?hiz46 (by kernel_rfl) (by kernel_rfl) (by kernel_rfl) ?hqz46 ?hyz46 hHeld ?restz46
  case hiz46 => simp only [List.getElem?_toArray, List.getElem?_cons_succ, List.getElem?_cons_zero]; exact rfl
  case hqz46 => exact fun _ _ _ h => h
  case hyz46 => refine Or.inl ⟨by rfl, ?_⟩; intro w hSw; have phE1 := hSw.ent hE1 (by omega); have qhE1 := box2_c0 phE1; have rhE1 := box2_c1 phE1; have phE2 := hSw.ent hE2 (by omega); have qhE2 := box2_c0 phE2; have rhE2 := box2_c1 phE2; go_simp; try with_reducible rfl
  (try simp only [Act.put, List.setIfInBounds_toArray, List.set_cons_zero, List.set_cons_succ])
  refine wpAnyH_take (i := 2) (oi := ?oiz47) (v := ?vz47) ?hiz47 (by kernel_rfl) (by kernel_rfl) (by kernel_rfl) ?hqz47 ?hyz47 hHeld ?restz47
  case hiz47 => simp only [List.getElem?_toArray, List.getElem?_cons_succ, List.getElem?_cons_zero]; exact rfl
  case hqz47 => exact fun _ _ _ h => h
  case hyz47 => refine Or.inl ⟨by rfl, ?_⟩; intro w hSw; (try dsimp only at hSw); go_simp; try with_reducible rfl
  (try simp only [Act.put, List.setIfInBounds_toArray, List.set_cons_zero, List.set_cons_succ])
  refine wpAnyH_take (i := 3) (oi := ?oiz48) (v := ?vz48) ?hiz48 (by kernel_rfl) (by kernel_rfl) (by kernel_rfl) ?hqz48 ?hyz48 hHeld ?restz48
  case hiz48 => simp only [List.getElem?_toArray, List.getElem?_cons_succ, List.getElem?_cons_zero]; exact rfl
  case hqz48 => exact fun _ _ _ h => h
  case hyz48 => refine Or.inl ⟨by rfl, ?_⟩; intro w hSw; have phE1 := hSw.ent hE1 (by omega); have qhE1 := box2_c0 phE1; have rhE1 := box2_c1 phE1; have phE2 := hSw.ent hE2 (by omega); have qhE2 := box2_c0 phE2; have rhE2 := box2_c1 phE2; go_simp; try with_reducible rfl
  (try simp only [Act.put, List.setIfInBounds_toArray, List.set_cons_zero, List.set_cons_succ])
  refine wpAnyH_take (i := 5) (oi := ?oiz49) (v := ?vz49) ?hiz49 (by kernel_rfl) (by kernel_rfl) (by kernel_rfl) ?hqz49 ?hyz49 hHeld ?restz49
  case hiz49 => simp only [List.getElem?_toArray, List.getElem?_cons_succ, List.getElem?_cons_zero]; exact rfl
  case hqz49 => exact fun _ _ _ h => h
  case hyz49 => refine Or.inl ⟨by rfl, ?_⟩; intro w hSw; (try dsimp only at hSw); go_simp; try with_reducible rfl
  (try simp only [Act.put, List.setIfInBounds_toArray, List.set_cons_zero, List.set_cons_succ])
  refine wpAnyH_take (i := 6) (oi := ?oiz50) (v := ?vz50) ?hiz50 (by kernel_rfl) (by kernel_rfl) (by kernel_rfl) ?hqz50 ?hyz50 hHeld ?restz50
  case hiz50 => simp only [List.getElem?_toArray, List.getElem?_cons_succ, List.getElem?_cons_zero]; exact rfl
  case hqz50 => exact fun _ _ _ h => h
  case hyz50 => refine Or.inl ⟨by rfl, ?_⟩; intro w hSw; have phE1 := hSw.ent hE1 (by omega); have qhE1 := box2_c0 phE1; have rhE1 := box2_c1 phE1; have phE2 := hSw.ent hE2 (by omega); have qhE2 := box2_c0 phE2; have rhE2 := box2_c1 phE2; go_simp; try with_reducible rfl
  (try simp only [Act.put, List.setIfInBounds_toArray, List.set_cons_zero, List.set_cons_succ])
  refine wpAnyH_take (i := 7) (oi := ?oiz51) (v := ?vz51) ?hiz51 (by kernel_rfl) (by kernel_rfl) (by kernel_rfl) ?hqz51 ?hyz51 hHeld ?restz51
  case hiz51 => simp only [List.getElem?_toArray, List.getElem?_cons_succ, List.getElem?_cons_zero]; exact rfl
  case hqz51 => exact fun _ _ _ h => h
  case hyz51 => refine Or.inl ⟨by rfl, ?_⟩; intro w hSw; (try dsimp only at hSw); go_simp; try with_reducible rfl
  (try simp only [Act.put, List.setIfInBounds_toArray, List.set_cons_zero, List.set_cons_succ])
  refine wpAnyH_take (i := 8) (oi := ?oiz52) (v := ?vz52) ?hiz52 (by kernel_rfl) (by kernel_rfl) (by kernel_rfl) ?hqz52 ?hyz52 hHeld ?restz52
  case hiz52 => simp only [List.getElem?_toArray, List.getElem?_cons_succ, List.getElem?_cons_zero]; exact rfl
  case hqz52 => exact fun _ _ _ h => h
  case hyz52 => refine Or.inl ⟨by rfl, ?_⟩; intro w hSw; have phE1 := hSw.ent hE1 (by omega); have qhE1 := box2_c0 phE1; have rhE1 := box2_c1 phE1; have phE2 := hSw.ent hE2 (by omega); have qhE2 := box2_c0 phE2; have rhE2 := box2_c1 phE2; go_simp; try with_reducible rfl
  (try simp only [Act.put, List.setIfInBounds_toArray, List.set_cons_zero, List.set_cons_succ])
  refine wpAnyH_take (i := 9) (oi := ?oiz53) (v := ?vz53) ?hiz53 (by kernel_rfl) (by kernel_rfl) (by kernel_rfl) ?hqz53 ?hyz53 hHeld ?restz53
  case hiz53 => simp only [List.getElem?_toArray, List.getElem?_cons_succ, List.getElem?_cons_zero]; exact rfl
  case hqz53 => exact fun _ _ _ h => h
  case hyz53 => refine Or.inl ⟨by rfl, ?_⟩; intro w hSw; (try dsimp only at hSw); go_simp; try with_reducible rfl
  (try simp only [Act.put, List.setIfInBounds_toArray, List.set_cons_zero, List.set_cons_succ])
  refine wpAnyH_ready (rs := [4]) (by kernel_rfl) (by simp) ?_
  refine AllReadyH.cons (o := ?oiz54) ?hiz54 (fun K hK => ?stepz54) AllReadyH.nil
  case hiz54 => simp only [List.getElem?_toArray, List.getElem?_cons_succ, List.getElem?_cons_zero]; exact rfl
  go_simp
  (go_at_call 74; refine (mul_spec (hHeld.nat hx) (hHeld.nat hy) (by omega) (by omega)).mono ?_; rintro e w1 ⟨u, rfl, hu, hun, hb1⟩)
  refine hK.out _ _ ?hSz54 (fun hHeld' => ?restz54)
  case hSz54 => (try dsimp only); (first | exact hF0.drew | exact hHeld.call ‹Below _ _ _›)
  clear hK K hHeld
  have hHeld := hHeld'
  clear hHeld'
  (try simp only [Act.put, List.setIfInBounds_toArray, List.set_cons_zero, List.set_cons_succ])
  refine wpAnyH_ready (rs := [10]) (by kernel_rfl) (by simp) ?_
  refine AllReadyH.cons (o := ?oiz55) ?hiz55 (fun K hK => ?stepz55) AllReadyH.nil
  case hiz55 => simp only [List.getElem?_toArray, List.getElem?_cons_succ, List.getElem?_cons_zero]; exact rfl
  go_simp
  (go_at_call 68; refine (zmade_spec _ hu (by omega)).mono ?_; rintro e w2 ⟨rfl, hb2⟩)
  refine hK.out _ _ ?hSz55 (fun hHeld' => ?restz55)
  case hSz55 => (try dsimp only); (first | exact hF0.drew | exact hHeld.call ‹Below _ _ _›)
  clear hK K hHeld
  have hHeld := hHeld'
  clear hHeld'
  (try simp only [Act.put, List.setIfInBounds_toArray, List.set_cons_zero, List.set_cons_succ])
  refine wpAnyH_ready (rs := [11]) (by kernel_rfl) (by simp) ?_
  refine AllReadyH.cons (o := ?oiz56) ?hiz56 (fun K hK => ?stepz56) AllReadyH.nil
  case hiz56 => simp only [List.getElem?_toArray, List.getElem?_cons_succ, List.getElem?_cons_zero]; exact rfl
  obtain ⟨v0, b0, hR⟩ := hHeld.res; have c0 := box2_c0 hR; have c1 := box2_c1 hR; have f0 := box2_f hR 0; have f1 := box2_f hR 1; go_simp
  refine hK.out _ _ ?hSz56 (fun hHeld' => ?restz56)
  case hSz56 => (try dsimp only); exact hHeld.set2 (by decide) (by omega) _ _
  clear hK K hHeld
  have hHeld := hHeld'
  clear hHeld'
  (try simp only [Act.put, List.setIfInBounds_toArray, List.set_cons_zero, List.set_cons_succ])
  refine wpAnyH_done (by kernel_rfl) ?_ _
  have hq := box2_set hR (.slice u.ao u.n u.c) (.bool (decide (0 < x * y)))
  have hq0 := box2_c0 hq
  have hq1 := box2_c1 hq
  have hq9 := hHeld.below
  have hu2 := (hu.up hb2).kp ((Kp.refl _).set2 hR (by decide) (.slice u.ao u.n u.c) (.bool (decide (0 < x * y))))
  clear hHeld hq hR c0 c1 f0 f1
  generalize (w2.setCell ⟨w.heap.size + 1 + 1, 0, none⟩ (.slice u.ao u.n u.c)).setCell ⟨w.heap.size + 1 + 1, 1, none⟩ (.bool (decide (0 < x * y))) = W9 at *
  go_wp2
  refine bodyPost_ret (v := .agg #[.slice u.ao u.n u.c, .bool (decide (0 < x * y))]) (by simp [results, Try.results31, go_sem, hq0, hq1]) rfl ⟨u, rfl, hu2, hun, hq9⟩

set_option maxRecDepth 100000 in
set_option maxHeartbeats 1600000 in
theorem zadd_same_false {w : World} {s t : Sl} {x y : Nat} (h : NatS w s x) (h' : NatS w t y) (hn : s.n ≤ 100000000000) (hm : t.n ≤ 100000000000) :
    Calls Try.prog 24 #[.agg #[.slice s.ao s.n s.c, .bool false], .agg #[.slice t.ao t.n t.c, .bool false]] w fun e w' => ∃ u : Sl, e = .returned (.agg #[.slice u.ao u.n u.c, .bool (false && decide (0 < x + y))]) ∧ NatS w' u (x + y) ∧ u.n ≤ max s.n t.n + 1 ∧ Below w.heap.size w w' := by
  obtain ⟨hE1, hE2, hE3, -⟩ := ents3 w (.cells #[.slice s.ao s.n s.c, .bool false] 33) (.cells #[.slice t.ao t.n t.c, .bool false] 33) (.cells #[.slice none 0 0, .bool false] 33)
  have hB := (((Grew.refl w).alloc (.cells #[.slice s.ao s.n s.c, .bool false] 33)).alloc (.cells #[.slice t.ao t.n t.c, .bool false] 33)).alloc (.cells #[.slice none 0 0, .bool false] 33)
  have hx := h.grew hB
  have hy := h'.grew hB
  have chE1a := box2_c0 hE1
  have chE1b := box2_c1 hE1
  have chE2a := box2_c0 hE2
  have chE2b := box2_c1 hE2
  have chE3a := box2_c0 hE3
  have chE3b := box2_c1 hE3
  have fhE3a := box2_f hE3 0
  have fhE3b := box2_f hE3 1
  go_enter Try.func24, Try.ntmps24
  go_wp2
  generalize ((w.alloc (.cells #[.slice s.ao s.n s.c, .bool false] 33)).alloc (.cells #[.slice t.ao t.n t.c, .bool false] 33)).alloc (.cells #[.slice none 0 0, .bool false] 33) = W at *
  clear chE1a chE1b chE2a chE2b chE3a chE3b fhE3a fhE3b
  have hF0 := Fr.init hE3 hB
  refine wp_region_held_drew (S := (fun w' => Fr w W (w.heap.size + 1 + 1) 33 w')) (by kernel_rfl) ?hSz57 (fun hHeld => ?restz57)
  case hSz57 => (try dsimp only); (first | exact hF0.drew | exact hHeld.call ‹Below _ _ _›)
  refine wpAnyH_take (i := 0) (oi := ?oiz58) (v := ?vz58) ?hiz58 (by kernel_rfl) (by kernel_rfl) (by kernel_rfl) ?hqz58 ?hyz58 hHeld ?restz58
  case hiz58 => simp only [List.getElem?_toArray, List.getElem?_cons_zero]; exact rfl
  case hqz58 => exact fun _ _ _ h => h
  case hyz58 => refine Or.inl ⟨by rfl, ?_⟩; intro w hSw; (try dsimp only at hSw); go_simp; try with_reducible rfl
  (try simp only [Act.put, List.setIfInBounds_toArray, List.set_cons_zero, List.set_cons_succ])
  refine wpAnyH_take (i := 1) (oi := ?oiz59) (v := ?vz59) ?hiz59 (by kernel_rfl) (by kernel_rfl) (by kernel_rfl) ?hqz59 ?hyz59 hHeld ?restz59
  case hiz59 => simp only [List.getElem?_toArray, List.getElem?_cons_succ, List.getElem?_cons_zero]; exact rfl
  case hqz59 => exact fun _ _ _ h => h
  case hyz59 => refine Or.inl ⟨by rfl, ?_⟩; intro w hSw; have phE1 := hSw.ent hE1 (by omega); have qhE1 := box2_c0 phE1; have rhE1 := box2_c1 phE1; have phE2 := hSw.ent hE2 (by omega); have qhE2 := box2_c0 phE2; have rhE2 := box2_c1 phE2; go_simp; try with_reducible rfl
  (try simp only [Act.put, List.setIfInBounds_toArray, List.set_cons_zero, List.set_cons_succ])
  refine wpAnyH_take (i := 2) (oi := ?oiz60) (v := ?vz60) ?hiz60 (by kernel_rfl) (by kernel_rfl) (by kernel_rfl) ?hqz60 ?hyz60 hHeld ?restz60
  case hiz60 => simp only [List.getElem?_toArray, List.getElem?_cons_succ, List.getElem?_cons_zero]; exact rfl
  case hqz60 => exact fun _ _ _ h => h
  case hyz60 => refine Or.inl ⟨by rfl, ?_⟩; intro w hSw; (try dsimp only at hSw); go_simp; try with_reducible rfl
  (try simp only [Act.put, List.setIfInBounds_toArray, List.set_cons_zero, List.set_cons_succ])
  refine wpAnyH_take (i := 3) (oi := ?oiz61) (v := ?vz61) ?hiz61 (by kernel_rfl) (by kernel_rfl) (by kernel_rfl) ?hqz61 ?hyz61 hHeld ?restz61
  case hiz61 => simp only [List.getElem?_toArray, List.getElem?_cons_succ, List.getElem?_cons_zero]; exact rfl
  case hqz61 => exact fun _ _ _ h => h
  case hyz61 => refine Or.inl ⟨by rfl, ?_⟩; intro w hSw; have phE1 := hSw.ent hE1 (by omega); have qhE1 := box2_c0 phE1; have rhE1 := box2_c1 phE1; have phE2 := hSw.ent hE2 (by omega); have qhE2 := box2_c0 phE2; have rhE2 := box2_c1 phE2; go_simp; try with_reducible rfl
  (try simp only [Act.put, List.setIfInBounds_toArray, List.set_cons_zero, List.set_cons_succ])
  refine wpAnyH_take (i := 5) (oi := ?oiz62) (v := ?vz62) ?hiz62 (by kernel_rfl) (by kernel_rfl) (by kernel_rfl) ?hqz62 ?hyz62 hHeld ?restz62
  case hiz62 => simp only [List.getElem?_toArray, List.getElem?_cons_succ, List.getElem?_cons_zero]; exact rfl
  case hqz62 => exact fun _ _ _ h => h
  case hyz62 => refine Or.inl ⟨by rfl, ?_⟩; intro w hSw; (try dsimp only at hSw); go_simp; try with_reducible rfl
  (try simp only [Act.put, List.setIfInBounds_toArray, List.set_cons_zero, List.set_cons_succ])
  refine wpAnyH_take (i := 6) (oi := ?oiz63) (v := ?vz63) ?hiz63 (by kernel_rfl) (by kernel_rfl) (by kernel_rfl) ?hqz63 ?hyz63 hHeld ?restz63
  case hiz63 => simp only [List.getElem?_toArray, List.getElem?_cons_succ, List.getElem?_cons_zero]; exact rfl
  case hqz63 => exact fun _ _ _ h => h
  case hyz63 => refine Or.inl ⟨by rfl, ?_⟩; intro w hSw; have phE1 := hSw.ent hE1 (by omega); have qhE1 := box2_c0 phE1; have rhE1 := box2_c1 phE1; have phE2 := hSw.ent hE2 (by omega); have qhE2 := box2_c0 phE2; have rhE2 := box2_c1 phE2; go_simp; try with_reducible rfl
  (try simp only [Act.put, List.setIfInBounds_toArray, List.set_cons_zero, List.set_cons_succ])
  refine wpAnyH_ready (rs := [4]) (by kernel_rfl) (by simp) ?_
  refine AllReadyH.cons (o := ?oiz64) ?hiz64 (fun K hK => ?stepz64) AllReadyH.nil
  case hiz64 => simp only [List.getElem?_toArray, List.getElem?_cons_succ, List.getElem?_cons_zero]; exact rfl
  go_simp
  (go_at_call 72; refine (add_spec (hHeld.nat hx) (hHeld.nat hy) (by omega) (by omega)).mono ?_; rintro e w1 ⟨u, rfl, hu, hun, hb1⟩)
  refine hK.out _ _ ?hSz64 (fun hHeld' => ?restz64)
  case hSz64 => (try dsimp only); (first | exact hF0.drew | exact hHeld.call ‹Below _ _ _›)
  clear hK K hHeld
  have hHeld := hHeld'
  clear hHeld'
  (try simp only [Act.put, List.setIfInBounds_toArray, List.set_cons_zero, List.set_cons_succ])
  refine wpAnyH_ready (rs := [7]) (by kernel_rfl) (by simp) ?_
  refine AllReadyH.cons (o := ?oiz65) ?hiz65 (fun K hK => ?stepz65) AllReadyH.nil
  case hiz65 => simp only [List.getElem?_toArray, List.getElem?_cons_succ, List.getElem?_cons_zero]; exact rfl
  go_simp
  (go_at_call 68; refine (zmade_spec _ hu (by omega)).mono ?_; rintro e w2 ⟨rfl, hb2⟩)
  refine hK.out _ _ ?hSz65 (fun hHeld' => ?restz65)
  case hSz65 => (try dsimp only); (first | exact hF0.drew | exact hHeld.call ‹Below _ _ _›)
  clear hK K hHeld
  have hHeld := hHeld'
  clear hHeld'
  (try simp only [Act.put, List.setIfInBounds_toArray, List.set_cons_zero, List.set_cons_succ])
  refine wpAnyH_ready (rs := [8]) (by kernel_rfl) (by simp) ?_
  refine AllReadyH.cons (o := ?oiz66) ?hiz66 (fun K hK => ?stepz66) AllReadyH.nil
  case hiz66 => simp only [List.getElem?_toArray, List.getElem?_cons_succ, List.getElem?_cons_zero]; exact rfl
  obtain ⟨v0, b0, hR⟩ := hHeld.res; have c0 := box2_c0 hR; have c1 := box2_c1 hR; have f0 := box2_f hR 0; have f1 := box2_f hR 1; go_simp
  refine hK.out _ _ ?hSz66 (fun hHeld' => ?restz66)
  case hSz66 => (try dsimp only); exact hHeld.set2 (by decide) (by omega) _ _
  clear hK K hHeld
  have hHeld := hHeld'
  clear hHeld'
  (try simp only [Act.put, List.setIfInBounds_toArray, List.set_cons_zero, List.set_cons_succ])
  refine wpAnyH_done (by kernel_rfl) ?_ _
  have hq := box2_set hR (.slice u.ao u.n u.c) (.bool false)
  have hq0 := box2_c0 hq
  have hq1 := box2_c1 hq
  have hq9 := hHeld.below
  have hu2 := (hu.up hb2).kp ((Kp.refl _).set2 hR (by decide) (.slice u.ao u.n u.c) (.bool false))
  clear hHeld hq hR c0 c1 f0 f1
  generalize (w2.setCell ⟨w.heap.size + 1 + 1, 0, none⟩ (.slice u.ao u.n u.c)).setCell ⟨w.heap.size + 1 + 1, 1, none⟩ (.bool false) = W9 at *
  go_wp2
  refine bodyPost_ret (v := .agg #[.slice u.ao u.n u.c, .bool false]) (by simp [results, Try.results24, go_sem, hq0, hq1]) rfl ⟨u, rfl, hu2, hun, hq9⟩

set_option maxRecDepth 100000 in
set_option maxHeartbeats 1600000 in
theorem zadd_ge_false {w : World} {s t : Sl} {x y : Nat} (h : NatS w s x) (h' : NatS w t y) (hn : s.n ≤ 100000000000) (hm : t.n ≤ 100000000000) (hxy : y ≤ x) :
    Calls Try.prog 24 #[.agg #[.slice s.ao s.n s.c, .bool false], .agg #[.slice t.ao t.n t.c, .bool true]] w fun e w' => ∃ u : Sl, e = .returned (.agg #[.slice u.ao u.n u.c, .bool (false && decide (0 < x - y))]) ∧ NatS w' u (x - y) ∧ u.n ≤ max s.n t.n + 1 ∧ Below w.heap.size w w' := by
  obtain ⟨hE1, hE2, hE3, -⟩ := ents3 w (.cells #[.slice s.ao s.n s.c, .bool false] 33) (.cells #[.slice t.ao t.n t.c, .bool true] 33) (.cells #[.slice none 0 0, .bool false] 33)
  have hB := (((Grew.refl w).alloc (.cells #[.slice s.ao s.n s.c, .bool false] 33)).alloc (.cells #[.slice t.ao t.n t.c, .bool true] 33)).alloc (.cells #[.slice none 0 0, .bool false] 33)
  have hx := h.grew hB
  have hy := h'.grew hB
  have chE1a := box2_c0 hE1
  have chE1b := box2_c1 hE1
  have chE2a := box2_c0 hE2
  have chE2b := box2_c1 hE2
  have chE3a := box2_c0 hE3
  have chE3b := box2_c1 hE3
  have fhE3a := box2_f hE3 0
  have fhE3b := box2_f hE3 1
  go_enter Try.func24, Try.ntmps24
  go_wp2_with fail
  generalize ((w.alloc (.cells #[.slice s.ao s.n s.c, .bool false] 33)).alloc (.cells #[.slice t.ao t.n t.c, .bool true] 33)).alloc (.cells #[.slice none 0 0, .bool false] 33) = W at *
  refine (sub_ge hx hy (by omega) (by omega) hxy).mono ?_
  rintro e w1 ⟨u, rfl, hu, hun, hb1⟩
  have ha1 : Grew w1 ((w1.alloc (.cells #[.slice u.ao u.n u.c] 31))) := (Grew.refl w1).alloc (.cells #[.slice u.ao u.n u.c] 31)
  have hg1' := (Grew.call (Grew.refl _) hb1).trans ha1
  replace hx := hx.grew hg1'
  replace hy := hy.grew hg1'
  replace hE1 := ent_grew hg1' hE1
  replace hE2 := ent_grew hg1' hE2
  replace hE3 := ent_grew hg1' hE3
  replace hu := hu.grew ha1
  have hEu := ent_new w1 (.cells #[.slice u.ao u.n u.c] 31)
  replace hB := hB.trans hg1'
  clear hg1' ha1 hb1 chE1a chE1b chE2a chE2b chE3a chE3b fhE3a fhE3b
  have chE1a := box2_c0 hE1
  have chE1b := box2_c1 hE1
  have chE2a := box2_c0 hE2
  have chE2b := box2_c1 hE2
  have chE3a := box2_c0 hE3
  have chE3b := box2_c1 hE3
  have fhE3a := box2_f hE3 0
  have fhE3b := box2_f hE3 1
  have chEu := box_cell hEu
  go_wp2_with fail
  generalize (w1.alloc (.cells #[.slice u.ao u.n u.c] 31)) = W1 at *
  refine (zmade_spec _ hu (by omega)).mono ?_
  rintro e w2 ⟨rfl, hb2⟩
  have ha2 : Grew w2 (w2) := Grew.refl w2
  have hg2' := (Grew.call (Grew.refl _) hb2).trans ha2
  replace hx := hx.grew hg2'
  replace hy := hy.grew hg2'
  replace hu := hu.grew hg2'
  replace hE1 := ent_grew hg2' hE1
  replace hE2 := ent_grew hg2' hE2
  replace hE3 := ent_grew hg2' hE3
  replace hEu := ent_grew hg2' hEu
  replace hB := hB.trans hg2'
  clear hg2' ha2 hb2 chE1a chE1b chE2a chE2b chE3a chE3b fhE3a fhE3b chEu
  have chE1a := box2_c0 hE1
  have chE1b := box2_c1 hE1
  have chE2a := box2_c0 hE2
  have chE2b := box2_c1 hE2
  have chE3a := box2_c0 hE3
  have chE3b := box2_c1 hE3
  have fhE3a := box2_f hE3 0
  have fhE3b := box2_f hE3 1
  have chEu := box_cell hEu
  go_wp2
  have hq := box2_set hE3 (.slice u.ao u.n u.c) (.bool false)
  have hq0 := box2_c0 hq
  have hq1 := box2_c1 hq
  have hq9 := hB.set2 (k := w.heap.size + 1 + 1) (by omega) (.slice u.ao u.n u.c) (.bool false)
  have hu2 := (hu).kp ((Kp.refl _).set2 hE3 (by decide) (.slice u.ao u.n u.c) (.bool false))
  clear hq
  clear chE1a chE1b chE2a chE2b chE3a chE3b fhE3a fhE3b chEu
  generalize (w2.setCell ⟨w.heap.size + 1 + 1, 0, none⟩ (.slice u.ao u.n u.c)).setCell ⟨w.heap.size + 1 + 1, 1, none⟩ (.bool false) = W9 at *
  refine bodyPost_ret (v := .agg #[.slice u.ao u.n u.c, .bool false]) (by simp [results, Try.results24, go_sem, hq0, hq1]) rfl ⟨u, rfl, hu2, by omega, hq9⟩

set_option maxRecDepth 100000 in
set_option maxHeartbeats 1600000 in
theorem zadd_lt_false {w : World} {s t : Sl} {x y : Nat} (h : NatS w s x) (h' : NatS w t y) (hn : s.n ≤ 100000000000) (hm : t.n ≤ 100000000000) (hxy : x < y) :
    Calls Try.prog 24 #[.agg #[.slice s.ao s.n s.c, .bool false], .agg #[.slice t.ao t.n t.c, .bool true]] w fun e w' => ∃ u : Sl, e = .returned (.agg #[.slice u.ao u.n u.c, .bool (true && decide (0 < y - x))]) ∧ NatS w' u (y - x) ∧ u.n ≤ max s.n t.n + 1 ∧ Below w.heap.size w w' := by
  obtain ⟨hE1, hE2, hE3, -⟩ := ents3 w (.cells #[.slice s.ao s.n s.c, .bool false] 33) (.cells #[.slice t.ao t.n t.c, .bool true] 33) (.cells #[.slice none 0 0, .bool false] 33)
  have hB := (((Grew.refl w).alloc (.cells #[.slice s.ao s.n s.c, .bool false] 33)).alloc (.cells #[.slice t.ao t.n t.c, .bool true] 33)).alloc (.cells #[.slice none 0 0, .bool false] 33)
  have hx := h.grew hB
  have hy := h'.grew hB
  have chE1a := box2_c0 hE1
  have chE1b := box2_c1 hE1
  have chE2a := box2_c0 hE2
  have chE2b := box2_c1 hE2
  have chE3a := box2_c0 hE3
  have chE3b := box2_c1 hE3
  have fhE3a := box2_f hE3 0
  have fhE3b := box2_f hE3 1
  go_enter Try.func24, Try.ntmps24
  go_wp2_with fail
  generalize ((w.alloc (.cells #[.slice s.ao s.n s.c, .bool false] 33)).alloc (.cells #[.slice t.ao t.n t.c, .bool true] 33)).alloc (.cells #[.slice none 0 0, .bool false] 33) = W at *
  refine (sub_lt hx hy (by omega) (by omega) hxy).mono ?_
  rintro e w1 ⟨rfl, hb1⟩
  have ha1 : Grew w1 ((w1.alloc (.cells #[.slice none 0 0] 31))) := (Grew.refl w1).alloc (.cells #[.slice none 0 0] 31)
  have hg1' := (Grew.call (Grew.refl _) hb1).trans ha1
  replace hx := hx.grew hg1'
  replace hy := hy.grew hg1'
  replace hE1 := ent_grew hg1' hE1
  replace hE2 := ent_grew hg1' hE2
  replace hE3 := ent_grew hg1' hE3
  have hEv := ent_new w1 (.cells #[.slice none 0 0] 31)
  replace hB := hB.trans hg1'
  clear hg1' ha1 hb1 chE1a chE1b chE2a chE2b chE3a chE3b fhE3a fhE3b
  have chE1a := box2_c0 hE1
  have chE1b := box2_c1 hE1
  have chE2a := box2_c0 hE2
  have chE2b := box2_c1 hE2
  have chE3a := box2_c0 hE3
  have chE3b := box2_c1 hE3
  have fhE3a := box2_f hE3 0
  have fhE3b := box2_f hE3 1
  have chEv := box_cell hEv
  go_wp2_with fail
  generalize (w1.alloc (.cells #[.slice none 0 0] 31)) = W1 at *
  refine (sub_ge hy hx (by omega) (by omega) (by omega)).mono ?_
  rintro e w2 ⟨u, rfl, hu, hun, hb2⟩
  have ha2 : Grew w2 ((w2.alloc (.cells #[.slice u.ao u.n u.c] 31))) := (Grew.refl w2).alloc (.cells #[.slice u.ao u.n u.c] 31)
  have hg2' := (Grew.call (Grew.refl _) hb2).trans ha2
  replace hx := hx.grew hg2'
  replace hy := hy.grew hg2'
  replace hE1 := ent_grew hg2' hE1
  replace hE2 := ent_grew hg2' hE2
  replace hE3 := ent_grew hg2' hE3
  replace hEv := ent_grew hg2' hEv
  replace hu := hu.grew ha2
  have hEu := ent_new w2 (.cells #[.slice u.ao u.n u.c] 31)
  replace hB := hB.trans hg2'
  clear hg2' ha2 hb2 chE1a chE1b chE2a chE2b chE3a chE3b fhE3a fhE3b chEv
  have chE1a := box2_c0 hE1
  have chE1b := box2_c1 hE1
  have chE2a := box2_c0 hE2
  have chE2b := box2_c1 hE2
  have chE3a := box2_c0 hE3
  have chE3b := box2_c1 hE3
  have fhE3a := box2_f hE3 0
  have fhE3b := box2_f hE3 1
  have chEv := box_cell hEv
  have chEu := box_cell hEu
  go_wp2_with fail
  generalize (w2.alloc (.cells #[.slice u.ao u.n u.c] 31)) = W2 at *
  refine (zmade_spec _ hu (by omega)).mono ?_
  rintro e w3 ⟨rfl, hb3⟩
  have ha3 : Grew w3 (w3) := Grew.refl w3
  have hg3' := (Grew.call (Grew.refl _) hb3).trans ha3
  replace hx := hx.grew hg3'
  replace hy := hy.grew hg3'
  replace hu := hu.grew hg3'
  replace hE1 := ent_grew hg3' hE1
  replace hE2 := ent_grew hg3' hE2
  replace hE3 := ent_grew hg3' hE3
  replace hEv := ent_grew hg3' hEv
  replace hEu := ent_grew hg3' hEu
  replace hB := hB.trans hg3'
  clear hg3' ha3 hb3 chE1a chE1b chE2a chE2b chE3a chE3b fhE3a fhE3b chEv chEu
  have chE1a := box2_c0 hE1
  have chE1b := box2_c1 hE1
  have chE2a := box2_c0 hE2
  have chE2b := box2_c1 hE2
  have chE3a := box2_c0 hE3
  have chE3b := box2_c1 hE3
  have fhE3a := box2_f hE3 0
  have fhE3b := box2_f hE3 1
  have chEv := box_cell hEv
  have chEu := box_cell hEu
  go_wp2
  have hq := box2_set hE3 (.slice u.ao u.n u.c) (.bool (decide (0 < y - x)))
  have hq0 := box2_c0 hq
  have hq1 := box2_c1 hq
  have hq9 := hB.set2 (k := w.heap.size + 1 + 1) (by omega) (.slice u.ao u.n u.c) (.bool (decide (0 < y - x)))
  have hu2 := (hu).kp ((Kp.refl _).set2 hE3 (by decide) (.slice u.ao u.n u.c) (.bool (decide (0 < y - x))))
  clear hq
  clear chE1a chE1b chE2a chE2b chE3a chE3b fhE3a fhE3b chEv chEu
  generalize (w3.setCell ⟨w.heap.size + 1 + 1, 0, none⟩ (.slice u.ao u.n u.c)).setCell ⟨w.heap.size + 1 + 1, 1, none⟩ (.bool (decide (0 < y - x))) = W9 at *
  refine bodyPost_ret (v := .agg #[.slice u.ao u.n u.c, .bool (decide (0 < y - x))]) (by simp [results, Try.results24, go_sem, hq0, hq1]) rfl ⟨u, rfl, hu2, by omega, hq9⟩

set_option maxRecDepth 100000 in
set_option maxHeartbeats 1600000 in
theorem zneg_false {w : World} {s : Sl} {x : Nat} (h : NatS w s x) (hn : s.n ≤ 100000000000) :
    Calls Try.prog 27 #[.agg #[.slice s.ao s.n s.c, .bool false]] w fun e w' => e = .returned (.agg #[.slice s.ao s.n s.c, .bool (true && decide (0 < x))]) ∧ Below w.heap.size w w' := by
  obtain ⟨hE1, hE2, -⟩ := ents2 w (.cells #[.slice s.ao s.n s.c, .bool false] 33) (.cells #[.slice none 0 0, .bool false] 33)
  have hB := ((Grew.refl w).alloc (.cells #[.slice s.ao s.n s.c, .bool false] 33)).alloc (.cells #[.slice none 0 0, .bool false] 33)
  have hx := h.grew hB
  have chE1a := box2_c0 hE1
  have chE1b := box2_c1 hE1
  have chE2a := box2_c0 hE2
  have chE2b := box2_c1 hE2
  have fhE2a := box2_f hE2 0
  have fhE2b := box2_f hE2 1
  go_enter Try.func27, Try.ntmps27
  go_wp2_with fail
  generalize (w.alloc (.cells #[.slice s.ao s.n s.c, .bool false] 33)).alloc (.cells #[.slice none 0 0, .bool false] 33) = W at *
  refine (zmade_spec _ hx (by omega)).mono ?_
  rintro e w1 ⟨rfl, hb1⟩
  have ha1 : Grew w1 (w1) := Grew.refl w1
  have hg1' := (Grew.call (Grew.refl _) hb1).trans ha1
  replace hx := hx.grew hg1'
  replace hE1 := ent_grew hg1' hE1
  replace hE2 := ent_grew hg1' hE2
  replace hB := hB.trans hg1'
  clear hg1' ha1 hb1 chE1a chE1b chE2a chE2b fhE2a fhE2b
  have chE1a := box2_c0 hE1
  have chE1b := box2_c1 hE1
  have chE2a := box2_c0 hE2
  have chE2b := box2_c1 hE2
  have fhE2a := box2_f hE2 0
  have fhE2b := box2_f hE2 1
  go_wp2
  have hq := box2_set hE2 (.slice s.ao s.n s.c) (.bool (decide (0 < x)))
  have hq0 := box2_c0 hq
  have hq1 := box2_c1 hq
  have hq9 := hB.set2 (k := w.heap.size + 1) (by omega) (.slice s.ao s.n s.c) (.bool (decide (0 < x)))
  clear hq
  clear chE1a chE1b chE2a chE2b fhE2a fhE2b
  generalize (w1.setCell ⟨w.heap.size + 1, 0, none⟩ (.slice s.ao s.n s.c)).setCell ⟨w.heap.size + 1, 1, none⟩ (.bool (decide (0 < x))) = W9 at *
  refine bodyPost_ret (v := .agg #[.slice s.ao s.n s.c, .bool (decide (0 < x))]) (by simp [results, Try.results27, go_sem, hq0, hq1]) rfl ⟨rfl, hq9⟩

set_option maxRecDepth 100000 in
set_option maxHeartbeats 1600000 in
theorem zmul_false_true {w : World} {s t : Sl} {x y : Nat} (h : NatS w s x) (h' : NatS w t y) (hn : s.n ≤ 100000000000) (hm : t.n ≤ 100000000000) :
    Calls Try.prog 31 #[.agg #[.slice s.ao s.n s.c, .bool false], .agg #[.slice t.ao t.n t.c, .bool true]] w fun e w' => ∃ u : Sl, e = .returned (.agg #[.slice u.ao u.n u.c, .bool (true && decide (0 < x * y))]) ∧ NatS w' u (x * y) ∧ u.n ≤ s.n + t.n ∧ Below w.heap.size w w' := by
  obtain ⟨hE1, hE2, hE3, -⟩ := ents3 w (.cells #[.slice s.ao s.n s.c, .bool false] 33) (.cells #[.slice t.ao t.n t.c, .bool true] 33) (.cells #[.slice none 0 0, .bool false] 33)
  have hB := (((Grew.refl w).alloc (.cells #[.slice s.ao s.n s.c, .bool false] 33)).alloc (.cells #[.slice t.ao t.n t.c, .bool true] 33)).alloc (.cells #[.slice none 0 0, .bool false] 33)
  have hx := h.grew hB
  have hy := h'.grew hB
  have chE1a := box2_c0 hE1
  have chE1b := box2_c1 hE1
  have chE2a := box2_c0 hE2
  have chE2b := box2_c1 hE2
  have chE3a := box2_c0 hE3
  have chE3b := box2_c1 hE3
  have fhE3a := box2_f hE3 0
  have fhE3b := box2_f hE3 1
  go_enter Try.func31, Try.ntmps31
  go_wp2
  generalize ((w.alloc (.cells #[.slice s.ao s.n s.c, .bool false] 33)).alloc (.cells #[.slice t.ao t.n t.c, .bool true] 33)).alloc (.cells #[.slice none 0 0, .bool false] 33) = W at *
  clear chE1a chE1b chE2a chE2b chE3a chE3b fhE3a fhE3b
  have hF0 := Fr.init hE3 hB
  refine wp_region_held_drew (S := (fun w' => Fr w W (w.heap.size + 1 + 1) 33 w')) (by kernel_rfl) ?hSz67 (fun hHeld => ?restz67)
  case hSz67 => (try dsimp only); (first | exact hF0.drew | exact hHeld.call ‹Below _ _ _›)
  refine wpAnyH_take (i := 0) (oi := ?oiz68) (v := ?vz68) ?hiz68 (by kernel_rfl) (by kernel_rfl) (by kernel_rfl) ?hqz68 ?hyz68 hHeld ?restz68
  case hiz68 => simp only [List.getElem?_toArray, List.getElem?_cons_zero]; exact rfl
  case hqz68 => exact fun _ _ _ h => h
  case hyz68 => refine Or.inl ⟨by rfl, ?_⟩; intro w hSw; (try dsimp only at hSw); go_simp; try with_reducible rfl
  (try simp only [Act.put, List.setIfInBounds_toArray, List.set_cons_zero, List.set_cons_succ])
  refine wpAnyH_take (i := 1) (oi := ?oiz69) (v := ?vz69) ?hiz69 (by kernel_rfl) (by kernel_rfl) (by kernel_rfl) ?hqz69 ?hyz69 hHeld ?restz69
  case hiz69 => simp only [List.getElem?_toArray, List.getElem?_cons_succ, List.getElem?_cons_zero]; exact rfl
  case hqz69 => exact fun _ _ _ h => h
  case hyz69 => refine Or.inl ⟨by rfl, ?_⟩; intro w hSw; have phE1 := hSw.ent hE1 (by omega); have qhE1 := box2_c0 phE1; have rhE1 := box2_c1 phE1; have phE2 := hSw.ent hE2 (by omega); have qhE2 := box2_c0 phE2; have rhE2 := box2_c1 phE2; go_simp; try with_reducible rfl
  (try simp only [Act.put, List.setIfInBounds_toArray, List.set_cons_zero, List.set_cons_succ])
  refine wpAnyH_take (i := 2) (oi := ?oiz70) (v := ?vz70) ?hiz70 (by kernel_rfl) (by kernel_rfl) (by kernel_rfl) ?hqz70 ?hyz70 hHeld ?restz70
  case hiz70 => simp only [List.getElem?_toArray, List.getElem?_cons_succ, List.getElem?_cons_zero]; exact rfl
  case hqz70 => exact fun _ _ _ h => h
  case hyz70 => refine Or.inl ⟨by rfl, ?_⟩; intro w hSw; (try dsimp only at hSw); go_simp; try with_reducible rfl
  (try simp only [Act.put, List.setIfInBounds_toArray, List.set_cons_zero, List.set_cons_succ])
  refine wpAnyH_take (i := 3) (oi := ?oiz71) (v := ?vz71) ?hiz71 (by kernel_rfl) (by kernel_rfl) (by kernel_rfl) ?hqz71 ?hyz71 hHeld ?restz71
  case hiz71 => simp only [List.getElem?_toArray, List.getElem?_cons_succ, List.getElem?_cons_zero]; exact rfl
  case hqz71 => exact fun _ _ _ h => h
  case hyz71 => refine Or.inl ⟨by rfl, ?_⟩; intro w hSw; have phE1 := hSw.ent hE1 (by omega); have qhE1 := box2_c0 phE1; have rhE1 := box2_c1 phE1; have phE2 := hSw.ent hE2 (by omega); have qhE2 := box2_c0 phE2; have rhE2 := box2_c1 phE2; go_simp; try with_reducible rfl
  (try simp only [Act.put, List.setIfInBounds_toArray, List.set_cons_zero, List.set_cons_succ])
  refine wpAnyH_take (i := 5) (oi := ?oiz72) (v := ?vz72) ?hiz72 (by kernel_rfl) (by kernel_rfl) (by kernel_rfl) ?hqz72 ?hyz72 hHeld ?restz72
  case hiz72 => simp only [List.getElem?_toArray, List.getElem?_cons_succ, List.getElem?_cons_zero]; exact rfl
  case hqz72 => exact fun _ _ _ h => h
  case hyz72 => refine Or.inl ⟨by rfl, ?_⟩; intro w hSw; (try dsimp only at hSw); go_simp; try with_reducible rfl
  (try simp only [Act.put, List.setIfInBounds_toArray, List.set_cons_zero, List.set_cons_succ])
  refine wpAnyH_take (i := 6) (oi := ?oiz73) (v := ?vz73) ?hiz73 (by kernel_rfl) (by kernel_rfl) (by kernel_rfl) ?hqz73 ?hyz73 hHeld ?restz73
  case hiz73 => simp only [List.getElem?_toArray, List.getElem?_cons_succ, List.getElem?_cons_zero]; exact rfl
  case hqz73 => exact fun _ _ _ h => h
  case hyz73 => refine Or.inl ⟨by rfl, ?_⟩; intro w hSw; have phE1 := hSw.ent hE1 (by omega); have qhE1 := box2_c0 phE1; have rhE1 := box2_c1 phE1; have phE2 := hSw.ent hE2 (by omega); have qhE2 := box2_c0 phE2; have rhE2 := box2_c1 phE2; go_simp; try with_reducible rfl
  (try simp only [Act.put, List.setIfInBounds_toArray, List.set_cons_zero, List.set_cons_succ])
  refine wpAnyH_take (i := 7) (oi := ?oiz74) (v := ?vz74) ?hiz74 (by kernel_rfl) (by kernel_rfl) (by kernel_rfl) ?hqz74 ?hyz74 hHeld ?restz74
  case hiz74 => simp only [List.getElem?_toArray, List.getElem?_cons_succ, List.getElem?_cons_zero]; exact rfl
  case hqz74 => exact fun _ _ _ h => h
  case hyz74 => refine Or.inl ⟨by rfl, ?_⟩; intro w hSw; (try dsimp only at hSw); go_simp; try with_reducible rfl
  (try simp only [Act.put, List.setIfInBounds_toArray, List.set_cons_zero, List.set_cons_succ])
  refine wpAnyH_take (i := 8) (oi := ?oiz75) (v := ?vz75) ?hiz75 (by kernel_rfl) (by kernel_rfl) (by kernel_rfl) ?hqz75 ?hyz75 hHeld ?restz75
  case hiz75 => simp only [List.getElem?_toArray, List.getElem?_cons_succ, List.getElem?_cons_zero]; exact rfl
  case hqz75 => exact fun _ _ _ h => h
  case hyz75 => refine Or.inl ⟨by rfl, ?_⟩; intro w hSw; have phE1 := hSw.ent hE1 (by omega); have qhE1 := box2_c0 phE1; have rhE1 := box2_c1 phE1; have phE2 := hSw.ent hE2 (by omega); have qhE2 := box2_c0 phE2; have rhE2 := box2_c1 phE2; go_simp; try with_reducible rfl
  (try simp only [Act.put, List.setIfInBounds_toArray, List.set_cons_zero, List.set_cons_succ])
  refine wpAnyH_take (i := 9) (oi := ?oiz76) (v := ?vz76) ?hiz76 (by kernel_rfl) (by kernel_rfl) (by kernel_rfl) ?hqz76 ?hyz76 hHeld ?restz76
  case hiz76 => simp only [List.getElem?_toArray, List.getElem?_cons_succ, List.getElem?_cons_zero]; exact rfl
  case hqz76 => exact fun _ _ _ h => h
  case hyz76 => refine Or.inl ⟨by rfl, ?_⟩; intro w hSw; (try dsimp only at hSw); go_simp; try with_reducible rfl
  (try simp only [Act.put, List.setIfInBounds_toArray, List.set_cons_zero, List.set_cons_succ])
  refine wpAnyH_ready (rs := [4]) (by kernel_rfl) (by simp) ?_
  refine AllReadyH.cons (o := ?oiz77) ?hiz77 (fun K hK => ?stepz77) AllReadyH.nil
  case hiz77 => simp only [List.getElem?_toArray, List.getElem?_cons_succ, List.getElem?_cons_zero]; exact rfl
  go_simp
  (go_at_call 74; refine (mul_spec (hHeld.nat hx) (hHeld.nat hy) (by omega) (by omega)).mono ?_; rintro e w1 ⟨u, rfl, hu, hun, hb1⟩)
  refine hK.out _ _ ?hSz77 (fun hHeld' => ?restz77)
  case hSz77 => (try dsimp only); (first | exact hF0.drew | exact hHeld.call ‹Below _ _ _›)
  clear hK K hHeld
  have hHeld := hHeld'
  clear hHeld'
  (try simp only [Act.put, List.setIfInBounds_toArray, List.set_cons_zero, List.set_cons_succ])
  refine wpAnyH_ready (rs := [10]) (by kernel_rfl) (by simp) ?_
  refine AllReadyH.cons (o := ?oiz78) ?hiz78 (fun K hK => ?stepz78) AllReadyH.nil
  case hiz78 => simp only [List.getElem?_toArray, List.getElem?_cons_succ, List.getElem?_cons_zero]; exact rfl
  go_simp
  (go_at_call 68; refine (zmade_spec _ hu (by omega)).mono ?_; rintro e w2 ⟨rfl, hb2⟩)
  refine hK.out _ _ ?hSz78 (fun hHeld' => ?restz78)
  case hSz78 => (try dsimp only); (first | exact hF0.drew | exact hHeld.call ‹Below _ _ _›)
  clear hK K hHeld
  have hHeld := hHeld'
  clear hHeld'
  (try simp only [Act.put, List.setIfInBounds_toArray, List.set_cons_zero, List.set_cons_succ])
  refine wpAnyH_ready (rs := [11]) (by kernel_rfl) (by simp) ?_
  refine AllReadyH.cons (o := ?oiz79) ?hiz79 (fun K hK => ?stepz79) AllReadyH.nil
  case hiz79 => simp only [List.getElem?_toArray, List.getElem?_cons_succ, List.getElem?_cons_zero]; exact rfl
  obtain ⟨v0, b0, hR⟩ := hHeld.res; have c0 := box2_c0 hR; have c1 := box2_c1 hR; have f0 := box2_f hR 0; have f1 := box2_f hR 1; go_simp
  refine hK.out _ _ ?hSz79 (fun hHeld' => ?restz79)
  case hSz79 => (try dsimp only); exact hHeld.set2 (by decide) (by omega) _ _
  clear hK K hHeld
  have hHeld := hHeld'
  clear hHeld'
  (try simp only [Act.put, List.setIfInBounds_toArray, List.set_cons_zero, List.set_cons_succ])
  refine wpAnyH_done (by kernel_rfl) ?_ _
  have hq := box2_set hR (.slice u.ao u.n u.c) (.bool (decide (0 < x * y)))
  have hq0 := box2_c0 hq
  have hq1 := box2_c1 hq
  have hq9 := hHeld.below
  have hu2 := (hu.up hb2).kp ((Kp.refl _).set2 hR (by decide) (.slice u.ao u.n u.c) (.bool (decide (0 < x * y))))
  clear hHeld hq hR c0 c1 f0 f1
  generalize (w2.setCell ⟨w.heap.size + 1 + 1, 0, none⟩ (.slice u.ao u.n u.c)).setCell ⟨w.heap.size + 1 + 1, 1, none⟩ (.bool (decide (0 < x * y))) = W9 at *
  go_wp2
  refine bodyPost_ret (v := .agg #[.slice u.ao u.n u.c, .bool (decide (0 < x * y))]) (by simp [results, Try.results31, go_sem, hq0, hq1]) rfl ⟨u, rfl, hu2, hun, hq9⟩

set_option maxRecDepth 100000 in
set_option maxHeartbeats 1600000 in
theorem zmul_false_false {w : World} {s t : Sl} {x y : Nat} (h : NatS w s x) (h' : NatS w t y) (hn : s.n ≤ 100000000000) (hm : t.n ≤ 100000000000) :
    Calls Try.prog 31 #[.agg #[.slice s.ao s.n s.c, .bool false], .agg #[.slice t.ao t.n t.c, .bool false]] w fun e w' => ∃ u : Sl, e = .returned (.agg #[.slice u.ao u.n u.c, .bool (false && decide (0 < x * y))]) ∧ NatS w' u (x * y) ∧ u.n ≤ s.n + t.n ∧ Below w.heap.size w w' := by
  obtain ⟨hE1, hE2, hE3, -⟩ := ents3 w (.cells #[.slice s.ao s.n s.c, .bool false] 33) (.cells #[.slice t.ao t.n t.c, .bool false] 33) (.cells #[.slice none 0 0, .bool false] 33)
  have hB := (((Grew.refl w).alloc (.cells #[.slice s.ao s.n s.c, .bool false] 33)).alloc (.cells #[.slice t.ao t.n t.c, .bool false] 33)).alloc (.cells #[.slice none 0 0, .bool false] 33)
  have hx := h.grew hB
  have hy := h'.grew hB
  have chE1a := box2_c0 hE1
  have chE1b := box2_c1 hE1
  have chE2a := box2_c0 hE2
  have chE2b := box2_c1 hE2
  have chE3a := box2_c0 hE3
  have chE3b := box2_c1 hE3
  have fhE3a := box2_f hE3 0
  have fhE3b := box2_f hE3 1
  go_enter Try.func31, Try.ntmps31
  go_wp2
  generalize ((w.alloc (.cells #[.slice s.ao s.n s.c, .bool false] 33)).alloc (.cells #[.slice t.ao t.n t.c, .bool false] 33)).alloc (.cells #[.slice none 0 0, .bool false] 33) = W at *
  clear chE1a chE1b chE2a chE2b chE3a chE3b fhE3a fhE3b
  have hF0 := Fr.init hE3 hB
  refine wp_region_held_drew (S := (fun w' => Fr w W (w.heap.size + 1 + 1) 33 w')) (by kernel_rfl) ?hSz80 (fun hHeld => ?restz80)
  case hSz80 => (try dsimp only); (first | exact hF0.drew | exact hHeld.call ‹Below _ _ _›)
  refine wpAnyH_take (i := 0) (oi := ?oiz81) (v := ?vz81) ?hiz81 (by kernel_rfl) (by kernel_rfl) (by kernel_rfl) ?hqz81 ?hyz81 hHeld ?restz81
  case hiz81 => simp only [List.getElem?_toArray, List.getElem?_cons_zero]; exact rfl
  case hqz81 => exact fun _ _ _ h => h
  case hyz81 => refine Or.inl ⟨by rfl, ?_⟩; intro w hSw; (try dsimp only at hSw); go_simp; try with_reducible rfl
  (try simp only [Act.put, List.setIfInBounds_toArray, List.set_cons_zero, List.set_cons_succ])
  refine wpAnyH_take (i := 1) (oi := ?oiz82) (v := ?vz82) ?hiz82 (by kernel_rfl) (by kernel_rfl) (by kernel_rfl) ?hqz82 ?hyz82 hHeld ?restz82
  case hiz82 => simp only [List.getElem?_toArray, List.getElem?_cons_succ, List.getElem?_cons_zero]; exact rfl
  case hqz82 => exact fun _ _ _ h => h
  case hyz82 => refine Or.inl ⟨by rfl, ?_⟩; intro w hSw; have phE1 := hSw.ent hE1 (by omega); have qhE1 := box2_c0 phE1; have rhE1 := box2_c1 phE1; have phE2 := hSw.ent hE2 (by omega); have qhE2 := box2_c0 phE2; have rhE2 := box2_c1 phE2; go_simp; try with_reducible rfl
  (try simp only [Act.put, List.setIfInBounds_toArray, List.set_cons_zero, List.set_cons_succ])
  refine wpAnyH_take (i := 2) (oi := ?oiz83) (v := ?vz83) ?hiz83 (by kernel_rfl) (by kernel_rfl) (by kernel_rfl) ?hqz83 ?hyz83 hHeld ?restz83
  case hiz83 => simp only [List.getElem?_toArray, List.getElem?_cons_succ, List.getElem?_cons_zero]; exact rfl
  case hqz83 => exact fun _ _ _ h => h
  case hyz83 => refine Or.inl ⟨by rfl, ?_⟩; intro w hSw; (try dsimp only at hSw); go_simp; try with_reducible rfl
  (try simp only [Act.put, List.setIfInBounds_toArray, List.set_cons_zero, List.set_cons_succ])
  refine wpAnyH_take (i := 3) (oi := ?oiz84) (v := ?vz84) ?hiz84 (by kernel_rfl) (by kernel_rfl) (by kernel_rfl) ?hqz84 ?hyz84 hHeld ?restz84
  case hiz84 => simp only [List.getElem?_toArray, List.getElem?_cons_succ, List.getElem?_cons_zero]; exact rfl
  case hqz84 => exact fun _ _ _ h => h
  case hyz84 => refine Or.inl ⟨by rfl, ?_⟩; intro w hSw; have phE1 := hSw.ent hE1 (by omega); have qhE1 := box2_c0 phE1; have rhE1 := box2_c1 phE1; have phE2 := hSw.ent hE2 (by omega); have qhE2 := box2_c0 phE2; have rhE2 := box2_c1 phE2; go_simp; try with_reducible rfl
  (try simp only [Act.put, List.setIfInBounds_toArray, List.set_cons_zero, List.set_cons_succ])
  refine wpAnyH_take (i := 5) (oi := ?oiz85) (v := ?vz85) ?hiz85 (by kernel_rfl) (by kernel_rfl) (by kernel_rfl) ?hqz85 ?hyz85 hHeld ?restz85
  case hiz85 => simp only [List.getElem?_toArray, List.getElem?_cons_succ, List.getElem?_cons_zero]; exact rfl
  case hqz85 => exact fun _ _ _ h => h
  case hyz85 => refine Or.inl ⟨by rfl, ?_⟩; intro w hSw; (try dsimp only at hSw); go_simp; try with_reducible rfl
  (try simp only [Act.put, List.setIfInBounds_toArray, List.set_cons_zero, List.set_cons_succ])
  refine wpAnyH_take (i := 6) (oi := ?oiz86) (v := ?vz86) ?hiz86 (by kernel_rfl) (by kernel_rfl) (by kernel_rfl) ?hqz86 ?hyz86 hHeld ?restz86
  case hiz86 => simp only [List.getElem?_toArray, List.getElem?_cons_succ, List.getElem?_cons_zero]; exact rfl
  case hqz86 => exact fun _ _ _ h => h
  case hyz86 => refine Or.inl ⟨by rfl, ?_⟩; intro w hSw; have phE1 := hSw.ent hE1 (by omega); have qhE1 := box2_c0 phE1; have rhE1 := box2_c1 phE1; have phE2 := hSw.ent hE2 (by omega); have qhE2 := box2_c0 phE2; have rhE2 := box2_c1 phE2; go_simp; try with_reducible rfl
  (try simp only [Act.put, List.setIfInBounds_toArray, List.set_cons_zero, List.set_cons_succ])
  refine wpAnyH_take (i := 7) (oi := ?oiz87) (v := ?vz87) ?hiz87 (by kernel_rfl) (by kernel_rfl) (by kernel_rfl) ?hqz87 ?hyz87 hHeld ?restz87
  case hiz87 => simp only [List.getElem?_toArray, List.getElem?_cons_succ, List.getElem?_cons_zero]; exact rfl
  case hqz87 => exact fun _ _ _ h => h
  case hyz87 => refine Or.inl ⟨by rfl, ?_⟩; intro w hSw; (try dsimp only at hSw); go_simp; try with_reducible rfl
  (try simp only [Act.put, List.setIfInBounds_toArray, List.set_cons_zero, List.set_cons_succ])
  refine wpAnyH_take (i := 8) (oi := ?oiz88) (v := ?vz88) ?hiz88 (by kernel_rfl) (by kernel_rfl) (by kernel_rfl) ?hqz88 ?hyz88 hHeld ?restz88
  case hiz88 => simp only [List.getElem?_toArray, List.getElem?_cons_succ, List.getElem?_cons_zero]; exact rfl
  case hqz88 => exact fun _ _ _ h => h
  case hyz88 => refine Or.inl ⟨by rfl, ?_⟩; intro w hSw; have phE1 := hSw.ent hE1 (by omega); have qhE1 := box2_c0 phE1; have rhE1 := box2_c1 phE1; have phE2 := hSw.ent hE2 (by omega); have qhE2 := box2_c0 phE2; have rhE2 := box2_c1 phE2; go_simp; try with_reducible rfl
  (try simp only [Act.put, List.setIfInBounds_toArray, List.set_cons_zero, List.set_cons_succ])
  refine wpAnyH_take (i := 9) (oi := ?oiz89) (v := ?vz89) ?hiz89 (by kernel_rfl) (by kernel_rfl) (by kernel_rfl) ?hqz89 ?hyz89 hHeld ?restz89
  case hiz89 => simp only [List.getElem?_toArray, List.getElem?_cons_succ, List.getElem?_cons_zero]; exact rfl
  case hqz89 => exact fun _ _ _ h => h
  case hyz89 => refine Or.inl ⟨by rfl, ?_⟩; intro w hSw; (try dsimp only at hSw); go_simp; try with_reducible rfl
  (try simp only [Act.put, List.setIfInBounds_toArray, List.set_cons_zero, List.set_cons_succ])
  refine wpAnyH_ready (rs := [4]) (by kernel_rfl) (by simp) ?_
  refine AllReadyH.cons (o := ?oiz90) ?hiz90 (fun K hK => ?stepz90) AllReadyH.nil
  case hiz90 => simp only [List.getElem?_toArray, List.getElem?_cons_succ, List.getElem?_cons_zero]; exact rfl
  go_simp
  (go_at_call 74; refine (mul_spec (hHeld.nat hx) (hHeld.nat hy) (by omega) (by omega)).mono ?_; rintro e w1 ⟨u, rfl, hu, hun, hb1⟩)
  refine hK.out _ _ ?hSz90 (fun hHeld' => ?restz90)
  case hSz90 => (try dsimp only); (first | exact hF0.drew | exact hHeld.call ‹Below _ _ _›)
  clear hK K hHeld
  have hHeld := hHeld'
  clear hHeld'
  (try simp only [Act.put, List.setIfInBounds_toArray, List.set_cons_zero, List.set_cons_succ])
  refine wpAnyH_ready (rs := [10]) (by kernel_rfl) (by simp) ?_
  refine AllReadyH.cons (o := ?oiz91) ?hiz91 (fun K hK => ?stepz91) AllReadyH.nil
  case hiz91 => simp only [List.getElem?_toArray, List.getElem?_cons_succ, List.getElem?_cons_zero]; exact rfl
  go_simp
  (go_at_call 68; refine (zmade_spec _ hu (by omega)).mono ?_; rintro e w2 ⟨rfl, hb2⟩)
  refine hK.out _ _ ?hSz91 (fun hHeld' => ?restz91)
  case hSz91 => (try dsimp only); (first | exact hF0.drew | exact hHeld.call ‹Below _ _ _›)
  clear hK K hHeld
  have hHeld := hHeld'
  clear hHeld'
  (try simp only [Act.put, List.setIfInBounds_toArray, List.set_cons_zero, List.set_cons_succ])
  refine wpAnyH_ready (rs := [11]) (by kernel_rfl) (by simp) ?_
  refine AllReadyH.cons (o := ?oiz92) ?hiz92 (fun K hK => ?stepz92) AllReadyH.nil
  case hiz92 => simp only [List.getElem?_toArray, List.getElem?_cons_succ, List.getElem?_cons_zero]; exact rfl
  obtain ⟨v0, b0, hR⟩ := hHeld.res; have c0 := box2_c0 hR; have c1 := box2_c1 hR; have f0 := box2_f hR 0; have f1 := box2_f hR 1; go_simp
  refine hK.out _ _ ?hSz92 (fun hHeld' => ?restz92)
  case hSz92 => (try dsimp only); exact hHeld.set2 (by decide) (by omega) _ _
  clear hK K hHeld
  have hHeld := hHeld'
  clear hHeld'
  (try simp only [Act.put, List.setIfInBounds_toArray, List.set_cons_zero, List.set_cons_succ])
  refine wpAnyH_done (by kernel_rfl) ?_ _
  have hq := box2_set hR (.slice u.ao u.n u.c) (.bool false)
  have hq0 := box2_c0 hq
  have hq1 := box2_c1 hq
  have hq9 := hHeld.below
  have hu2 := (hu.up hb2).kp ((Kp.refl _).set2 hR (by decide) (.slice u.ao u.n u.c) (.bool false))
  clear hHeld hq hR c0 c1 f0 f1
  generalize (w2.setCell ⟨w.heap.size + 1 + 1, 0, none⟩ (.slice u.ao u.n u.c)).setCell ⟨w.heap.size + 1 + 1, 1, none⟩ (.bool false) = W9 at *
  go_wp2
  refine bodyPost_ret (v := .agg #[.slice u.ao u.n u.c, .bool false]) (by simp [results, Try.results31, go_sem, hq0, hq1]) rfl ⟨u, rfl, hu2, hun, hq9⟩


end Go.Proofs.Ytnjohlimjbmkgaa
