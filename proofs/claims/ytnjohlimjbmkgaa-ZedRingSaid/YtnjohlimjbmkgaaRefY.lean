/- ref 02: Neg, Add, Mul, Cmp, with signs written out. -/
import Derived.Test.YtnjohlimjbmkgaaProg
import Derived.Test.YtnjohlimjbmkgaaRefZ
import Derived.Test.YtnjohlimjbmkgaaRefD
import Derived.Test.YtnjohlimjbmkgaaRefE
import Derived.Test.YtnjohlimjbmkgaaRefF
namespace Go.Proofs.Ytnjohlimjbmkgaa
open Go.RowKit

theorem rcmp_at {w : World} {s t : Sl} {x y : Nat} (c : Int) (hc : cmpN x y = c) (h : RefS w s x) (h' : RefS w t y) (hn : s.n ≤ 1000000000000) (hm : t.n ≤ 1000000000000) :
    Calls Try.prog 64 #[.agg #[.slice s.ao s.n s.c], .agg #[.slice t.ao t.n t.c]] w fun e w' => e = .returned (.int .i64 c) ∧ Below w.heap.size w w' := by
  subst hc
  exact rcmp_spec h h' hn hm

set_option maxRecDepth 100000 in
set_option maxHeartbeats 1600000 in
theorem rneg_n {w : World} {s : Sl} {x : Nat} (h : RefS w s x) (hn : s.n ≤ 1000000) (hx0 : 0 < x) :
    Calls Try.prog 28 #[.agg #[.int .i64 (-1), .slice s.ao s.n s.c]] w fun e w' => ∃ u : Sl, e = .returned (.agg #[.int .i64 1, .slice u.ao u.n u.c]) ∧ RefS w' u (x) ∧ u.n ≤ s.n ∧ Below w.heap.size w w' := by
  obtain ⟨hE1, hE2, -⟩ := ents2 w (.cells #[.int .i64 (-1), .slice s.ao s.n s.c] 28) (.cells #[.int .i64 0, .slice none 0 0] 28)
  have hB := ((Grew.refl w).alloc (.cells #[.int .i64 (-1), .slice s.ao s.n s.c] 28)).alloc (.cells #[.int .i64 0, .slice none 0 0] 28)
  have hx := h.grew hB
  have chE1a := box2_c0 hE1
  have chE1b := box2_c1 hE1
  have chE2a := box2_c0 hE2
  have chE2b := box2_c1 hE2
  have fhE2a := box2_f hE2 0
  have fhE2b := box2_f hE2 1
  go_enter Try.func28, Try.ntmps28
  go_wp2_with fail
  generalize (w.alloc (.cells #[.int .i64 (-1), .slice s.ao s.n s.c] 28)).alloc (.cells #[.int .i64 0, .slice none 0 0] 28) = W at *
  refine (rmade_pos hx (by omega) _ hx0).mono ?_
  rintro e w1 ⟨rfl, hb1⟩
  have ha1 : Grew w1 (w1) := Grew.refl w1
  have hg1' := (Grew.call (Grew.refl _) hb1).trans ha1
  replace hx := hx.grew hg1'
  replace hE1 := ent_grew hg1' hE1
  replace hE2 := ent_grew hg1' hE2
  replace hB := hB.trans hg1'
  clear hg1' ha1 hb1 chE1a chE1b chE2a chE2b fhE2a fhE2b
  have chE1a := box2_c0 hE1
  have chE1b := box2_c1 hE1
  have chE2a := box2_c0 hE2
  have chE2b := box2_c1 hE2
  have fhE2a := box2_f hE2 0
  have fhE2b := box2_f hE2 1
  go_wp2
  have hq := box2_set hE2 (.int .i64 1) (.slice s.ao s.n s.c)
  have hq0 := box2_c0 hq
  have hq1 := box2_c1 hq
  have hq9 := hB.set2 (k := w.heap.size + 1) (by omega) (.int .i64 1) (.slice s.ao s.n s.c)
  have hu2 := (hx).kp ((Kp.refl _).set2 hE2 (by decide) (.int .i64 1) (.slice s.ao s.n s.c))
  clear hq
  clear chE1a chE1b chE2a chE2b fhE2a fhE2b
  generalize (w1.setCell ⟨w.heap.size + 1, 0, none⟩ (.int .i64 1)).setCell ⟨w.heap.size + 1, 1, none⟩ (.slice s.ao s.n s.c) = W9 at *
  refine bodyPost_ret (v := .agg #[.int .i64 1, .slice s.ao s.n s.c]) (by simp [results, Try.results28, go_sem, hq0, hq1]) rfl ⟨s, rfl, hu2, Nat.le_refl _, hq9⟩

set_option maxRecDepth 100000 in
set_option maxHeartbeats 1600000 in
theorem rzmul_nn {w : World} {s t : Sl} {x y : Nat} (h : RefS w s x) (h' : RefS w t y) (hn : s.n ≤ 1000000) (hm : t.n ≤ 1000000) (hx0 : 0 < x) (hy0 : 0 < y) :
    Calls Try.prog 32 #[.agg #[.int .i64 (-1), .slice s.ao s.n s.c], .agg #[.int .i64 (-1), .slice t.ao t.n t.c]] w fun e w' => ∃ u : Sl, e = .returned (.agg #[.int .i64 1, .slice u.ao u.n u.c]) ∧ RefS w' u (x * y) ∧ u.n ≤ s.n + t.n ∧ Below w.heap.size w w' := by
  obtain ⟨hE1, hE2, hE3, -⟩ := ents3 w (.cells #[.int .i64 (-1), .slice s.ao s.n s.c] 28) (.cells #[.int .i64 (-1), .slice t.ao t.n t.c] 28) (.cells #[.int .i64 0, .slice none 0 0] 28)
  have hB := (((Grew.refl w).alloc (.cells #[.int .i64 (-1), .slice s.ao s.n s.c] 28)).alloc (.cells #[.int .i64 (-1), .slice t.ao t.n t.c] 28)).alloc (.cells #[.int .i64 0, .slice none 0 0] 28)
  have hx := h.grew hB
  have hy := h'.grew hB
  have chE1a := box2_c0 hE1
  have chE1b := box2_c1 hE1
  have chE2a := box2_c0 hE2
  have chE2b := box2_c1 hE2
  have chE3a := box2_c0 hE3
  have chE3b := box2_c1 hE3
  have fhE3a := box2_f hE3 0
  have fhE3b := box2_f hE3 1
  go_enter Try.func32, Try.ntmps32
  go_wp2
  generalize ((w.alloc (.cells #[.int .i64 (-1), .slice s.ao s.n s.c] 28)).alloc (.cells #[.int .i64 (-1), .slice t.ao t.n t.c] 28)).alloc (.cells #[.int .i64 0, .slice none 0 0] 28) = W at *
  have hw1 : IntKind.i64.wrap 1 = 1 := by decide
  have hwn : IntKind.i64.wrap (-1) = -1 := by decide
  clear chE1a chE1b chE2a chE2b chE3a chE3b fhE3a fhE3b
  have hF0 := Fr.init hE3 hB
  refine wp_region_held_drew (S := (fun w' => Fr w W (w.heap.size + 1 + 1) 28 w')) (by kernel_rfl) ?hSz93 (fun hHeld => ?restz93)
  case hSz93 => (try dsimp only); (first | exact hF0.drew | exact hHeld.call ‹Below _ _ _›)
  refine wpAnyH_take (i := 0) (oi := ?oiz94) (v := ?vz94) ?hiz94 (by kernel_rfl) (by kernel_rfl) (by kernel_rfl) ?hqz94 ?hyz94 hHeld ?restz94
  case hiz94 => simp only [List.getElem?_toArray, List.getElem?_cons_zero]; exact rfl
  case hqz94 => exact fun _ _ _ h => h
  case hyz94 => refine Or.inl ⟨by rfl, ?_⟩; intro w hSw; (try dsimp only at hSw); go_simp; try with_reducible rfl
  (try simp only [Act.put, List.setIfInBounds_toArray, List.set_cons_zero, List.set_cons_succ])
  refine wpAnyH_take (i := 1) (oi := ?oiz95) (v := ?vz95) ?hiz95 (by kernel_rfl) (by kernel_rfl) (by kernel_rfl) ?hqz95 ?hyz95 hHeld ?restz95
  case hiz95 => simp only [List.getElem?_toArray, List.getElem?_cons_succ, List.getElem?_cons_zero]; exact rfl
  case hqz95 => exact fun _ _ _ h => h
  case hyz95 => refine Or.inl ⟨by rfl, ?_⟩; intro w hSw; have phE1 := hSw.ent hE1 (by omega); have qhE1 := box2_c0 phE1; have rhE1 := box2_c1 phE1; have phE2 := hSw.ent hE2 (by omega); have qhE2 := box2_c0 phE2; have rhE2 := box2_c1 phE2; go_simp; try with_reducible rfl
  (try simp only [Act.put, List.setIfInBounds_toArray, List.set_cons_zero, List.set_cons_succ])
  refine wpAnyH_take (i := 2) (oi := ?oiz96) (v := ?vz96) ?hiz96 (by kernel_rfl) (by kernel_rfl) (by kernel_rfl) ?hqz96 ?hyz96 hHeld ?restz96
  case hiz96 => simp only [List.getElem?_toArray, List.getElem?_cons_succ, List.getElem?_cons_zero]; exact rfl
  case hqz96 => exact fun _ _ _ h => h
  case hyz96 => refine Or.inl ⟨by rfl, ?_⟩; intro w hSw; (try dsimp only at hSw); go_simp; try with_reducible rfl
  (try simp only [Act.put, List.setIfInBounds_toArray, List.set_cons_zero, List.set_cons_succ])
  refine wpAnyH_take (i := 3) (oi := ?oiz97) (v := ?vz97) ?hiz97 (by kernel_rfl) (by kernel_rfl) (by kernel_rfl) ?hqz97 ?hyz97 hHeld ?restz97
  case hiz97 => simp only [List.getElem?_toArray, List.getElem?_cons_succ, List.getElem?_cons_zero]; exact rfl
  case hqz97 => exact fun _ _ _ h => h
  case hyz97 => refine Or.inl ⟨by rfl, ?_⟩; intro w hSw; have phE1 := hSw.ent hE1 (by omega); have qhE1 := box2_c0 phE1; have rhE1 := box2_c1 phE1; have phE2 := hSw.ent hE2 (by omega); have qhE2 := box2_c0 phE2; have rhE2 := box2_c1 phE2; go_simp; try with_reducible rfl
  (try simp only [Act.put, List.setIfInBounds_toArray, List.set_cons_zero, List.set_cons_succ])
  refine wpAnyH_take (i := 4) (oi := ?oiz98) (v := ?vz98) ?hiz98 (by kernel_rfl) (by kernel_rfl) (by kernel_rfl) ?hqz98 ?hyz98 hHeld ?restz98
  case hiz98 => simp only [List.getElem?_toArray, List.getElem?_cons_succ, List.getElem?_cons_zero]; exact rfl
  case hqz98 => exact fun _ _ _ h => h
  case hyz98 => refine Or.inl ⟨by rfl, ?_⟩; intro w hSw; (try dsimp only at hSw); go_simp; try with_reducible rfl
  (try simp only [Act.put, List.setIfInBounds_toArray, List.set_cons_zero, List.set_cons_succ])
  refine wpAnyH_take (i := 5) (oi := ?oiz99) (v := ?vz99) ?hiz99 (by kernel_rfl) (by kernel_rfl) (by kernel_rfl) ?hqz99 ?hyz99 hHeld ?restz99
  case hiz99 => simp only [List.getElem?_toArray, List.getElem?_cons_succ, List.getElem?_cons_zero]; exact rfl
  case hqz99 => exact fun _ _ _ h => h
  case hyz99 => refine Or.inl ⟨by rfl, ?_⟩; intro w hSw; (try dsimp only at hSw); go_simp; try with_reducible rfl
  (try simp only [Act.put, List.setIfInBounds_toArray, List.set_cons_zero, List.set_cons_succ])
  refine wpAnyH_take (i := 6) (oi := ?oiz100) (v := ?vz100) ?hiz100 (by kernel_rfl) (by kernel_rfl) (by kernel_rfl) ?hqz100 ?hyz100 hHeld ?restz100
  case hiz100 => simp only [List.getElem?_toArray, List.getElem?_cons_succ, List.getElem?_cons_zero]; exact rfl
  case hqz100 => exact fun _ _ _ h => h
  case hyz100 => refine Or.inl ⟨by rfl, ?_⟩; intro w hSw; have phE1 := hSw.ent hE1 (by omega); have qhE1 := box2_c0 phE1; have rhE1 := box2_c1 phE1; have phE2 := hSw.ent hE2 (by omega); have qhE2 := box2_c0 phE2; have rhE2 := box2_c1 phE2; go_simp; try with_reducible rfl
  (try simp only [Act.put, List.setIfInBounds_toArray, List.set_cons_zero, List.set_cons_succ])
  refine wpAnyH_take (i := 7) (oi := ?oiz101) (v := ?vz101) ?hiz101 (by kernel_rfl) (by kernel_rfl) (by kernel_rfl) ?hqz101 ?hyz101 hHeld ?restz101
  case hiz101 => simp only [List.getElem?_toArray, List.getElem?_cons_succ, List.getElem?_cons_zero]; exact rfl
  case hqz101 => exact fun _ _ _ h => h
  case hyz101 => refine Or.inl ⟨by rfl, ?_⟩; intro w hSw; (try dsimp only at hSw); go_simp; try with_reducible rfl
  (try simp only [Act.put, List.setIfInBounds_toArray, List.set_cons_zero, List.set_cons_succ])
  refine wpAnyH_take (i := 8) (oi := ?oiz102) (v := ?vz102) ?hiz102 (by kernel_rfl) (by kernel_rfl) (by kernel_rfl) ?hqz102 ?hyz102 hHeld ?restz102
  case hiz102 => simp only [List.getElem?_toArray, List.getElem?_cons_succ, List.getElem?_cons_zero]; exact rfl
  case hqz102 => exact fun _ _ _ h => h
  case hyz102 => refine Or.inl ⟨by rfl, ?_⟩; intro w hSw; have phE1 := hSw.ent hE1 (by omega); have qhE1 := box2_c0 phE1; have rhE1 := box2_c1 phE1; have phE2 := hSw.ent hE2 (by omega); have qhE2 := box2_c0 phE2; have rhE2 := box2_c1 phE2; go_simp; try with_reducible rfl
  (try simp only [Act.put, List.setIfInBounds_toArray, List.set_cons_zero, List.set_cons_succ])
  refine wpAnyH_ready (rs := [9]) (by kernel_rfl) (by simp) ?_
  refine AllReadyH.cons (o := ?oiz103) ?hiz103 (fun K hK => ?stepz103) AllReadyH.nil
  case hiz103 => simp only [List.getElem?_toArray, List.getElem?_cons_succ, List.getElem?_cons_zero]; exact rfl
  go_simp
  (go_at_call 75; refine (rmul_spec (hHeld.ref hx) (hHeld.ref hy) (by omega) (by omega)).mono ?_; rintro e w1 ⟨u, rfl, hu, hun, hb1⟩)
  refine hK.out _ _ ?hSz103 (fun hHeld' => ?restz103)
  case hSz103 => (try dsimp only); (first | exact hF0.drew | exact hHeld.call ‹Below _ _ _›)
  clear hK K hHeld
  have hHeld := hHeld'
  clear hHeld'
  (try simp only [Act.put, List.setIfInBounds_toArray, List.set_cons_zero, List.set_cons_succ])
  refine wpAnyH_ready (rs := [10]) (by kernel_rfl) (by simp) ?_
  refine AllReadyH.cons (o := ?oiz104) ?hiz104 (fun K hK => ?stepz104) AllReadyH.nil
  case hiz104 => simp only [List.getElem?_toArray, List.getElem?_cons_succ, List.getElem?_cons_zero]; exact rfl
  go_simp
  (go_at_call 47; refine (rmade_pos hu (by omega) _ (by first | assumption | exact Nat.mul_pos hx0 hy0 | omega)).mono ?_; rintro e w2 ⟨rfl, hb2⟩)
  refine hK.out _ _ ?hSz104 (fun hHeld' => ?restz104)
  case hSz104 => (try dsimp only); (first | exact hF0.drew | exact hHeld.call ‹Below _ _ _›)
  clear hK K hHeld
  have hHeld := hHeld'
  clear hHeld'
  (try simp only [Act.put, List.setIfInBounds_toArray, List.set_cons_zero, List.set_cons_succ])
  refine wpAnyH_ready (rs := [11]) (by kernel_rfl) (by simp) ?_
  refine AllReadyH.cons (o := ?oiz105) ?hiz105 (fun K hK => ?stepz105) AllReadyH.nil
  case hiz105 => simp only [List.getElem?_toArray, List.getElem?_cons_succ, List.getElem?_cons_zero]; exact rfl
  obtain ⟨v0, b0, hR⟩ := hHeld.res; have c0 := box2_c0 hR; have c1 := box2_c1 hR; have f0 := box2_f hR 0; have f1 := box2_f hR 1; go_simp
  refine hK.out _ _ ?hSz105 (fun hHeld' => ?restz105)
  case hSz105 => (try dsimp only); exact hHeld.set2 (by decide) (by omega) _ _
  clear hK K hHeld
  have hHeld := hHeld'
  clear hHeld'
  (try simp only [Act.put, List.setIfInBounds_toArray, List.set_cons_zero, List.set_cons_succ])
  refine wpAnyH_done (by kernel_rfl) ?_ _
  have hq := box2_set hR (.int .i64 1) (.slice u.ao u.n u.c)
  have hq0 := box2_c0 hq
  have hq1 := box2_c1 hq
  have hq9 := hHeld.below
  have hu2 := (hu.up hb2).kp ((Kp.refl _).set2 hR (by decide) (.int .i64 1) (.slice u.ao u.n u.c))
  clear hHeld hq hR c0 c1 f0 f1
  generalize (w2.setCell ⟨w.heap.size + 1 + 1, 0, none⟩ (.int .i64 1)).setCell ⟨w.heap.size + 1 + 1, 1, none⟩ (.slice u.ao u.n u.c) = W9 at *
  go_wp2
  refine bodyPost_ret (v := .agg #[.int .i64 1, .slice u.ao u.n u.c]) (by simp [results, Try.results32, go_sem, hq0, hq1]) rfl ⟨u, rfl, hu2, hun, hq9⟩

set_option maxRecDepth 100000 in
set_option maxHeartbeats 1600000 in
theorem rzadd_nn {w : World} {s t : Sl} {x y : Nat} (h : RefS w s x) (h' : RefS w t y) (hn : s.n ≤ 1000000) (hm : t.n ≤ 1000000) (hx0 : 0 < x) (hy0 : 0 < y) :
    Calls Try.prog 18 #[.agg #[.int .i64 (-1), .slice s.ao s.n s.c], .agg #[.int .i64 (-1), .slice t.ao t.n t.c]] w fun e w' => ∃ u : Sl, e = .returned (.agg #[.int .i64 (-1), .slice u.ao u.n u.c]) ∧ RefS w' u (x + y) ∧ u.n ≤ max s.n t.n + 1 ∧ Below w.heap.size w w' := by
  obtain ⟨hE1, hE2, hE3, -⟩ := ents3 w (.cells #[.int .i64 (-1), .slice s.ao s.n s.c] 28) (.cells #[.int .i64 (-1), .slice t.ao t.n t.c] 28) (.cells #[.int .i64 0, .slice none 0 0] 28)
  have hB := (((Grew.refl w).alloc (.cells #[.int .i64 (-1), .slice s.ao s.n s.c] 28)).alloc (.cells #[.int .i64 (-1), .slice t.ao t.n t.c] 28)).alloc (.cells #[.int .i64 0, .slice none 0 0] 28)
  have hx := h.grew hB
  have hy := h'.grew hB
  have chE1a := box2_c0 hE1
  have chE1b := box2_c1 hE1
  have chE2a := box2_c0 hE2
  have chE2b := box2_c1 hE2
  have chE3a := box2_c0 hE3
  have chE3b := box2_c1 hE3
  have fhE3a := box2_f hE3 0
  have fhE3b := box2_f hE3 1
  go_enter Try.func18, Try.ntmps18
  go_wp2
  generalize ((w.alloc (.cells #[.int .i64 (-1), .slice s.ao s.n s.c] 28)).alloc (.cells #[.int .i64 (-1), .slice t.ao t.n t.c] 28)).alloc (.cells #[.int .i64 0, .slice none 0 0] 28) = W at *
  clear chE1a chE1b chE2a chE2b chE3a chE3b fhE3a fhE3b
  have hF0 := Fr.init hE3 hB
  refine wp_region_held_drew (S := (fun w' => Fr w W (w.heap.size + 1 + 1) 28 w')) (by kernel_rfl) ?hSz106 (fun hHeld => ?restz106)
  case hSz106 => (try dsimp only); (first | exact hF0.drew | exact hHeld.call ‹Below _ _ _›)
  refine wpAnyH_take (i := 0) (oi := ?oiz107) (v := ?vz107) ?hiz107 (by kernel_rfl) (by kernel_rfl) (by kernel_rfl) ?hqz107 ?hyz107 hHeld ?restz107
  case hiz107 => simp only [List.getElem?_toArray, List.getElem?_cons_zero]; exact rfl
  case hqz107 => exact fun _ _ _ h => h
  case hyz107 => refine Or.inl ⟨by rfl, ?_⟩; intro w hSw; (try dsimp only at hSw); go_simp; try with_reducible rfl
  (try simp only [Act.put, List.setIfInBounds_toArray, List.set_cons_zero, List.set_cons_succ])
  refine wpAnyH_take (i := 1) (oi := ?oiz108) (v := ?vz108) ?hiz108 (by kernel_rfl) (by kernel_rfl) (by kernel_rfl) ?hqz108 ?hyz108 hHeld ?restz108
  case hiz108 => simp only [List.getElem?_toArray, List.getElem?_cons_succ, List.getElem?_cons_zero]; exact rfl
  case hqz108 => exact fun _ _ _ h => h
  case hyz108 => refine Or.inl ⟨by rfl, ?_⟩; intro w hSw; have phE1 := hSw.ent hE1 (by omega); have qhE1 := box2_c0 phE1; have rhE1 := box2_c1 phE1; have phE2 := hSw.ent hE2 (by omega); have qhE2 := box2_c0 phE2; have rhE2 := box2_c1 phE2; go_simp; try with_reducible rfl
  (try simp only [Act.put, List.setIfInBounds_toArray, List.set_cons_zero, List.set_cons_succ])
  refine wpAnyH_take (i := 2) (oi := ?oiz109) (v := ?vz109) ?hiz109 (by kernel_rfl) (by kernel_rfl) (by kernel_rfl) ?hqz109 ?hyz109 hHeld ?restz109
  case hiz109 => simp only [List.getElem?_toArray, List.getElem?_cons_succ, List.getElem?_cons_zero]; exact rfl
  case hqz109 => exact fun _ _ _ h => h
  case hyz109 => refine Or.inl ⟨by rfl, ?_⟩; intro w hSw; (try dsimp only at hSw); go_simp; try with_reducible rfl
  (try simp only [Act.put, List.setIfInBounds_toArray, List.set_cons_zero, List.set_cons_succ])
  refine wpAnyH_take (i := 3) (oi := ?oiz110) (v := ?vz110) ?hiz110 (by kernel_rfl) (by kernel_rfl) (by kernel_rfl) ?hqz110 ?hyz110 hHeld ?restz110
  case hiz110 => simp only [List.getElem?_toArray, List.getElem?_cons_succ, List.getElem?_cons_zero]; exact rfl
  case hqz110 => exact fun _ _ _ h => h
  case hyz110 => refine Or.inl ⟨by rfl, ?_⟩; intro w hSw; have phE1 := hSw.ent hE1 (by omega); have qhE1 := box2_c0 phE1; have rhE1 := box2_c1 phE1; have phE2 := hSw.ent hE2 (by omega); have qhE2 := box2_c0 phE2; have rhE2 := box2_c1 phE2; go_simp; try with_reducible rfl
  (try simp only [Act.put, List.setIfInBounds_toArray, List.set_cons_zero, List.set_cons_succ])
  refine wpAnyH_take (i := 4) (oi := ?oiz111) (v := ?vz111) ?hiz111 (by kernel_rfl) (by kernel_rfl) (by kernel_rfl) ?hqz111 ?hyz111 hHeld ?restz111
  case hiz111 => simp only [List.getElem?_toArray, List.getElem?_cons_succ, List.getElem?_cons_zero]; exact rfl
  case hqz111 => exact fun _ _ _ h => h
  case hyz111 => refine Or.inl ⟨by rfl, ?_⟩; intro w hSw; (try dsimp only at hSw); go_simp; try with_reducible rfl
  (try simp only [Act.put, List.setIfInBounds_toArray, List.set_cons_zero, List.set_cons_succ])
  refine wpAnyH_take (i := 5) (oi := ?oiz112) (v := ?vz112) ?hiz112 (by kernel_rfl) (by kernel_rfl) (by kernel_rfl) ?hqz112 ?hyz112 hHeld ?restz112
  case hiz112 => simp only [List.getElem?_toArray, List.getElem?_cons_succ, List.getElem?_cons_zero]; exact rfl
  case hqz112 => exact fun _ _ _ h => h
  case hyz112 => refine Or.inl ⟨by rfl, ?_⟩; intro w hSw; have phE1 := hSw.ent hE1 (by omega); have qhE1 := box2_c0 phE1; have rhE1 := box2_c1 phE1; have phE2 := hSw.ent hE2 (by omega); have qhE2 := box2_c0 phE2; have rhE2 := box2_c1 phE2; go_simp; try with_reducible rfl
  (try simp only [Act.put, List.setIfInBounds_toArray, List.set_cons_zero, List.set_cons_succ])
  refine wpAnyH_ready (rs := [6]) (by kernel_rfl) (by simp) ?_
  refine AllReadyH.cons (o := ?oiz113) ?hiz113 (fun K hK => ?stepz113) AllReadyH.nil
  case hiz113 => simp only [List.getElem?_toArray, List.getElem?_cons_succ, List.getElem?_cons_zero]; exact rfl
  go_simp
  (go_at_call 63; refine (radd_spec (hHeld.ref hx) (hHeld.ref hy) (by omega) (by omega)).mono ?_; rintro e w1 ⟨u, rfl, hu, hun, hb1⟩)
  refine hK.out _ _ ?hSz113 (fun hHeld' => ?restz113)
  case hSz113 => (try dsimp only); (first | exact hF0.drew | exact hHeld.call ‹Below _ _ _›)
  clear hK K hHeld
  have hHeld := hHeld'
  clear hHeld'
  (try simp only [Act.put, List.setIfInBounds_toArray, List.set_cons_zero, List.set_cons_succ])
  refine wpAnyH_ready (rs := [7]) (by kernel_rfl) (by simp) ?_
  refine AllReadyH.cons (o := ?oiz114) ?hiz114 (fun K hK => ?stepz114) AllReadyH.nil
  case hiz114 => simp only [List.getElem?_toArray, List.getElem?_cons_succ, List.getElem?_cons_zero]; exact rfl
  go_simp
  (go_at_call 47; refine (rmade_pos hu (by omega) _ (by first | assumption | exact Nat.mul_pos hx0 hy0 | omega)).mono ?_; rintro e w2 ⟨rfl, hb2⟩)
  refine hK.out _ _ ?hSz114 (fun hHeld' => ?restz114)
  case hSz114 => (try dsimp only); (first | exact hF0.drew | exact hHeld.call ‹Below _ _ _›)
  clear hK K hHeld
  have hHeld := hHeld'
  clear hHeld'
  (try simp only [Act.put, List.setIfInBounds_toArray, List.set_cons_zero, List.set_cons_succ])
  refine wpAnyH_ready (rs := [8]) (by kernel_rfl) (by simp) ?_
  refine AllReadyH.cons (o := ?oiz115) ?hiz115 (fun K hK => ?stepz115) AllReadyH.nil
  case hiz115 => simp only [List.getElem?_toArray, List.getElem?_cons_succ, List.getElem?_cons_zero]; exact rfl
  obtain ⟨v0, b0, hR⟩ := hHeld.res; have c0 := box2_c0 hR; have c1 := box2_c1 hR; have f0 := box2_f hR 0; have f1 := box2_f hR 1; go_simp
  refine hK.out _ _ ?hSz115 (fun hHeld' => ?restz115)
  case hSz115 => (try dsimp only); exact hHeld.set2 (by decide) (by omega) _ _
  clear hK K hHeld
  have hHeld := hHeld'
  clear hHeld'
  (try simp only [Act.put, List.setIfInBounds_toArray, List.set_cons_zero, List.set_cons_succ])
  refine wpAnyH_done (by kernel_rfl) ?_ _
  have hq := box2_set hR (.int .i64 (-1)) (.slice u.ao u.n u.c)
  have hq0 := box2_c0 hq
  have hq1 := box2_c1 hq
  have hq9 := hHeld.below
  have hu2 := (hu.up hb2).kp ((Kp.refl _).set2 hR (by decide) (.int .i64 (-1)) (.slice u.ao u.n u.c))
  clear hHeld hq hR c0 c1 f0 f1
  generalize (w2.setCell ⟨w.heap.size + 1 + 1, 0, none⟩ (.int .i64 (-1))).setCell ⟨w.heap.size + 1 + 1, 1, none⟩ (.slice u.ao u.n u.c) = W9 at *
  go_wp2
  refine bodyPost_ret (v := .agg #[.int .i64 (-1), .slice u.ao u.n u.c]) (by simp [results, Try.results18, go_sem, hq0, hq1]) rfl ⟨u, rfl, hu2, hun, hq9⟩

set_option maxRecDepth 100000 in
set_option maxHeartbeats 1600000 in
theorem rzcmp_nn_lt {w : World} {s t : Sl} {x y : Nat} (h : RefS w s x) (h' : RefS w t y) (hn : s.n ≤ 1000000) (hm : t.n ≤ 1000000) (hc : x < y) :
    Calls Try.prog 30 #[.agg #[.int .i64 (-1), .slice s.ao s.n s.c], .agg #[.int .i64 (-1), .slice t.ao t.n t.c]] w fun e w' => e = .returned (.int .i64 (1)) ∧ Below w.heap.size w w' := by
  obtain ⟨hE1, hE2, -⟩ := ents2 w (.cells #[.int .i64 (-1), .slice s.ao s.n s.c] 28) (.cells #[.int .i64 (-1), .slice t.ao t.n t.c] 28)
  have hB := ((Grew.refl w).alloc (.cells #[.int .i64 (-1), .slice s.ao s.n s.c] 28)).alloc (.cells #[.int .i64 (-1), .slice t.ao t.n t.c] 28)
  have hx := h.grew hB
  have hy := h'.grew hB
  have chE1a := box2_c0 hE1
  have chE1b := box2_c1 hE1
  have chE2a := box2_c0 hE2
  have chE2b := box2_c1 hE2
  have hc0 : cmpN x y = -1 := cmpN_lt hc
  go_enter Try.func30, Try.ntmps30
  go_wp2
  generalize (w.alloc (.cells #[.int .i64 (-1), .slice s.ao s.n s.c] 28)).alloc (.cells #[.int .i64 (-1), .slice t.ao t.n t.c] 28) = W at *
  clear chE1a chE1b chE2a chE2b
  refine wp_region_held_drew (S := (fun w' => Grew W w')) (by kernel_rfl) ?hSz116 (fun hHeld => ?restz116)
  case hSz116 => (try dsimp only); (first | exact (Grew.refl _).drew | exact Grew.call hHeld ‹Below _ _ _›)
  refine wpAnyH_take (i := 0) (oi := ?oiz117) (v := ?vz117) ?hiz117 (by kernel_rfl) (by kernel_rfl) (by kernel_rfl) ?hqz117 ?hyz117 hHeld ?restz117
  case hiz117 => simp only [List.getElem?_toArray, List.getElem?_cons_zero]; exact rfl
  case hqz117 => exact fun _ _ _ h => h
  case hyz117 => refine Or.inl ⟨by rfl, ?_⟩; intro w hSw; (try dsimp only at hSw); go_simp; try with_reducible rfl
  (try simp only [Act.put, List.setIfInBounds_toArray, List.set_cons_zero, List.set_cons_succ])
  refine wpAnyH_take (i := 1) (oi := ?oiz118) (v := ?vz118) ?hiz118 (by kernel_rfl) (by kernel_rfl) (by kernel_rfl) ?hqz118 ?hyz118 hHeld ?restz118
  case hiz118 => simp only [List.getElem?_toArray, List.getElem?_cons_succ, List.getElem?_cons_zero]; exact rfl
  case hqz118 => exact fun _ _ _ h => h
  case hyz118 => refine Or.inl ⟨by rfl, ?_⟩; intro w hSw; have phE1 := ent_grew hSw hE1; have qhE1 := box2_c0 phE1; have rhE1 := box2_c1 phE1; have phE2 := ent_grew hSw hE2; have qhE2 := box2_c0 phE2; have rhE2 := box2_c1 phE2; go_simp; try with_reducible rfl
  (try simp only [Act.put, List.setIfInBounds_toArray, List.set_cons_zero, List.set_cons_succ])
  refine wpAnyH_take (i := 2) (oi := ?oiz119) (v := ?vz119) ?hiz119 (by kernel_rfl) (by kernel_rfl) (by kernel_rfl) ?hqz119 ?hyz119 hHeld ?restz119
  case hiz119 => simp only [List.getElem?_toArray, List.getElem?_cons_succ, List.getElem?_cons_zero]; exact rfl
  case hqz119 => exact fun _ _ _ h => h
  case hyz119 => refine Or.inl ⟨by rfl, ?_⟩; intro w hSw; (try dsimp only at hSw); go_simp; try with_reducible rfl
  (try simp only [Act.put, List.setIfInBounds_toArray, List.set_cons_zero, List.set_cons_succ])
  refine wpAnyH_take (i := 3) (oi := ?oiz120) (v := ?vz120) ?hiz120 (by kernel_rfl) (by kernel_rfl) (by kernel_rfl) ?hqz120 ?hyz120 hHeld ?restz120
  case hiz120 => simp only [List.getElem?_toArray, List.getElem?_cons_succ, List.getElem?_cons_zero]; exact rfl
  case hqz120 => exact fun _ _ _ h => h
  case hyz120 => refine Or.inl ⟨by rfl, ?_⟩; intro w hSw; have phE1 := ent_grew hSw hE1; have qhE1 := box2_c0 phE1; have rhE1 := box2_c1 phE1; have phE2 := ent_grew hSw hE2; have qhE2 := box2_c0 phE2; have rhE2 := box2_c1 phE2; go_simp; try with_reducible rfl
  (try simp only [Act.put, List.setIfInBounds_toArray, List.set_cons_zero, List.set_cons_succ])
  refine wpAnyH_take (i := 4) (oi := ?oiz121) (v := ?vz121) ?hiz121 (by kernel_rfl) (by kernel_rfl) (by kernel_rfl) ?hqz121 ?hyz121 hHeld ?restz121
  case hiz121 => simp only [List.getElem?_toArray, List.getElem?_cons_succ, List.getElem?_cons_zero]; exact rfl
  case hqz121 => exact fun _ _ _ h => h
  case hyz121 => refine Or.inl ⟨by rfl, ?_⟩; intro w hSw; (try dsimp only at hSw); go_simp; try with_reducible rfl
  (try simp only [Act.put, List.setIfInBounds_toArray, List.set_cons_zero, List.set_cons_succ])
  refine wpAnyH_take (i := 5) (oi := ?oiz122) (v := ?vz122) ?hiz122 (by kernel_rfl) (by kernel_rfl) (by kernel_rfl) ?hqz122 ?hyz122 hHeld ?restz122
  case hiz122 => simp only [List.getElem?_toArray, List.getElem?_cons_succ, List.getElem?_cons_zero]; exact rfl
  case hqz122 => exact fun _ _ _ h => h
  case hyz122 => refine Or.inl ⟨by rfl, ?_⟩; intro w hSw; have phE1 := ent_grew hSw hE1; have qhE1 := box2_c0 phE1; have rhE1 := box2_c1 phE1; have phE2 := ent_grew hSw hE2; have qhE2 := box2_c0 phE2; have rhE2 := box2_c1 phE2; go_simp; try with_reducible rfl
  (try simp only [Act.put, List.setIfInBounds_toArray, List.set_cons_zero, List.set_cons_succ])
  refine wpAnyH_ready (rs := [6]) (by kernel_rfl) (by simp) ?_
  refine AllReadyH.cons (o := ?oiz123) ?hiz123 (fun K hK => ?stepz123) AllReadyH.nil
  case hiz123 => simp only [List.getElem?_toArray, List.getElem?_cons_succ, List.getElem?_cons_zero]; exact rfl
  go_simp
  (go_at_call 64; refine (rcmp_at (-1) hc0 (hx.grew hHeld) (hy.grew hHeld) (by omega) (by omega)).mono ?_; rintro e w1 ⟨rfl, hb1⟩)
  refine hK.out _ _ ?hSz123 (fun hHeld' => ?restz123)
  case hSz123 => (try dsimp only); (first | exact (Grew.refl _).drew | exact Grew.call hHeld ‹Below _ _ _›)
  clear hK K hHeld
  have hHeld := hHeld'
  clear hHeld'
  (try simp only [Act.put, List.setIfInBounds_toArray, List.set_cons_zero, List.set_cons_succ])
  refine wpAnyH_take (i := 7) (oi := ?oiz124) (v := ?vz124) ?hiz124 (by kernel_rfl) (by kernel_rfl) (by kernel_rfl) ?hqz124 ?hyz124 hHeld ?restz124
  case hiz124 => simp only [List.getElem?_toArray, List.getElem?_cons_succ, List.getElem?_cons_zero]; exact rfl
  case hqz124 => exact fun _ _ _ h => h
  case hyz124 => refine Or.inl ⟨by rfl, ?_⟩; intro w hSw; (try dsimp only at hSw); go_simp; try with_reducible rfl
  (try simp only [Act.put, List.setIfInBounds_toArray, List.set_cons_zero, List.set_cons_succ])
  refine wpAnyH_take (i := 8) (oi := ?oiz125) (v := ?vz125) ?hiz125 (by kernel_rfl) (by kernel_rfl) (by kernel_rfl) ?hqz125 ?hyz125 hHeld ?restz125
  case hiz125 => simp only [List.getElem?_toArray, List.getElem?_cons_succ, List.getElem?_cons_zero]; exact rfl
  case hqz125 => exact fun _ _ _ h => h
  case hyz125 => refine Or.inl ⟨by rfl, ?_⟩; intro w hSw; (try dsimp only at hSw); go_simp; try with_reducible rfl
  (try simp only [Act.put, List.setIfInBounds_toArray, List.set_cons_zero, List.set_cons_succ])
  refine wpAnyH_done (by kernel_rfl) ?_ _
  have hq9 := hB.trans hHeld
  clear hHeld
  go_wp2
  go_ret
  exact ⟨rfl, hq9⟩

set_option maxRecDepth 100000 in
set_option maxHeartbeats 1600000 in
theorem rzcmp_nn_eq {w : World} {s t : Sl} {x y : Nat} (h : RefS w s x) (h' : RefS w t y) (hn : s.n ≤ 1000000) (hm : t.n ≤ 1000000) (hc : x = y) :
    Calls Try.prog 30 #[.agg #[.int .i64 (-1), .slice s.ao s.n s.c], .agg #[.int .i64 (-1), .slice t.ao t.n t.c]] w fun e w' => e = .returned (.int .i64 (0)) ∧ Below w.heap.size w w' := by
  obtain ⟨hE1, hE2, -⟩ := ents2 w (.cells #[.int .i64 (-1), .slice s.ao s.n s.c] 28) (.cells #[.int .i64 (-1), .slice t.ao t.n t.c] 28)
  have hB := ((Grew.refl w).alloc (.cells #[.int .i64 (-1), .slice s.ao s.n s.c] 28)).alloc (.cells #[.int .i64 (-1), .slice t.ao t.n t.c] 28)
  have hx := h.grew hB
  have hy := h'.grew hB
  have chE1a := box2_c0 hE1
  have chE1b := box2_c1 hE1
  have chE2a := box2_c0 hE2
  have chE2b := box2_c1 hE2
  have hc0 : cmpN x y = 0 := by rw [hc]; exact cmpN_eq y
  go_enter Try.func30, Try.ntmps30
  go_wp2
  generalize (w.alloc (.cells #[.int .i64 (-1), .slice s.ao s.n s.c] 28)).alloc (.cells #[.int .i64 (-1), .slice t.ao t.n t.c] 28) = W at *
  clear chE1a chE1b chE2a chE2b
  refine wp_region_held_drew (S := (fun w' => Grew W w')) (by kernel_rfl) ?hSz126 (fun hHeld => ?restz126)
  case hSz126 => (try dsimp only); (first | exact (Grew.refl _).drew | exact Grew.call hHeld ‹Below _ _ _›)
  refine wpAnyH_take (i := 0) (oi := ?oiz127) (v := ?vz127) ?hiz127 (by kernel_rfl) (by kernel_rfl) (by kernel_rfl) ?hqz127 ?hyz127 hHeld ?restz127
  case hiz127 => simp only [List.getElem?_toArray, List.getElem?_cons_zero]; exact rfl
  case hqz127 => exact fun _ _ _ h => h
  case hyz127 => refine Or.inl ⟨by rfl, ?_⟩; intro w hSw; (try dsimp only at hSw); go_simp; try with_reducible rfl
  (try simp only [Act.put, List.setIfInBounds_toArray, List.set_cons_zero, List.set_cons_succ])
  refine wpAnyH_take (i := 1) (oi := ?oiz128) (v := ?vz128) ?hiz128 (by kernel_rfl) (by kernel_rfl) (by kernel_rfl) ?hqz128 ?hyz128 hHeld ?restz128
  case hiz128 => simp only [List.getElem?_toArray, List.getElem?_cons_succ, List.getElem?_cons_zero]; exact rfl
  case hqz128 => exact fun _ _ _ h => h
  case hyz128 => refine Or.inl ⟨by rfl, ?_⟩; intro w hSw; have phE1 := ent_grew hSw hE1; have qhE1 := box2_c0 phE1; have rhE1 := box2_c1 phE1; have phE2 := ent_grew hSw hE2; have qhE2 := box2_c0 phE2; have rhE2 := box2_c1 phE2; go_simp; try with_reducible rfl
  (try simp only [Act.put, List.setIfInBounds_toArray, List.set_cons_zero, List.set_cons_succ])
  refine wpAnyH_take (i := 2) (oi := ?oiz129) (v := ?vz129) ?hiz129 (by kernel_rfl) (by kernel_rfl) (by kernel_rfl) ?hqz129 ?hyz129 hHeld ?restz129
  case hiz129 => simp only [List.getElem?_toArray, List.getElem?_cons_succ, List.getElem?_cons_zero]; exact rfl
  case hqz129 => exact fun _ _ _ h => h
  case hyz129 => refine Or.inl ⟨by rfl, ?_⟩; intro w hSw; (try dsimp only at hSw); go_simp; try with_reducible rfl
  (try simp only [Act.put, List.setIfInBounds_toArray, List.set_cons_zero, List.set_cons_succ])
  refine wpAnyH_take (i := 3) (oi := ?oiz130) (v := ?vz130) ?hiz130 (by kernel_rfl) (by kernel_rfl) (by kernel_rfl) ?hqz130 ?hyz130 hHeld ?restz130
  case hiz130 => simp only [List.getElem?_toArray, List.getElem?_cons_succ, List.getElem?_cons_zero]; exact rfl
  case hqz130 => exact fun _ _ _ h => h
  case hyz130 => refine Or.inl ⟨by rfl, ?_⟩; intro w hSw; have phE1 := ent_grew hSw hE1; have qhE1 := box2_c0 phE1; have rhE1 := box2_c1 phE1; have phE2 := ent_grew hSw hE2; have qhE2 := box2_c0 phE2; have rhE2 := box2_c1 phE2; go_simp; try with_reducible rfl
  (try simp only [Act.put, List.setIfInBounds_toArray, List.set_cons_zero, List.set_cons_succ])
  refine wpAnyH_take (i := 4) (oi := ?oiz131) (v := ?vz131) ?hiz131 (by kernel_rfl) (by kernel_rfl) (by kernel_rfl) ?hqz131 ?hyz131 hHeld ?restz131
  case hiz131 => simp only [List.getElem?_toArray, List.getElem?_cons_succ, List.getElem?_cons_zero]; exact rfl
  case hqz131 => exact fun _ _ _ h => h
  case hyz131 => refine Or.inl ⟨by rfl, ?_⟩; intro w hSw; (try dsimp only at hSw); go_simp; try with_reducible rfl
  (try simp only [Act.put, List.setIfInBounds_toArray, List.set_cons_zero, List.set_cons_succ])
  refine wpAnyH_take (i := 5) (oi := ?oiz132) (v := ?vz132) ?hiz132 (by kernel_rfl) (by kernel_rfl) (by kernel_rfl) ?hqz132 ?hyz132 hHeld ?restz132
  case hiz132 => simp only [List.getElem?_toArray, List.getElem?_cons_succ, List.getElem?_cons_zero]; exact rfl
  case hqz132 => exact fun _ _ _ h => h
  case hyz132 => refine Or.inl ⟨by rfl, ?_⟩; intro w hSw; have phE1 := ent_grew hSw hE1; have qhE1 := box2_c0 phE1; have rhE1 := box2_c1 phE1; have phE2 := ent_grew hSw hE2; have qhE2 := box2_c0 phE2; have rhE2 := box2_c1 phE2; go_simp; try with_reducible rfl
  (try simp only [Act.put, List.setIfInBounds_toArray, List.set_cons_zero, List.set_cons_succ])
  refine wpAnyH_ready (rs := [6]) (by kernel_rfl) (by simp) ?_
  refine AllReadyH.cons (o := ?oiz133) ?hiz133 (fun K hK => ?stepz133) AllReadyH.nil
  case hiz133 => simp only [List.getElem?_toArray, List.getElem?_cons_succ, List.getElem?_cons_zero]; exact rfl
  go_simp
  (go_at_call 64; refine (rcmp_at (0) hc0 (hx.grew hHeld) (hy.grew hHeld) (by omega) (by omega)).mono ?_; rintro e w1 ⟨rfl, hb1⟩)
  refine hK.out _ _ ?hSz133 (fun hHeld' => ?restz133)
  case hSz133 => (try dsimp only); (first | exact (Grew.refl _).drew | exact Grew.call hHeld ‹Below _ _ _›)
  clear hK K hHeld
  have hHeld := hHeld'
  clear hHeld'
  (try simp only [Act.put, List.setIfInBounds_toArray, List.set_cons_zero, List.set_cons_succ])
  refine wpAnyH_take (i := 7) (oi := ?oiz134) (v := ?vz134) ?hiz134 (by kernel_rfl) (by kernel_rfl) (by kernel_rfl) ?hqz134 ?hyz134 hHeld ?restz134
  case hiz134 => simp only [List.getElem?_toArray, List.getElem?_cons_succ, List.getElem?_cons_zero]; exact rfl
  case hqz134 => exact fun _ _ _ h => h
  case hyz134 => refine Or.inl ⟨by rfl, ?_⟩; intro w hSw; (try dsimp only at hSw); go_simp; try with_reducible rfl
  (try simp only [Act.put, List.setIfInBounds_toArray, List.set_cons_zero, List.set_cons_succ])
  refine wpAnyH_take (i := 8) (oi := ?oiz135) (v := ?vz135) ?hiz135 (by kernel_rfl) (by kernel_rfl) (by kernel_rfl) ?hqz135 ?hyz135 hHeld ?restz135
  case hiz135 => simp only [List.getElem?_toArray, List.getElem?_cons_succ, List.getElem?_cons_zero]; exact rfl
  case hqz135 => exact fun _ _ _ h => h
  case hyz135 => refine Or.inl ⟨by rfl, ?_⟩; intro w hSw; (try dsimp only at hSw); go_simp; try with_reducible rfl
  (try simp only [Act.put, List.setIfInBounds_toArray, List.set_cons_zero, List.set_cons_succ])
  refine wpAnyH_done (by kernel_rfl) ?_ _
  have hq9 := hB.trans hHeld
  clear hHeld
  go_wp2
  go_ret
  exact ⟨rfl, hq9⟩

set_option maxRecDepth 100000 in
set_option maxHeartbeats 1600000 in
theorem rzcmp_nn_gt {w : World} {s t : Sl} {x y : Nat} (h : RefS w s x) (h' : RefS w t y) (hn : s.n ≤ 1000000) (hm : t.n ≤ 1000000) (hc : y < x) :
    Calls Try.prog 30 #[.agg #[.int .i64 (-1), .slice s.ao s.n s.c], .agg #[.int .i64 (-1), .slice t.ao t.n t.c]] w fun e w' => e = .returned (.int .i64 (-1)) ∧ Below w.heap.size w w' := by
  obtain ⟨hE1, hE2, -⟩ := ents2 w (.cells #[.int .i64 (-1), .slice s.ao s.n s.c] 28) (.cells #[.int .i64 (-1), .slice t.ao t.n t.c] 28)
  have hB := ((Grew.refl w).alloc (.cells #[.int .i64 (-1), .slice s.ao s.n s.c] 28)).alloc (.cells #[.int .i64 (-1), .slice t.ao t.n t.c] 28)
  have hx := h.grew hB
  have hy := h'.grew hB
  have chE1a := box2_c0 hE1
  have chE1b := box2_c1 hE1
  have chE2a := box2_c0 hE2
  have chE2b := box2_c1 hE2
  have hc0 : cmpN x y = 1 := cmpN_gt hc
  go_enter Try.func30, Try.ntmps30
  go_wp2
  generalize (w.alloc (.cells #[.int .i64 (-1), .slice s.ao s.n s.c] 28)).alloc (.cells #[.int .i64 (-1), .slice t.ao t.n t.c] 28) = W at *
  clear chE1a chE1b chE2a chE2b
  refine wp_region_held_drew (S := (fun w' => Grew W w')) (by kernel_rfl) ?hSz136 (fun hHeld => ?restz136)
  case hSz136 => (try dsimp only); (first | exact (Grew.refl _).drew | exact Grew.call hHeld ‹Below _ _ _›)
  refine wpAnyH_take (i := 0) (oi := ?oiz137) (v := ?vz137) ?hiz137 (by kernel_rfl) (by kernel_rfl) (by kernel_rfl) ?hqz137 ?hyz137 hHeld ?restz137
  case hiz137 => simp only [List.getElem?_toArray, List.getElem?_cons_zero]; exact rfl
  case hqz137 => exact fun _ _ _ h => h
  case hyz137 => refine Or.inl ⟨by rfl, ?_⟩; intro w hSw; (try dsimp only at hSw); go_simp; try with_reducible rfl
  (try simp only [Act.put, List.setIfInBounds_toArray, List.set_cons_zero, List.set_cons_succ])
  refine wpAnyH_take (i := 1) (oi := ?oiz138) (v := ?vz138) ?hiz138 (by kernel_rfl) (by kernel_rfl) (by kernel_rfl) ?hqz138 ?hyz138 hHeld ?restz138
  case hiz138 => simp only [List.getElem?_toArray, List.getElem?_cons_succ, List.getElem?_cons_zero]; exact rfl
  case hqz138 => exact fun _ _ _ h => h
  case hyz138 => refine Or.inl ⟨by rfl, ?_⟩; intro w hSw; have phE1 := ent_grew hSw hE1; have qhE1 := box2_c0 phE1; have rhE1 := box2_c1 phE1; have phE2 := ent_grew hSw hE2; have qhE2 := box2_c0 phE2; have rhE2 := box2_c1 phE2; go_simp; try with_reducible rfl
  (try simp only [Act.put, List.setIfInBounds_toArray, List.set_cons_zero, List.set_cons_succ])
  refine wpAnyH_take (i := 2) (oi := ?oiz139) (v := ?vz139) ?hiz139 (by kernel_rfl) (by kernel_rfl) (by kernel_rfl) ?hqz139 ?hyz139 hHeld ?restz139
  case hiz139 => simp only [List.getElem?_toArray, List.getElem?_cons_succ, List.getElem?_cons_zero]; exact rfl
  case hqz139 => exact fun _ _ _ h => h
  case hyz139 => refine Or.inl ⟨by rfl, ?_⟩; intro w hSw; (try dsimp only at hSw); go_simp; try with_reducible rfl
  (try simp only [Act.put, List.setIfInBounds_toArray, List.set_cons_zero, List.set_cons_succ])
  refine wpAnyH_take (i := 3) (oi := ?oiz140) (v := ?vz140) ?hiz140 (by kernel_rfl) (by kernel_rfl) (by kernel_rfl) ?hqz140 ?hyz140 hHeld ?restz140
  case hiz140 => simp only [List.getElem?_toArray, List.getElem?_cons_succ, List.getElem?_cons_zero]; exact rfl
  case hqz140 => exact fun _ _ _ h => h
  case hyz140 => refine Or.inl ⟨by rfl, ?_⟩; intro w hSw; have phE1 := ent_grew hSw hE1; have qhE1 := box2_c0 phE1; have rhE1 := box2_c1 phE1; have phE2 := ent_grew hSw hE2; have qhE2 := box2_c0 phE2; have rhE2 := box2_c1 phE2; go_simp; try with_reducible rfl
  (try simp only [Act.put, List.setIfInBounds_toArray, List.set_cons_zero, List.set_cons_succ])
  refine wpAnyH_take (i := 4) (oi := ?oiz141) (v := ?vz141) ?hiz141 (by kernel_rfl) (by kernel_rfl) (by kernel_rfl) ?hqz141 ?hyz141 hHeld ?restz141
  case hiz141 => simp only [List.getElem?_toArray, List.getElem?_cons_succ, List.getElem?_cons_zero]; exact rfl
  case hqz141 => exact fun _ _ _ h => h
  case hyz141 => refine Or.inl ⟨by rfl, ?_⟩; intro w hSw; (try dsimp only at hSw); go_simp; try with_reducible rfl
  (try simp only [Act.put, List.setIfInBounds_toArray, List.set_cons_zero, List.set_cons_succ])
  refine wpAnyH_take (i := 5) (oi := ?oiz142) (v := ?vz142) ?hiz142 (by kernel_rfl) (by kernel_rfl) (by kernel_rfl) ?hqz142 ?hyz142 hHeld ?restz142
  case hiz142 => simp only [List.getElem?_toArray, List.getElem?_cons_succ, List.getElem?_cons_zero]; exact rfl
  case hqz142 => exact fun _ _ _ h => h
  case hyz142 => refine Or.inl ⟨by rfl, ?_⟩; intro w hSw; have phE1 := ent_grew hSw hE1; have qhE1 := box2_c0 phE1; have rhE1 := box2_c1 phE1; have phE2 := ent_grew hSw hE2; have qhE2 := box2_c0 phE2; have rhE2 := box2_c1 phE2; go_simp; try with_reducible rfl
  (try simp only [Act.put, List.setIfInBounds_toArray, List.set_cons_zero, List.set_cons_succ])
  refine wpAnyH_ready (rs := [6]) (by kernel_rfl) (by simp) ?_
  refine AllReadyH.cons (o := ?oiz143) ?hiz143 (fun K hK => ?stepz143) AllReadyH.nil
  case hiz143 => simp only [List.getElem?_toArray, List.getElem?_cons_succ, List.getElem?_cons_zero]; exact rfl
  go_simp
  (go_at_call 64; refine (rcmp_at (1) hc0 (hx.grew hHeld) (hy.grew hHeld) (by omega) (by omega)).mono ?_; rintro e w1 ⟨rfl, hb1⟩)
  refine hK.out _ _ ?hSz143 (fun hHeld' => ?restz143)
  case hSz143 => (try dsimp only); (first | exact (Grew.refl _).drew | exact Grew.call hHeld ‹Below _ _ _›)
  clear hK K hHeld
  have hHeld := hHeld'
  clear hHeld'
  (try simp only [Act.put, List.setIfInBounds_toArray, List.set_cons_zero, List.set_cons_succ])
  refine wpAnyH_take (i := 7) (oi := ?oiz144) (v := ?vz144) ?hiz144 (by kernel_rfl) (by kernel_rfl) (by kernel_rfl) ?hqz144 ?hyz144 hHeld ?restz144
  case hiz144 => simp only [List.getElem?_toArray, List.getElem?_cons_succ, List.getElem?_cons_zero]; exact rfl
  case hqz144 => exact fun _ _ _ h => h
  case hyz144 => refine Or.inl ⟨by rfl, ?_⟩; intro w hSw; (try dsimp only at hSw); go_simp; try with_reducible rfl
  (try simp only [Act.put, List.setIfInBounds_toArray, List.set_cons_zero, List.set_cons_succ])
  refine wpAnyH_take (i := 8) (oi := ?oiz145) (v := ?vz145) ?hiz145 (by kernel_rfl) (by kernel_rfl) (by kernel_rfl) ?hqz145 ?hyz145 hHeld ?restz145
  case hiz145 => simp only [List.getElem?_toArray, List.getElem?_cons_succ, List.getElem?_cons_zero]; exact rfl
  case hqz145 => exact fun _ _ _ h => h
  case hyz145 => refine Or.inl ⟨by rfl, ?_⟩; intro w hSw; (try dsimp only at hSw); go_simp; try with_reducible rfl
  (try simp only [Act.put, List.setIfInBounds_toArray, List.set_cons_zero, List.set_cons_succ])
  refine wpAnyH_done (by kernel_rfl) ?_ _
  have hq9 := hB.trans hHeld
  clear hHeld
  go_wp2
  go_ret
  exact ⟨rfl, hq9⟩

set_option maxRecDepth 100000 in
set_option maxHeartbeats 1600000 in
theorem rzmul_nz {w : World} {s t : Sl} {x y : Nat} (h : RefS w s x) (h' : RefS w t y) (hn : s.n ≤ 1000000) (hm : t.n ≤ 1000000) (hx0 : 0 < x) (hy0 : y = 0) :
    Calls Try.prog 32 #[.agg #[.int .i64 (-1), .slice s.ao s.n s.c], .agg #[.int .i64 0, .slice t.ao t.n t.c]] w fun e w' => ∃ u : Sl, e = .returned (.agg #[.int .i64 0, .slice u.ao u.n u.c]) ∧ RefS w' u (x * y) ∧ u.n ≤ s.n + t.n ∧ Below w.heap.size w w' := by
  obtain ⟨hE1, hE2, hE3, -⟩ := ents3 w (.cells #[.int .i64 (-1), .slice s.ao s.n s.c] 28) (.cells #[.int .i64 0, .slice t.ao t.n t.c] 28) (.cells #[.int .i64 0, .slice none 0 0] 28)
  have hB := (((Grew.refl w).alloc (.cells #[.int .i64 (-1), .slice s.ao s.n s.c] 28)).alloc (.cells #[.int .i64 0, .slice t.ao t.n t.c] 28)).alloc (.cells #[.int .i64 0, .slice none 0 0] 28)
  have hx := h.grew hB
  have hy := h'.grew hB
  have chE1a := box2_c0 hE1
  have chE1b := box2_c1 hE1
  have chE2a := box2_c0 hE2
  have chE2b := box2_c1 hE2
  have chE3a := box2_c0 hE3
  have chE3b := box2_c1 hE3
  have fhE3a := box2_f hE3 0
  have fhE3b := box2_f hE3 1
  go_enter Try.func32, Try.ntmps32
  go_wp2
  generalize ((w.alloc (.cells #[.int .i64 (-1), .slice s.ao s.n s.c] 28)).alloc (.cells #[.int .i64 0, .slice t.ao t.n t.c] 28)).alloc (.cells #[.int .i64 0, .slice none 0 0] 28) = W at *
  have hw1 : IntKind.i64.wrap 1 = 1 := by decide
  have hwn : IntKind.i64.wrap (-1) = -1 := by decide
  have hxy : x * y = 0 := by first | (rw [hx0, Nat.zero_mul]; done) | (rw [hy0, Nat.mul_zero]; done)
  clear chE1a chE1b chE2a chE2b chE3a chE3b fhE3a fhE3b
  have hF0 := Fr.init hE3 hB
  refine wp_region_held_drew (S := (fun w' => Fr w W (w.heap.size + 1 + 1) 28 w')) (by kernel_rfl) ?hSz146 (fun hHeld => ?restz146)
  case hSz146 => (try dsimp only); (first | exact hF0.drew | exact hHeld.call ‹Below _ _ _›)
  refine wpAnyH_take (i := 0) (oi := ?oiz147) (v := ?vz147) ?hiz147 (by kernel_rfl) (by kernel_rfl) (by kernel_rfl) ?hqz147 ?hyz147 hHeld ?restz147
  case hiz147 => simp only [List.getElem?_toArray, List.getElem?_cons_zero]; exact rfl
  case hqz147 => exact fun _ _ _ h => h
  case hyz147 => refine Or.inl ⟨by rfl, ?_⟩; intro w hSw; (try dsimp only at hSw); go_simp; try with_reducible rfl
  (try simp only [Act.put, List.setIfInBounds_toArray, List.set_cons_zero, List.set_cons_succ])
  refine wpAnyH_take (i := 1) (oi := ?oiz148) (v := ?vz148) ?hiz148 (by kernel_rfl) (by kernel_rfl) (by kernel_rfl) ?hqz148 ?hyz148 hHeld ?restz148
  case hiz148 => simp only [List.getElem?_toArray, List.getElem?_cons_succ, List.getElem?_cons_zero]; exact rfl
  case hqz148 => exact fun _ _ _ h => h
  case hyz148 => refine Or.inl ⟨by rfl, ?_⟩; intro w hSw; have phE1 := hSw.ent hE1 (by omega); have qhE1 := box2_c0 phE1; have rhE1 := box2_c1 phE1; have phE2 := hSw.ent hE2 (by omega); have qhE2 := box2_c0 phE2; have rhE2 := box2_c1 phE2; go_simp; try with_reducible rfl
  (try simp only [Act.put, List.setIfInBounds_toArray, List.set_cons_zero, List.set_cons_succ])
  refine wpAnyH_take (i := 2) (oi := ?oiz149) (v := ?vz149) ?hiz149 (by kernel_rfl) (by kernel_rfl) (by kernel_rfl) ?hqz149 ?hyz149 hHeld ?restz149
  case hiz149 => simp only [List.getElem?_toArray, List.getElem?_cons_succ, List.getElem?_cons_zero]; exact rfl
  case hqz149 => exact fun _ _ _ h => h
  case hyz149 => refine Or.inl ⟨by rfl, ?_⟩; intro w hSw; (try dsimp only at hSw); go_simp; try with_reducible rfl
  (try simp only [Act.put, List.setIfInBounds_toArray, List.set_cons_zero, List.set_cons_succ])
  refine wpAnyH_take (i := 3) (oi := ?oiz150) (v := ?vz150) ?hiz150 (by kernel_rfl) (by kernel_rfl) (by kernel_rfl) ?hqz150 ?hyz150 hHeld ?restz150
  case hiz150 => simp only [List.getElem?_toArray, List.getElem?_cons_succ, List.getElem?_cons_zero]; exact rfl
  case hqz150 => exact fun _ _ _ h => h
  case hyz150 => refine Or.inl ⟨by rfl, ?_⟩; intro w hSw; have phE1 := hSw.ent hE1 (by omega); have qhE1 := box2_c0 phE1; have rhE1 := box2_c1 phE1; have phE2 := hSw.ent hE2 (by omega); have qhE2 := box2_c0 phE2; have rhE2 := box2_c1 phE2; go_simp; try with_reducible rfl
  (try simp only [Act.put, List.setIfInBounds_toArray, List.set_cons_zero, List.set_cons_succ])
  refine wpAnyH_take (i := 4) (oi := ?oiz151) (v := ?vz151) ?hiz151 (by kernel_rfl) (by kernel_rfl) (by kernel_rfl) ?hqz151 ?hyz151 hHeld ?restz151
  case hiz151 => simp only [List.getElem?_toArray, List.getElem?_cons_succ, List.getElem?_cons_zero]; exact rfl
  case hqz151 => exact fun _ _ _ h => h
  case hyz151 => refine Or.inl ⟨by rfl, ?_⟩; intro w hSw; (try dsimp only at hSw); go_simp; try with_reducible rfl
  (try simp only [Act.put, List.setIfInBounds_toArray, List.set_cons_zero, List.set_cons_succ])
  refine wpAnyH_take (i := 5) (oi := ?oiz152) (v := ?vz152) ?hiz152 (by kernel_rfl) (by kernel_rfl) (by kernel_rfl) ?hqz152 ?hyz152 hHeld ?restz152
  case hiz152 => simp only [List.getElem?_toArray, List.getElem?_cons_succ, List.getElem?_cons_zero]; exact rfl
  case hqz152 => exact fun _ _ _ h => h
  case hyz152 => refine Or.inl ⟨by rfl, ?_⟩; intro w hSw; (try dsimp only at hSw); go_simp; try with_reducible rfl
  (try simp only [Act.put, List.setIfInBounds_toArray, List.set_cons_zero, List.set_cons_succ])
  refine wpAnyH_take (i := 6) (oi := ?oiz153) (v := ?vz153) ?hiz153 (by kernel_rfl) (by kernel_rfl) (by kernel_rfl) ?hqz153 ?hyz153 hHeld ?restz153
  case hiz153 => simp only [List.getElem?_toArray, List.getElem?_cons_succ, List.getElem?_cons_zero]; exact rfl
  case hqz153 => exact fun _ _ _ h => h
  case hyz153 => refine Or.inl ⟨by rfl, ?_⟩; intro w hSw; have phE1 := hSw.ent hE1 (by omega); have qhE1 := box2_c0 phE1; have rhE1 := box2_c1 phE1; have phE2 := hSw.ent hE2 (by omega); have qhE2 := box2_c0 phE2; have rhE2 := box2_c1 phE2; go_simp; try with_reducible rfl
  (try simp only [Act.put, List.setIfInBounds_toArray, List.set_cons_zero, List.set_cons_succ])
  refine wpAnyH_take (i := 7) (oi := ?oiz154) (v := ?vz154) ?hiz154 (by kernel_rfl) (by kernel_rfl) (by kernel_rfl) ?hqz154 ?hyz154 hHeld ?restz154
  case hiz154 => simp only [List.getElem?_toArray, List.getElem?_cons_succ, List.getElem?_cons_zero]; exact rfl
  case hqz154 => exact fun _ _ _ h => h
  case hyz154 => refine Or.inl ⟨by rfl, ?_⟩; intro w hSw; (try dsimp only at hSw); go_simp; try with_reducible rfl
  (try simp only [Act.put, List.setIfInBounds_toArray, List.set_cons_zero, List.set_cons_succ])
  refine wpAnyH_take (i := 8) (oi := ?oiz155) (v := ?vz155) ?hiz155 (by kernel_rfl) (by kernel_rfl) (by kernel_rfl) ?hqz155 ?hyz155 hHeld ?restz155
  case hiz155 => simp only [List.getElem?_toArray, List.getElem?_cons_succ, List.getElem?_cons_zero]; exact rfl
  case hqz155 => exact fun _ _ _ h => h
  case hyz155 => refine Or.inl ⟨by rfl, ?_⟩; intro w hSw; have phE1 := hSw.ent hE1 (by omega); have qhE1 := box2_c0 phE1; have rhE1 := box2_c1 phE1; have phE2 := hSw.ent hE2 (by omega); have qhE2 := box2_c0 phE2; have rhE2 := box2_c1 phE2; go_simp; try with_reducible rfl
  (try simp only [Act.put, List.setIfInBounds_toArray, List.set_cons_zero, List.set_cons_succ])
  refine wpAnyH_ready (rs := [9]) (by kernel_rfl) (by simp) ?_
  refine AllReadyH.cons (o := ?oiz156) ?hiz156 (fun K hK => ?stepz156) AllReadyH.nil
  case hiz156 => simp only [List.getElem?_toArray, List.getElem?_cons_succ, List.getElem?_cons_zero]; exact rfl
  go_simp
  (go_at_call 75; refine (rmul_spec (hHeld.ref hx) (hHeld.ref hy) (by omega) (by omega)).mono ?_; rintro e w1 ⟨u, rfl, hu, hun, hb1⟩)
  refine hK.out _ _ ?hSz156 (fun hHeld' => ?restz156)
  case hSz156 => (try dsimp only); (first | exact hF0.drew | exact hHeld.call ‹Below _ _ _›)
  clear hK K hHeld
  have hHeld := hHeld'
  clear hHeld'
  (try simp only [Act.put, List.setIfInBounds_toArray, List.set_cons_zero, List.set_cons_succ])
  refine wpAnyH_ready (rs := [10]) (by kernel_rfl) (by simp) ?_
  refine AllReadyH.cons (o := ?oiz157) ?hiz157 (fun K hK => ?stepz157) AllReadyH.nil
  case hiz157 => simp only [List.getElem?_toArray, List.getElem?_cons_succ, List.getElem?_cons_zero]; exact rfl
  go_simp
  (go_at_call 47; refine (rmade_zero hu (by omega) _ (by first | rfl | assumption | omega)).mono ?_; rintro e w2 ⟨rfl, hb2⟩)
  refine hK.out _ _ ?hSz157 (fun hHeld' => ?restz157)
  case hSz157 => (try dsimp only); (first | exact hF0.drew | exact hHeld.call ‹Below _ _ _›)
  clear hK K hHeld
  have hHeld := hHeld'
  clear hHeld'
  (try simp only [Act.put, List.setIfInBounds_toArray, List.set_cons_zero, List.set_cons_succ])
  refine wpAnyH_ready (rs := [11]) (by kernel_rfl) (by simp) ?_
  refine AllReadyH.cons (o := ?oiz158) ?hiz158 (fun K hK => ?stepz158) AllReadyH.nil
  case hiz158 => simp only [List.getElem?_toArray, List.getElem?_cons_succ, List.getElem?_cons_zero]; exact rfl
  obtain ⟨v0, b0, hR⟩ := hHeld.res; have c0 := box2_c0 hR; have c1 := box2_c1 hR; have f0 := box2_f hR 0; have f1 := box2_f hR 1; go_simp
  refine hK.out _ _ ?hSz158 (fun hHeld' => ?restz158)
  case hSz158 => (try dsimp only); exact hHeld.set2 (by decide) (by omega) _ _
  clear hK K hHeld
  have hHeld := hHeld'
  clear hHeld'
  (try simp only [Act.put, List.setIfInBounds_toArray, List.set_cons_zero, List.set_cons_succ])
  refine wpAnyH_done (by kernel_rfl) ?_ _
  have hq := box2_set hR (.int .i64 0) (.slice none 0 0)
  have hq0 := box2_c0 hq
  have hq1 := box2_c1 hq
  have hq9 := hHeld.below
  have hu2 := (RefS.nil w2 none 0 (by omega)).kp ((Kp.refl _).set2 hR (by decide) (.int .i64 0) (.slice none 0 0))
  have hz0 : x * y = 0 := by first | rfl | assumption | omega
  clear hHeld hq hR c0 c1 f0 f1
  generalize (w2.setCell ⟨w.heap.size + 1 + 1, 0, none⟩ (.int .i64 0)).setCell ⟨w.heap.size + 1 + 1, 1, none⟩ (.slice none 0 0) = W9 at *
  go_wp2
  refine bodyPost_ret (v := .agg #[.int .i64 0, .slice none 0 0]) (by simp [results, Try.results32, go_sem, hq0, hq1]) rfl ⟨⟨none, 0, 0⟩, rfl, (by rw [hz0]; exact hu2), Nat.zero_le _, hq9⟩

set_option maxRecDepth 100000 in
set_option maxHeartbeats 1600000 in
theorem rzadd_nz {w : World} {s t : Sl} {x y : Nat} (h : RefS w s x) (h' : RefS w t y) (hn : s.n ≤ 1000000) (hm : t.n ≤ 1000000) (hx0 : 0 < x) (hy0 : y = 0) :
    Calls Try.prog 18 #[.agg #[.int .i64 (-1), .slice s.ao s.n s.c], .agg #[.int .i64 0, .slice t.ao t.n t.c]] w fun e w' => ∃ u : Sl, e = .returned (.agg #[.int .i64 (-1), .slice u.ao u.n u.c]) ∧ RefS w' u (x) ∧ u.n ≤ max s.n t.n + 1 ∧ Below w.heap.size w w' := by
  obtain ⟨hE1, hE2, hE3, -⟩ := ents3 w (.cells #[.int .i64 (-1), .slice s.ao s.n s.c] 28) (.cells #[.int .i64 0, .slice t.ao t.n t.c] 28) (.cells #[.int .i64 0, .slice none 0 0] 28)
  have hB := (((Grew.refl w).alloc (.cells #[.int .i64 (-1), .slice s.ao s.n s.c] 28)).alloc (.cells #[.int .i64 0, .slice t.ao t.n t.c] 28)).alloc (.cells #[.int .i64 0, .slice none 0 0] 28)
  have hx := h.grew hB
  have hy := h'.grew hB
  have chE1a := box2_c0 hE1
  have chE1b := box2_c1 hE1
  have chE2a := box2_c0 hE2
  have chE2b := box2_c1 hE2
  have chE3a := box2_c0 hE3
  have chE3b := box2_c1 hE3
  have fhE3a := box2_f hE3 0
  have fhE3b := box2_f hE3 1
  go_enter Try.func18, Try.ntmps18
  go_wp2
  have hq9 := hB
  have hR9 := hx
  exact bodyPost_ret (v := .agg #[.int .i64 (-1), .slice s.ao s.n s.c]) (by simp [results, Try.results18, go_sem]) rfl ⟨s, rfl, RefS.kp (h) (((((Kp.refl w).alloc _).alloc _).alloc _)), by omega, ((((Grew.refl w).alloc _).alloc _).alloc _)⟩

set_option maxRecDepth 100000 in
set_option maxHeartbeats 1600000 in
theorem rzcmp_nz {w : World} (s t : Sl) :
    Calls Try.prog 30 #[.agg #[.int .i64 (-1), .slice s.ao s.n s.c], .agg #[.int .i64 0, .slice t.ao t.n t.c]] w fun e w' => e = .returned (.int .i64 (-1)) ∧ Below w.heap.size w w' := by
  obtain ⟨hE1, hE2, -⟩ := ents2 w (.cells #[.int .i64 (-1), .slice s.ao s.n s.c] 28) (.cells #[.int .i64 0, .slice t.ao t.n t.c] 28)
  have hB := ((Grew.refl w).alloc (.cells #[.int .i64 (-1), .slice s.ao s.n s.c] 28)).alloc (.cells #[.int .i64 0, .slice t.ao t.n t.c] 28)
  have chE1a := box2_c0 hE1
  have chE1b := box2_c1 hE1
  have chE2a := box2_c0 hE2
  have chE2b := box2_c1 hE2
  go_enter Try.func30, Try.ntmps30
  go_wp2
  generalize (w.alloc (.cells #[.int .i64 (-1), .slice s.ao s.n s.c] 28)).alloc (.cells #[.int .i64 0, .slice t.ao t.n t.c] 28) = W at *
  go_ret
  exact ⟨rfl, hB⟩

set_option maxRecDepth 100000 in
set_option maxHeartbeats 1600000 in
theorem rzmul_np {w : World} {s t : Sl} {x y : Nat} (h : RefS w s x) (h' : RefS w t y) (hn : s.n ≤ 1000000) (hm : t.n ≤ 1000000) (hx0 : 0 < x) (hy0 : 0 < y) :
    Calls Try.prog 32 #[.agg #[.int .i64 (-1), .slice s.ao s.n s.c], .agg #[.int .i64 1, .slice t.ao t.n t.c]] w fun e w' => ∃ u : Sl, e = .returned (.agg #[.int .i64 (-1), .slice u.ao u.n u.c]) ∧ RefS w' u (x * y) ∧ u.n ≤ s.n + t.n ∧ Below w.heap.size w w' := by
  obtain ⟨hE1, hE2, hE3, -⟩ := ents3 w (.cells #[.int .i64 (-1), .slice s.ao s.n s.c] 28) (.cells #[.int .i64 1, .slice t.ao t.n t.c] 28) (.cells #[.int .i64 0, .slice none 0 0] 28)
  have hB := (((Grew.refl w).alloc (.cells #[.int .i64 (-1), .slice s.ao s.n s.c] 28)).alloc (.cells #[.int .i64 1, .slice t.ao t.n t.c] 28)).alloc (.cells #[.int .i64 0, .slice none 0 0] 28)
  have hx := h.grew hB
  have hy := h'.grew hB
  have chE1a := box2_c0 hE1
  have chE1b := box2_c1 hE1
  have chE2a := box2_c0 hE2
  have chE2b := box2_c1 hE2
  have chE3a := box2_c0 hE3
  have chE3b := box2_c1 hE3
  have fhE3a := box2_f hE3 0
  have fhE3b := box2_f hE3 1
  go_enter Try.func32, Try.ntmps32
  go_wp2
  generalize ((w.alloc (.cells #[.int .i64 (-1), .slice s.ao s.n s.c] 28)).alloc (.cells #[.int .i64 1, .slice t.ao t.n t.c] 28)).alloc (.cells #[.int .i64 0, .slice none 0 0] 28) = W at *
  have hw1 : IntKind.i64.wrap 1 = 1 := by decide
  have hwn : IntKind.i64.wrap (-1) = -1 := by decide
  clear chE1a chE1b chE2a chE2b chE3a chE3b fhE3a fhE3b
  have hF0 := Fr.init hE3 hB
  refine wp_region_held_drew (S := (fun w' => Fr w W (w.heap.size + 1 + 1) 28 w')) (by kernel_rfl) ?hSz159 (fun hHeld => ?restz159)
  case hSz159 => (try dsimp only); (first | exact hF0.drew | exact hHeld.call ‹Below _ _ _›)
  refine wpAnyH_take (i := 0) (oi := ?oiz160) (v := ?vz160) ?hiz160 (by kernel_rfl) (by kernel_rfl) (by kernel_rfl) ?hqz160 ?hyz160 hHeld ?restz160
  case hiz160 => simp only [List.getElem?_toArray, List.getElem?_cons_zero]; exact rfl
  case hqz160 => exact fun _ _ _ h => h
  case hyz160 => refine Or.inl ⟨by rfl, ?_⟩; intro w hSw; (try dsimp only at hSw); go_simp; try with_reducible rfl
  (try simp only [Act.put, List.setIfInBounds_toArray, List.set_cons_zero, List.set_cons_succ])
  refine wpAnyH_take (i := 1) (oi := ?oiz161) (v := ?vz161) ?hiz161 (by kernel_rfl) (by kernel_rfl) (by kernel_rfl) ?hqz161 ?hyz161 hHeld ?restz161
  case hiz161 => simp only [List.getElem?_toArray, List.getElem?_cons_succ, List.getElem?_cons_zero]; exact rfl
  case hqz161 => exact fun _ _ _ h => h
  case hyz161 => refine Or.inl ⟨by rfl, ?_⟩; intro w hSw; have phE1 := hSw.ent hE1 (by omega); have qhE1 := box2_c0 phE1; have rhE1 := box2_c1 phE1; have phE2 := hSw.ent hE2 (by omega); have qhE2 := box2_c0 phE2; have rhE2 := box2_c1 phE2; go_simp; try with_reducible rfl
  (try simp only [Act.put, List.setIfInBounds_toArray, List.set_cons_zero, List.set_cons_succ])
  refine wpAnyH_take (i := 2) (oi := ?oiz162) (v := ?vz162) ?hiz162 (by kernel_rfl) (by kernel_rfl) (by kernel_rfl) ?hqz162 ?hyz162 hHeld ?restz162
  case hiz162 => simp only [List.getElem?_toArray, List.getElem?_cons_succ, List.getElem?_cons_zero]; exact rfl
  case hqz162 => exact fun _ _ _ h => h
  case hyz162 => refine Or.inl ⟨by rfl, ?_⟩; intro w hSw; (try dsimp only at hSw); go_simp; try with_reducible rfl
  (try simp only [Act.put, List.setIfInBounds_toArray, List.set_cons_zero, List.set_cons_succ])
  refine wpAnyH_take (i := 3) (oi := ?oiz163) (v := ?vz163) ?hiz163 (by kernel_rfl) (by kernel_rfl) (by kernel_rfl) ?hqz163 ?hyz163 hHeld ?restz163
  case hiz163 => simp only [List.getElem?_toArray, List.getElem?_cons_succ, List.getElem?_cons_zero]; exact rfl
  case hqz163 => exact fun _ _ _ h => h
  case hyz163 => refine Or.inl ⟨by rfl, ?_⟩; intro w hSw; have phE1 := hSw.ent hE1 (by omega); have qhE1 := box2_c0 phE1; have rhE1 := box2_c1 phE1; have phE2 := hSw.ent hE2 (by omega); have qhE2 := box2_c0 phE2; have rhE2 := box2_c1 phE2; go_simp; try with_reducible rfl
  (try simp only [Act.put, List.setIfInBounds_toArray, List.set_cons_zero, List.set_cons_succ])
  refine wpAnyH_take (i := 4) (oi := ?oiz164) (v := ?vz164) ?hiz164 (by kernel_rfl) (by kernel_rfl) (by kernel_rfl) ?hqz164 ?hyz164 hHeld ?restz164
  case hiz164 => simp only [List.getElem?_toArray, List.getElem?_cons_succ, List.getElem?_cons_zero]; exact rfl
  case hqz164 => exact fun _ _ _ h => h
  case hyz164 => refine Or.inl ⟨by rfl, ?_⟩; intro w hSw; (try dsimp only at hSw); go_simp; try with_reducible rfl
  (try simp only [Act.put, List.setIfInBounds_toArray, List.set_cons_zero, List.set_cons_succ])
  refine wpAnyH_take (i := 5) (oi := ?oiz165) (v := ?vz165) ?hiz165 (by kernel_rfl) (by kernel_rfl) (by kernel_rfl) ?hqz165 ?hyz165 hHeld ?restz165
  case hiz165 => simp only [List.getElem?_toArray, List.getElem?_cons_succ, List.getElem?_cons_zero]; exact rfl
  case hqz165 => exact fun _ _ _ h => h
  case hyz165 => refine Or.inl ⟨by rfl, ?_⟩; intro w hSw; (try dsimp only at hSw); go_simp; try with_reducible rfl
  (try simp only [Act.put, List.setIfInBounds_toArray, List.set_cons_zero, List.set_cons_succ])
  refine wpAnyH_take (i := 6) (oi := ?oiz166) (v := ?vz166) ?hiz166 (by kernel_rfl) (by kernel_rfl) (by kernel_rfl) ?hqz166 ?hyz166 hHeld ?restz166
  case hiz166 => simp only [List.getElem?_toArray, List.getElem?_cons_succ, List.getElem?_cons_zero]; exact rfl
  case hqz166 => exact fun _ _ _ h => h
  case hyz166 => refine Or.inl ⟨by rfl, ?_⟩; intro w hSw; have phE1 := hSw.ent hE1 (by omega); have qhE1 := box2_c0 phE1; have rhE1 := box2_c1 phE1; have phE2 := hSw.ent hE2 (by omega); have qhE2 := box2_c0 phE2; have rhE2 := box2_c1 phE2; go_simp; try with_reducible rfl
  (try simp only [Act.put, List.setIfInBounds_toArray, List.set_cons_zero, List.set_cons_succ])
  refine wpAnyH_take (i := 7) (oi := ?oiz167) (v := ?vz167) ?hiz167 (by kernel_rfl) (by kernel_rfl) (by kernel_rfl) ?hqz167 ?hyz167 hHeld ?restz167
  case hiz167 => simp only [List.getElem?_toArray, List.getElem?_cons_succ, List.getElem?_cons_zero]; exact rfl
  case hqz167 => exact fun _ _ _ h => h
  case hyz167 => refine Or.inl ⟨by rfl, ?_⟩; intro w hSw; (try dsimp only at hSw); go_simp; try with_reducible rfl
  (try simp only [Act.put, List.setIfInBounds_toArray, List.set_cons_zero, List.set_cons_succ])
  refine wpAnyH_take (i := 8) (oi := ?oiz168) (v := ?vz168) ?hiz168 (by kernel_rfl) (by kernel_rfl) (by kernel_rfl) ?hqz168 ?hyz168 hHeld ?restz168
  case hiz168 => simp only [List.getElem?_toArray, List.getElem?_cons_succ, List.getElem?_cons_zero]; exact rfl
  case hqz168 => exact fun _ _ _ h => h
  case hyz168 => refine Or.inl ⟨by rfl, ?_⟩; intro w hSw; have phE1 := hSw.ent hE1 (by omega); have qhE1 := box2_c0 phE1; have rhE1 := box2_c1 phE1; have phE2 := hSw.ent hE2 (by omega); have qhE2 := box2_c0 phE2; have rhE2 := box2_c1 phE2; go_simp; try with_reducible rfl
  (try simp only [Act.put, List.setIfInBounds_toArray, List.set_cons_zero, List.set_cons_succ])
  refine wpAnyH_ready (rs := [9]) (by kernel_rfl) (by simp) ?_
  refine AllReadyH.cons (o := ?oiz169) ?hiz169 (fun K hK => ?stepz169) AllReadyH.nil
  case hiz169 => simp only [List.getElem?_toArray, List.getElem?_cons_succ, List.getElem?_cons_zero]; exact rfl
  go_simp
  (go_at_call 75; refine (rmul_spec (hHeld.ref hx) (hHeld.ref hy) (by omega) (by omega)).mono ?_; rintro e w1 ⟨u, rfl, hu, hun, hb1⟩)
  refine hK.out _ _ ?hSz169 (fun hHeld' => ?restz169)
  case hSz169 => (try dsimp only); (first | exact hF0.drew | exact hHeld.call ‹Below _ _ _›)
  clear hK K hHeld
  have hHeld := hHeld'
  clear hHeld'
  (try simp only [Act.put, List.setIfInBounds_toArray, List.set_cons_zero, List.set_cons_succ])
  refine wpAnyH_ready (rs := [10]) (by kernel_rfl) (by simp) ?_
  refine AllReadyH.cons (o := ?oiz170) ?hiz170 (fun K hK => ?stepz170) AllReadyH.nil
  case hiz170 => simp only [List.getElem?_toArray, List.getElem?_cons_succ, List.getElem?_cons_zero]; exact rfl
  go_simp
  (go_at_call 47; refine (rmade_pos hu (by omega) _ (by first | assumption | exact Nat.mul_pos hx0 hy0 | omega)).mono ?_; rintro e w2 ⟨rfl, hb2⟩)
  refine hK.out _ _ ?hSz170 (fun hHeld' => ?restz170)
  case hSz170 => (try dsimp only); (first | exact hF0.drew | exact hHeld.call ‹Below _ _ _›)
  clear hK K hHeld
  have hHeld := hHeld'
  clear hHeld'
  (try simp only [Act.put, List.setIfInBounds_toArray, List.set_cons_zero, List.set_cons_succ])
  refine wpAnyH_ready (rs := [11]) (by kernel_rfl) (by simp) ?_
  refine AllReadyH.cons (o := ?oiz171) ?hiz171 (fun K hK => ?stepz171) AllReadyH.nil
  case hiz171 => simp only [List.getElem?_toArray, List.getElem?_cons_succ, List.getElem?_cons_zero]; exact rfl
  obtain ⟨v0, b0, hR⟩ := hHeld.res; have c0 := box2_c0 hR; have c1 := box2_c1 hR; have f0 := box2_f hR 0; have f1 := box2_f hR 1; go_simp
  refine hK.out _ _ ?hSz171 (fun hHeld' => ?restz171)
  case hSz171 => (try dsimp only); exact hHeld.set2 (by decide) (by omega) _ _
  clear hK K hHeld
  have hHeld := hHeld'
  clear hHeld'
  (try simp only [Act.put, List.setIfInBounds_toArray, List.set_cons_zero, List.set_cons_succ])
  refine wpAnyH_done (by kernel_rfl) ?_ _
  have hq := box2_set hR (.int .i64 (-1)) (.slice u.ao u.n u.c)
  have hq0 := box2_c0 hq
  have hq1 := box2_c1 hq
  have hq9 := hHeld.below
  have hu2 := (hu.up hb2).kp ((Kp.refl _).set2 hR (by decide) (.int .i64 (-1)) (.slice u.ao u.n u.c))
  clear hHeld hq hR c0 c1 f0 f1
  generalize (w2.setCell ⟨w.heap.size + 1 + 1, 0, none⟩ (.int .i64 (-1))).setCell ⟨w.heap.size + 1 + 1, 1, none⟩ (.slice u.ao u.n u.c) = W9 at *
  go_wp2
  refine bodyPost_ret (v := .agg #[.int .i64 (-1), .slice u.ao u.n u.c]) (by simp [results, Try.results32, go_sem, hq0, hq1]) rfl ⟨u, rfl, hu2, hun, hq9⟩

set_option maxRecDepth 100000 in
set_option maxHeartbeats 1600000 in
theorem rzadd_np_lt {w : World} {s t : Sl} {x y : Nat} (h : RefS w s x) (h' : RefS w t y) (hn : s.n ≤ 1000000) (hm : t.n ≤ 1000000) (hx0 : 0 < x) (hy0 : 0 < y) (hc : x < y) :
    Calls Try.prog 18 #[.agg #[.int .i64 (-1), .slice s.ao s.n s.c], .agg #[.int .i64 1, .slice t.ao t.n t.c]] w fun e w' => ∃ u : Sl, e = .returned (.agg #[.int .i64 1, .slice u.ao u.n u.c]) ∧ RefS w' u (y - x) ∧ u.n ≤ max s.n t.n + 1 ∧ Below w.heap.size w w' := by
  obtain ⟨hE1, hE2, hE3, -⟩ := ents3 w (.cells #[.int .i64 (-1), .slice s.ao s.n s.c] 28) (.cells #[.int .i64 1, .slice t.ao t.n t.c] 28) (.cells #[.int .i64 0, .slice none 0 0] 28)
  have hB := (((Grew.refl w).alloc (.cells #[.int .i64 (-1), .slice s.ao s.n s.c] 28)).alloc (.cells #[.int .i64 1, .slice t.ao t.n t.c] 28)).alloc (.cells #[.int .i64 0, .slice none 0 0] 28)
  have hx := h.grew hB
  have hy := h'.grew hB
  have chE1a := box2_c0 hE1
  have chE1b := box2_c1 hE1
  have chE2a := box2_c0 hE2
  have chE2b := box2_c1 hE2
  have chE3a := box2_c0 hE3
  have chE3b := box2_c1 hE3
  have fhE3a := box2_f hE3 0
  have fhE3b := box2_f hE3 1
  have hc0 : cmpN x y = -1 := cmpN_lt hc
  go_enter Try.func18, Try.ntmps18
  go_wp2_with fail
  generalize ((w.alloc (.cells #[.int .i64 (-1), .slice s.ao s.n s.c] 28)).alloc (.cells #[.int .i64 1, .slice t.ao t.n t.c] 28)).alloc (.cells #[.int .i64 0, .slice none 0 0] 28) = W at *
  refine (rcmp_at (-1) hc0 hx hy (by omega) (by omega)).mono ?_
  rintro e w1 ⟨rfl, hb1⟩
  have ha1 : Grew w1 (w1) := Grew.refl w1
  have hg1' := (Grew.call (Grew.refl _) hb1).trans ha1
  replace hx := hx.grew hg1'
  replace hy := hy.grew hg1'
  replace hE1 := ent_grew hg1' hE1
  replace hE2 := ent_grew hg1' hE2
  replace hE3 := ent_grew hg1' hE3
  replace hB := hB.trans hg1'
  clear hg1' ha1 hb1 chE1a chE1b chE2a chE2b chE3a chE3b fhE3a fhE3b
  have chE1a := box2_c0 hE1
  have chE1b := box2_c1 hE1
  have chE2a := box2_c0 hE2
  have chE2b := box2_c1 hE2
  have chE3a := box2_c0 hE3
  have chE3b := box2_c1 hE3
  have fhE3a := box2_f hE3 0
  have fhE3b := box2_f hE3 1
  go_wp2
  clear chE1a chE1b chE2a chE2b chE3a chE3b fhE3a fhE3b
  have hF0 := Fr.init hE3 hB
  refine wp_region_held_drew (S := (fun w' => Fr w w1 (w.heap.size + 1 + 1) 28 w')) (by kernel_rfl) ?hSz172 (fun hHeld => ?restz172)
  case hSz172 => (try dsimp only); (first | exact hF0.drew | exact hHeld.call ‹Below _ _ _›)
  refine wpAnyH_take (i := 0) (oi := ?oiz173) (v := ?vz173) ?hiz173 (by kernel_rfl) (by kernel_rfl) (by kernel_rfl) ?hqz173 ?hyz173 hHeld ?restz173
  case hiz173 => simp only [List.getElem?_toArray, List.getElem?_cons_zero]; exact rfl
  case hqz173 => exact fun _ _ _ h => h
  case hyz173 => refine Or.inl ⟨by rfl, ?_⟩; intro w hSw; (try dsimp only at hSw); go_simp; try with_reducible rfl
  (try simp only [Act.put, List.setIfInBounds_toArray, List.set_cons_zero, List.set_cons_succ])
  refine wpAnyH_take (i := 1) (oi := ?oiz174) (v := ?vz174) ?hiz174 (by kernel_rfl) (by kernel_rfl) (by kernel_rfl) ?hqz174 ?hyz174 hHeld ?restz174
  case hiz174 => simp only [List.getElem?_toArray, List.getElem?_cons_succ, List.getElem?_cons_zero]; exact rfl
  case hqz174 => exact fun _ _ _ h => h
  case hyz174 => refine Or.inl ⟨by rfl, ?_⟩; intro w hSw; have phE1 := hSw.ent hE1 (by omega); have qhE1 := box2_c0 phE1; have rhE1 := box2_c1 phE1; have phE2 := hSw.ent hE2 (by omega); have qhE2 := box2_c0 phE2; have rhE2 := box2_c1 phE2; go_simp; try with_reducible rfl
  (try simp only [Act.put, List.setIfInBounds_toArray, List.set_cons_zero, List.set_cons_succ])
  refine wpAnyH_take (i := 2) (oi := ?oiz175) (v := ?vz175) ?hiz175 (by kernel_rfl) (by kernel_rfl) (by kernel_rfl) ?hqz175 ?hyz175 hHeld ?restz175
  case hiz175 => simp only [List.getElem?_toArray, List.getElem?_cons_succ, List.getElem?_cons_zero]; exact rfl
  case hqz175 => exact fun _ _ _ h => h
  case hyz175 => refine Or.inl ⟨by rfl, ?_⟩; intro w hSw; (try dsimp only at hSw); go_simp; try with_reducible rfl
  (try simp only [Act.put, List.setIfInBounds_toArray, List.set_cons_zero, List.set_cons_succ])
  refine wpAnyH_take (i := 3) (oi := ?oiz176) (v := ?vz176) ?hiz176 (by kernel_rfl) (by kernel_rfl) (by kernel_rfl) ?hqz176 ?hyz176 hHeld ?restz176
  case hiz176 => simp only [List.getElem?_toArray, List.getElem?_cons_succ, List.getElem?_cons_zero]; exact rfl
  case hqz176 => exact fun _ _ _ h => h
  case hyz176 => refine Or.inl ⟨by rfl, ?_⟩; intro w hSw; have phE1 := hSw.ent hE1 (by omega); have qhE1 := box2_c0 phE1; have rhE1 := box2_c1 phE1; have phE2 := hSw.ent hE2 (by omega); have qhE2 := box2_c0 phE2; have rhE2 := box2_c1 phE2; go_simp; try with_reducible rfl
  (try simp only [Act.put, List.setIfInBounds_toArray, List.set_cons_zero, List.set_cons_succ])
  refine wpAnyH_take (i := 4) (oi := ?oiz177) (v := ?vz177) ?hiz177 (by kernel_rfl) (by kernel_rfl) (by kernel_rfl) ?hqz177 ?hyz177 hHeld ?restz177
  case hiz177 => simp only [List.getElem?_toArray, List.getElem?_cons_succ, List.getElem?_cons_zero]; exact rfl
  case hqz177 => exact fun _ _ _ h => h
  case hyz177 => refine Or.inl ⟨by rfl, ?_⟩; intro w hSw; (try dsimp only at hSw); go_simp; try with_reducible rfl
  (try simp only [Act.put, List.setIfInBounds_toArray, List.set_cons_zero, List.set_cons_succ])
  refine wpAnyH_take (i := 5) (oi := ?oiz178) (v := ?vz178) ?hiz178 (by kernel_rfl) (by kernel_rfl) (by kernel_rfl) ?hqz178 ?hyz178 hHeld ?restz178
  case hiz178 => simp only [List.getElem?_toArray, List.getElem?_cons_succ, List.getElem?_cons_zero]; exact rfl
  case hqz178 => exact fun _ _ _ h => h
  case hyz178 => refine Or.inl ⟨by rfl, ?_⟩; intro w hSw; have phE1 := hSw.ent hE1 (by omega); have qhE1 := box2_c0 phE1; have rhE1 := box2_c1 phE1; have phE2 := hSw.ent hE2 (by omega); have qhE2 := box2_c0 phE2; have rhE2 := box2_c1 phE2; go_simp; try with_reducible rfl
  (try simp only [Act.put, List.setIfInBounds_toArray, List.set_cons_zero, List.set_cons_succ])
  refine wpAnyH_ready (rs := [6]) (by kernel_rfl) (by simp) ?_
  refine AllReadyH.cons (o := ?oiz179) ?hiz179 (fun K hK => ?stepz179) AllReadyH.nil
  case hiz179 => simp only [List.getElem?_toArray, List.getElem?_cons_succ, List.getElem?_cons_zero]; exact rfl
  go_simp
  (go_at_call 65; refine (rless_spec (hHeld.ref hy) (hHeld.ref hx) (by omega) (by omega)).mono ?_; rintro e w2 ⟨u, rfl, hu, hun, hb1⟩)
  refine hK.out _ _ ?hSz179 (fun hHeld' => ?restz179)
  case hSz179 => (try dsimp only); (first | exact hF0.drew | exact hHeld.call ‹Below _ _ _›)
  clear hK K hHeld
  have hHeld := hHeld'
  clear hHeld'
  (try simp only [Act.put, List.setIfInBounds_toArray, List.set_cons_zero, List.set_cons_succ])
  refine wpAnyH_ready (rs := [7]) (by kernel_rfl) (by simp) ?_
  refine AllReadyH.cons (o := ?oiz180) ?hiz180 (fun K hK => ?stepz180) AllReadyH.nil
  case hiz180 => simp only [List.getElem?_toArray, List.getElem?_cons_succ, List.getElem?_cons_zero]; exact rfl
  go_simp
  (go_at_call 47; refine (rmade_pos hu (by omega) _ (by first | assumption | exact Nat.mul_pos hx0 hy0 | omega)).mono ?_; rintro e w3 ⟨rfl, hb3⟩)
  refine hK.out _ _ ?hSz180 (fun hHeld' => ?restz180)
  case hSz180 => (try dsimp only); (first | exact hF0.drew | exact hHeld.call ‹Below _ _ _›)
  clear hK K hHeld
  have hHeld := hHeld'
  clear hHeld'
  (try simp only [Act.put, List.setIfInBounds_toArray, List.set_cons_zero, List.set_cons_succ])
  refine wpAnyH_ready (rs := [8]) (by kernel_rfl) (by simp) ?_
  refine AllReadyH.cons (o := ?oiz181) ?hiz181 (fun K hK => ?stepz181) AllReadyH.nil
  case hiz181 => simp only [List.getElem?_toArray, List.getElem?_cons_succ, List.getElem?_cons_zero]; exact rfl
  obtain ⟨v0, b0, hR⟩ := hHeld.res; have c0 := box2_c0 hR; have c1 := box2_c1 hR; have f0 := box2_f hR 0; have f1 := box2_f hR 1; go_simp
  refine hK.out _ _ ?hSz181 (fun hHeld' => ?restz181)
  case hSz181 => (try dsimp only); exact hHeld.set2 (by decide) (by omega) _ _
  clear hK K hHeld
  have hHeld := hHeld'
  clear hHeld'
  (try simp only [Act.put, List.setIfInBounds_toArray, List.set_cons_zero, List.set_cons_succ])
  refine wpAnyH_done (by kernel_rfl) ?_ _
  have hq := box2_set hR (.int .i64 1) (.slice u.ao u.n u.c)
  have hq0 := box2_c0 hq
  have hq1 := box2_c1 hq
  have hq9 := hHeld.below
  have hu2 := (hu.up hb3).kp ((Kp.refl _).set2 hR (by decide) (.int .i64 1) (.slice u.ao u.n u.c))
  clear hHeld hq hR c0 c1 f0 f1
  generalize (w3.setCell ⟨w.heap.size + 1 + 1, 0, none⟩ (.int .i64 1)).setCell ⟨w.heap.size + 1 + 1, 1, none⟩ (.slice u.ao u.n u.c) = W9 at *
  go_wp2
  refine bodyPost_ret (v := .agg #[.int .i64 1, .slice u.ao u.n u.c]) (by simp [results, Try.results18, go_sem, hq0, hq1]) rfl ⟨u, rfl, hu2, by omega, hq9⟩

set_option maxRecDepth 100000 in
set_option maxHeartbeats 1600000 in
theorem rzadd_np_eq {w : World} {s t : Sl} {x y : Nat} (h : RefS w s x) (h' : RefS w t y) (hn : s.n ≤ 1000000) (hm : t.n ≤ 1000000) (hx0 : 0 < x) (hy0 : 0 < y) (hc : x = y) :
    Calls Try.prog 18 #[.agg #[.int .i64 (-1), .slice s.ao s.n s.c], .agg #[.int .i64 1, .slice t.ao t.n t.c]] w fun e w' => ∃ u : Sl, e = .returned (.agg #[.int .i64 0, .slice u.ao u.n u.c]) ∧ RefS w' u (x - y) ∧ u.n ≤ max s.n t.n + 1 ∧ Below w.heap.size w w' := by
  obtain ⟨hE1, hE2, hE3, -⟩ := ents3 w (.cells #[.int .i64 (-1), .slice s.ao s.n s.c] 28) (.cells #[.int .i64 1, .slice t.ao t.n t.c] 28) (.cells #[.int .i64 0, .slice none 0 0] 28)
  have hB := (((Grew.refl w).alloc (.cells #[.int .i64 (-1), .slice s.ao s.n s.c] 28)).alloc (.cells #[.int .i64 1, .slice t.ao t.n t.c] 28)).alloc (.cells #[.int .i64 0, .slice none 0 0] 28)
  have hx := h.grew hB
  have hy := h'.grew hB
  have chE1a := box2_c0 hE1
  have chE1b := box2_c1 hE1
  have chE2a := box2_c0 hE2
  have chE2b := box2_c1 hE2
  have chE3a := box2_c0 hE3
  have chE3b := box2_c1 hE3
  have fhE3a := box2_f hE3 0
  have fhE3b := box2_f hE3 1
  have hc0 : cmpN x y = 0 := by rw [hc]; exact cmpN_eq y
  go_enter Try.func18, Try.ntmps18
  go_wp2_with fail
  generalize ((w.alloc (.cells #[.int .i64 (-1), .slice s.ao s.n s.c] 28)).alloc (.cells #[.int .i64 1, .slice t.ao t.n t.c] 28)).alloc (.cells #[.int .i64 0, .slice none 0 0] 28) = W at *
  refine (rcmp_at (0) hc0 hx hy (by omega) (by omega)).mono ?_
  rintro e w1 ⟨rfl, hb1⟩
  have ha1 : Grew w1 (w1) := Grew.refl w1
  have hg1' := (Grew.call (Grew.refl _) hb1).trans ha1
  replace hx := hx.grew hg1'
  replace hy := hy.grew hg1'
  replace hE1 := ent_grew hg1' hE1
  replace hE2 := ent_grew hg1' hE2
  replace hE3 := ent_grew hg1' hE3
  replace hB := hB.trans hg1'
  clear hg1' ha1 hb1 chE1a chE1b chE2a chE2b chE3a chE3b fhE3a fhE3b
  have chE1a := box2_c0 hE1
  have chE1b := box2_c1 hE1
  have chE2a := box2_c0 hE2
  have chE2b := box2_c1 hE2
  have chE3a := box2_c0 hE3
  have chE3b := box2_c1 hE3
  have fhE3a := box2_f hE3 0
  have fhE3b := box2_f hE3 1
  go_wp2
  clear chE1a chE1b chE2a chE2b chE3a chE3b fhE3a fhE3b
  have hF0 := Fr.init hE3 hB
  refine wp_region_held_drew (S := (fun w' => Fr w w1 (w.heap.size + 1 + 1) 28 w')) (by kernel_rfl) ?hSz182 (fun hHeld => ?restz182)
  case hSz182 => (try dsimp only); (first | exact hF0.drew | exact hHeld.call ‹Below _ _ _›)
  refine wpAnyH_take (i := 0) (oi := ?oiz183) (v := ?vz183) ?hiz183 (by kernel_rfl) (by kernel_rfl) (by kernel_rfl) ?hqz183 ?hyz183 hHeld ?restz183
  case hiz183 => simp only [List.getElem?_toArray, List.getElem?_cons_zero]; exact rfl
  case hqz183 => exact fun _ _ _ h => h
  case hyz183 => refine Or.inl ⟨by rfl, ?_⟩; intro w hSw; (try dsimp only at hSw); go_simp; try with_reducible rfl
  (try simp only [Act.put, List.setIfInBounds_toArray, List.set_cons_zero, List.set_cons_succ])
  refine wpAnyH_take (i := 1) (oi := ?oiz184) (v := ?vz184) ?hiz184 (by kernel_rfl) (by kernel_rfl) (by kernel_rfl) ?hqz184 ?hyz184 hHeld ?restz184
  case hiz184 => simp only [List.getElem?_toArray, List.getElem?_cons_succ, List.getElem?_cons_zero]; exact rfl
  case hqz184 => exact fun _ _ _ h => h
  case hyz184 => refine Or.inl ⟨by rfl, ?_⟩; intro w hSw; have phE1 := hSw.ent hE1 (by omega); have qhE1 := box2_c0 phE1; have rhE1 := box2_c1 phE1; have phE2 := hSw.ent hE2 (by omega); have qhE2 := box2_c0 phE2; have rhE2 := box2_c1 phE2; go_simp; try with_reducible rfl
  (try simp only [Act.put, List.setIfInBounds_toArray, List.set_cons_zero, List.set_cons_succ])
  refine wpAnyH_take (i := 2) (oi := ?oiz185) (v := ?vz185) ?hiz185 (by kernel_rfl) (by kernel_rfl) (by kernel_rfl) ?hqz185 ?hyz185 hHeld ?restz185
  case hiz185 => simp only [List.getElem?_toArray, List.getElem?_cons_succ, List.getElem?_cons_zero]; exact rfl
  case hqz185 => exact fun _ _ _ h => h
  case hyz185 => refine Or.inl ⟨by rfl, ?_⟩; intro w hSw; (try dsimp only at hSw); go_simp; try with_reducible rfl
  (try simp only [Act.put, List.setIfInBounds_toArray, List.set_cons_zero, List.set_cons_succ])
  refine wpAnyH_take (i := 3) (oi := ?oiz186) (v := ?vz186) ?hiz186 (by kernel_rfl) (by kernel_rfl) (by kernel_rfl) ?hqz186 ?hyz186 hHeld ?restz186
  case hiz186 => simp only [List.getElem?_toArray, List.getElem?_cons_succ, List.getElem?_cons_zero]; exact rfl
  case hqz186 => exact fun _ _ _ h => h
  case hyz186 => refine Or.inl ⟨by rfl, ?_⟩; intro w hSw; have phE1 := hSw.ent hE1 (by omega); have qhE1 := box2_c0 phE1; have rhE1 := box2_c1 phE1; have phE2 := hSw.ent hE2 (by omega); have qhE2 := box2_c0 phE2; have rhE2 := box2_c1 phE2; go_simp; try with_reducible rfl
  (try simp only [Act.put, List.setIfInBounds_toArray, List.set_cons_zero, List.set_cons_succ])
  refine wpAnyH_take (i := 4) (oi := ?oiz187) (v := ?vz187) ?hiz187 (by kernel_rfl) (by kernel_rfl) (by kernel_rfl) ?hqz187 ?hyz187 hHeld ?restz187
  case hiz187 => simp only [List.getElem?_toArray, List.getElem?_cons_succ, List.getElem?_cons_zero]; exact rfl
  case hqz187 => exact fun _ _ _ h => h
  case hyz187 => refine Or.inl ⟨by rfl, ?_⟩; intro w hSw; (try dsimp only at hSw); go_simp; try with_reducible rfl
  (try simp only [Act.put, List.setIfInBounds_toArray, List.set_cons_zero, List.set_cons_succ])
  refine wpAnyH_take (i := 5) (oi := ?oiz188) (v := ?vz188) ?hiz188 (by kernel_rfl) (by kernel_rfl) (by kernel_rfl) ?hqz188 ?hyz188 hHeld ?restz188
  case hiz188 => simp only [List.getElem?_toArray, List.getElem?_cons_succ, List.getElem?_cons_zero]; exact rfl
  case hqz188 => exact fun _ _ _ h => h
  case hyz188 => refine Or.inl ⟨by rfl, ?_⟩; intro w hSw; have phE1 := hSw.ent hE1 (by omega); have qhE1 := box2_c0 phE1; have rhE1 := box2_c1 phE1; have phE2 := hSw.ent hE2 (by omega); have qhE2 := box2_c0 phE2; have rhE2 := box2_c1 phE2; go_simp; try with_reducible rfl
  (try simp only [Act.put, List.setIfInBounds_toArray, List.set_cons_zero, List.set_cons_succ])
  refine wpAnyH_ready (rs := [6]) (by kernel_rfl) (by simp) ?_
  refine AllReadyH.cons (o := ?oiz189) ?hiz189 (fun K hK => ?stepz189) AllReadyH.nil
  case hiz189 => simp only [List.getElem?_toArray, List.getElem?_cons_succ, List.getElem?_cons_zero]; exact rfl
  go_simp
  (go_at_call 65; refine (rless_spec (hHeld.ref hx) (hHeld.ref hy) (by omega) (by omega)).mono ?_; rintro e w2 ⟨u, rfl, hu, hun, hb1⟩)
  refine hK.out _ _ ?hSz189 (fun hHeld' => ?restz189)
  case hSz189 => (try dsimp only); (first | exact hF0.drew | exact hHeld.call ‹Below _ _ _›)
  clear hK K hHeld
  have hHeld := hHeld'
  clear hHeld'
  (try simp only [Act.put, List.setIfInBounds_toArray, List.set_cons_zero, List.set_cons_succ])
  refine wpAnyH_ready (rs := [7]) (by kernel_rfl) (by simp) ?_
  refine AllReadyH.cons (o := ?oiz190) ?hiz190 (fun K hK => ?stepz190) AllReadyH.nil
  case hiz190 => simp only [List.getElem?_toArray, List.getElem?_cons_succ, List.getElem?_cons_zero]; exact rfl
  go_simp
  (go_at_call 47; refine (rmade_zero hu (by omega) _ (by first | rfl | assumption | omega)).mono ?_; rintro e w3 ⟨rfl, hb3⟩)
  refine hK.out _ _ ?hSz190 (fun hHeld' => ?restz190)
  case hSz190 => (try dsimp only); (first | exact hF0.drew | exact hHeld.call ‹Below _ _ _›)
  clear hK K hHeld
  have hHeld := hHeld'
  clear hHeld'
  (try simp only [Act.put, List.setIfInBounds_toArray, List.set_cons_zero, List.set_cons_succ])
  refine wpAnyH_ready (rs := [8]) (by kernel_rfl) (by simp) ?_
  refine AllReadyH.cons (o := ?oiz191) ?hiz191 (fun K hK => ?stepz191) AllReadyH.nil
  case hiz191 => simp only [List.getElem?_toArray, List.getElem?_cons_succ, List.getElem?_cons_zero]; exact rfl
  obtain ⟨v0, b0, hR⟩ := hHeld.res; have c0 := box2_c0 hR; have c1 := box2_c1 hR; have f0 := box2_f hR 0; have f1 := box2_f hR 1; go_simp
  refine hK.out _ _ ?hSz191 (fun hHeld' => ?restz191)
  case hSz191 => (try dsimp only); exact hHeld.set2 (by decide) (by omega) _ _
  clear hK K hHeld
  have hHeld := hHeld'
  clear hHeld'
  (try simp only [Act.put, List.setIfInBounds_toArray, List.set_cons_zero, List.set_cons_succ])
  refine wpAnyH_done (by kernel_rfl) ?_ _
  have hq := box2_set hR (.int .i64 0) (.slice none 0 0)
  have hq0 := box2_c0 hq
  have hq1 := box2_c1 hq
  have hq9 := hHeld.below
  have hu2 := (RefS.nil w3 none 0 (by omega)).kp ((Kp.refl _).set2 hR (by decide) (.int .i64 0) (.slice none 0 0))
  have hz0 : x - y = 0 := by first | rfl | assumption | omega
  clear hHeld hq hR c0 c1 f0 f1
  generalize (w3.setCell ⟨w.heap.size + 1 + 1, 0, none⟩ (.int .i64 0)).setCell ⟨w.heap.size + 1 + 1, 1, none⟩ (.slice none 0 0) = W9 at *
  go_wp2
  refine bodyPost_ret (v := .agg #[.int .i64 0, .slice none 0 0]) (by simp [results, Try.results18, go_sem, hq0, hq1]) rfl ⟨⟨none, 0, 0⟩, rfl, (by rw [hz0]; exact hu2), Nat.zero_le _, hq9⟩

set_option maxRecDepth 100000 in
set_option maxHeartbeats 1600000 in
theorem rzadd_np_gt {w : World} {s t : Sl} {x y : Nat} (h : RefS w s x) (h' : RefS w t y) (hn : s.n ≤ 1000000) (hm : t.n ≤ 1000000) (hx0 : 0 < x) (hy0 : 0 < y) (hc : y < x) :
    Calls Try.prog 18 #[.agg #[.int .i64 (-1), .slice s.ao s.n s.c], .agg #[.int .i64 1, .slice t.ao t.n t.c]] w fun e w' => ∃ u : Sl, e = .returned (.agg #[.int .i64 (-1), .slice u.ao u.n u.c]) ∧ RefS w' u (x - y) ∧ u.n ≤ max s.n t.n + 1 ∧ Below w.heap.size w w' := by
  obtain ⟨hE1, hE2, hE3, -⟩ := ents3 w (.cells #[.int .i64 (-1), .slice s.ao s.n s.c] 28) (.cells #[.int .i64 1, .slice t.ao t.n t.c] 28) (.cells #[.int .i64 0, .slice none 0 0] 28)
  have hB := (((Grew.refl w).alloc (.cells #[.int .i64 (-1), .slice s.ao s.n s.c] 28)).alloc (.cells #[.int .i64 1, .slice t.ao t.n t.c] 28)).alloc (.cells #[.int .i64 0, .slice none 0 0] 28)
  have hx := h.grew hB
  have hy := h'.grew hB
  have chE1a := box2_c0 hE1
  have chE1b := box2_c1 hE1
  have chE2a := box2_c0 hE2
  have chE2b := box2_c1 hE2
  have chE3a := box2_c0 hE3
  have chE3b := box2_c1 hE3
  have fhE3a := box2_f hE3 0
  have fhE3b := box2_f hE3 1
  have hc0 : cmpN x y = 1 := cmpN_gt hc
  go_enter Try.func18, Try.ntmps18
  go_wp2_with fail
  generalize ((w.alloc (.cells #[.int .i64 (-1), .slice s.ao s.n s.c] 28)).alloc (.cells #[.int .i64 1, .slice t.ao t.n t.c] 28)).alloc (.cells #[.int .i64 0, .slice none 0 0] 28) = W at *
  refine (rcmp_at (1) hc0 hx hy (by omega) (by omega)).mono ?_
  rintro e w1 ⟨rfl, hb1⟩
  have ha1 : Grew w1 (w1) := Grew.refl w1
  have hg1' := (Grew.call (Grew.refl _) hb1).trans ha1
  replace hx := hx.grew hg1'
  replace hy := hy.grew hg1'
  replace hE1 := ent_grew hg1' hE1
  replace hE2 := ent_grew hg1' hE2
  replace hE3 := ent_grew hg1' hE3
  replace hB := hB.trans hg1'
  clear hg1' ha1 hb1 chE1a chE1b chE2a chE2b chE3a chE3b fhE3a fhE3b
  have chE1a := box2_c0 hE1
  have chE1b := box2_c1 hE1
  have chE2a := box2_c0 hE2
  have chE2b := box2_c1 hE2
  have chE3a := box2_c0 hE3
  have chE3b := box2_c1 hE3
  have fhE3a := box2_f hE3 0
  have fhE3b := box2_f hE3 1
  go_wp2
  clear chE1a chE1b chE2a chE2b chE3a chE3b fhE3a fhE3b
  have hF0 := Fr.init hE3 hB
  refine wp_region_held_drew (S := (fun w' => Fr w w1 (w.heap.size + 1 + 1) 28 w')) (by kernel_rfl) ?hSz192 (fun hHeld => ?restz192)
  case hSz192 => (try dsimp only); (first | exact hF0.drew | exact hHeld.call ‹Below _ _ _›)
  refine wpAnyH_take (i := 0) (oi := ?oiz193) (v := ?vz193) ?hiz193 (by kernel_rfl) (by kernel_rfl) (by kernel_rfl) ?hqz193 ?hyz193 hHeld ?restz193
  case hiz193 => simp only [List.getElem?_toArray, List.getElem?_cons_zero]; exact rfl
  case hqz193 => exact fun _ _ _ h => h
  case hyz193 => refine Or.inl ⟨by rfl, ?_⟩; intro w hSw; (try dsimp only at hSw); go_simp; try with_reducible rfl
  (try simp only [Act.put, List.setIfInBounds_toArray, List.set_cons_zero, List.set_cons_succ])
  refine wpAnyH_take (i := 1) (oi := ?oiz194) (v := ?vz194) ?hiz194 (by kernel_rfl) (by kernel_rfl) (by kernel_rfl) ?hqz194 ?hyz194 hHeld ?restz194
  case hiz194 => simp only [List.getElem?_toArray, List.getElem?_cons_succ, List.getElem?_cons_zero]; exact rfl
  case hqz194 => exact fun _ _ _ h => h
  case hyz194 => refine Or.inl ⟨by rfl, ?_⟩; intro w hSw; have phE1 := hSw.ent hE1 (by omega); have qhE1 := box2_c0 phE1; have rhE1 := box2_c1 phE1; have phE2 := hSw.ent hE2 (by omega); have qhE2 := box2_c0 phE2; have rhE2 := box2_c1 phE2; go_simp; try with_reducible rfl
  (try simp only [Act.put, List.setIfInBounds_toArray, List.set_cons_zero, List.set_cons_succ])
  refine wpAnyH_take (i := 2) (oi := ?oiz195) (v := ?vz195) ?hiz195 (by kernel_rfl) (by kernel_rfl) (by kernel_rfl) ?hqz195 ?hyz195 hHeld ?restz195
  case hiz195 => simp only [List.getElem?_toArray, List.getElem?_cons_succ, List.getElem?_cons_zero]; exact rfl
  case hqz195 => exact fun _ _ _ h => h
  case hyz195 => refine Or.inl ⟨by rfl, ?_⟩; intro w hSw; (try dsimp only at hSw); go_simp; try with_reducible rfl
  (try simp only [Act.put, List.setIfInBounds_toArray, List.set_cons_zero, List.set_cons_succ])
  refine wpAnyH_take (i := 3) (oi := ?oiz196) (v := ?vz196) ?hiz196 (by kernel_rfl) (by kernel_rfl) (by kernel_rfl) ?hqz196 ?hyz196 hHeld ?restz196
  case hiz196 => simp only [List.getElem?_toArray, List.getElem?_cons_succ, List.getElem?_cons_zero]; exact rfl
  case hqz196 => exact fun _ _ _ h => h
  case hyz196 => refine Or.inl ⟨by rfl, ?_⟩; intro w hSw; have phE1 := hSw.ent hE1 (by omega); have qhE1 := box2_c0 phE1; have rhE1 := box2_c1 phE1; have phE2 := hSw.ent hE2 (by omega); have qhE2 := box2_c0 phE2; have rhE2 := box2_c1 phE2; go_simp; try with_reducible rfl
  (try simp only [Act.put, List.setIfInBounds_toArray, List.set_cons_zero, List.set_cons_succ])
  refine wpAnyH_take (i := 4) (oi := ?oiz197) (v := ?vz197) ?hiz197 (by kernel_rfl) (by kernel_rfl) (by kernel_rfl) ?hqz197 ?hyz197 hHeld ?restz197
  case hiz197 => simp only [List.getElem?_toArray, List.getElem?_cons_succ, List.getElem?_cons_zero]; exact rfl
  case hqz197 => exact fun _ _ _ h => h
  case hyz197 => refine Or.inl ⟨by rfl, ?_⟩; intro w hSw; (try dsimp only at hSw); go_simp; try with_reducible rfl
  (try simp only [Act.put, List.setIfInBounds_toArray, List.set_cons_zero, List.set_cons_succ])
  refine wpAnyH_take (i := 5) (oi := ?oiz198) (v := ?vz198) ?hiz198 (by kernel_rfl) (by kernel_rfl) (by kernel_rfl) ?hqz198 ?hyz198 hHeld ?restz198
  case hiz198 => simp only [List.getElem?_toArray, List.getElem?_cons_succ, List.getElem?_cons_zero]; exact rfl
  case hqz198 => exact fun _ _ _ h => h
  case hyz198 => refine Or.inl ⟨by rfl, ?_⟩; intro w hSw; have phE1 := hSw.ent hE1 (by omega); have qhE1 := box2_c0 phE1; have rhE1 := box2_c1 phE1; have phE2 := hSw.ent hE2 (by omega); have qhE2 := box2_c0 phE2; have rhE2 := box2_c1 phE2; go_simp; try with_reducible rfl
  (try simp only [Act.put, List.setIfInBounds_toArray, List.set_cons_zero, List.set_cons_succ])
  refine wpAnyH_ready (rs := [6]) (by kernel_rfl) (by simp) ?_
  refine AllReadyH.cons (o := ?oiz199) ?hiz199 (fun K hK => ?stepz199) AllReadyH.nil
  case hiz199 => simp only [List.getElem?_toArray, List.getElem?_cons_succ, List.getElem?_cons_zero]; exact rfl
  go_simp
  (go_at_call 65; refine (rless_spec (hHeld.ref hx) (hHeld.ref hy) (by omega) (by omega)).mono ?_; rintro e w2 ⟨u, rfl, hu, hun, hb1⟩)
  refine hK.out _ _ ?hSz199 (fun hHeld' => ?restz199)
  case hSz199 => (try dsimp only); (first | exact hF0.drew | exact hHeld.call ‹Below _ _ _›)
  clear hK K hHeld
  have hHeld := hHeld'
  clear hHeld'
  (try simp only [Act.put, List.setIfInBounds_toArray, List.set_cons_zero, List.set_cons_succ])
  refine wpAnyH_ready (rs := [7]) (by kernel_rfl) (by simp) ?_
  refine AllReadyH.cons (o := ?oiz200) ?hiz200 (fun K hK => ?stepz200) AllReadyH.nil
  case hiz200 => simp only [List.getElem?_toArray, List.getElem?_cons_succ, List.getElem?_cons_zero]; exact rfl
  go_simp
  (go_at_call 47; refine (rmade_pos hu (by omega) _ (by first | assumption | exact Nat.mul_pos hx0 hy0 | omega)).mono ?_; rintro e w3 ⟨rfl, hb3⟩)
  refine hK.out _ _ ?hSz200 (fun hHeld' => ?restz200)
  case hSz200 => (try dsimp only); (first | exact hF0.drew | exact hHeld.call ‹Below _ _ _›)
  clear hK K hHeld
  have hHeld := hHeld'
  clear hHeld'
  (try simp only [Act.put, List.setIfInBounds_toArray, List.set_cons_zero, List.set_cons_succ])
  refine wpAnyH_ready (rs := [8]) (by kernel_rfl) (by simp) ?_
  refine AllReadyH.cons (o := ?oiz201) ?hiz201 (fun K hK => ?stepz201) AllReadyH.nil
  case hiz201 => simp only [List.getElem?_toArray, List.getElem?_cons_succ, List.getElem?_cons_zero]; exact rfl
  obtain ⟨v0, b0, hR⟩ := hHeld.res; have c0 := box2_c0 hR; have c1 := box2_c1 hR; have f0 := box2_f hR 0; have f1 := box2_f hR 1; go_simp
  refine hK.out _ _ ?hSz201 (fun hHeld' => ?restz201)
  case hSz201 => (try dsimp only); exact hHeld.set2 (by decide) (by omega) _ _
  clear hK K hHeld
  have hHeld := hHeld'
  clear hHeld'
  (try simp only [Act.put, List.setIfInBounds_toArray, List.set_cons_zero, List.set_cons_succ])
  refine wpAnyH_done (by kernel_rfl) ?_ _
  have hq := box2_set hR (.int .i64 (-1)) (.slice u.ao u.n u.c)
  have hq0 := box2_c0 hq
  have hq1 := box2_c1 hq
  have hq9 := hHeld.below
  have hu2 := (hu.up hb3).kp ((Kp.refl _).set2 hR (by decide) (.int .i64 (-1)) (.slice u.ao u.n u.c))
  clear hHeld hq hR c0 c1 f0 f1
  generalize (w3.setCell ⟨w.heap.size + 1 + 1, 0, none⟩ (.int .i64 (-1))).setCell ⟨w.heap.size + 1 + 1, 1, none⟩ (.slice u.ao u.n u.c) = W9 at *
  go_wp2
  refine bodyPost_ret (v := .agg #[.int .i64 (-1), .slice u.ao u.n u.c]) (by simp [results, Try.results18, go_sem, hq0, hq1]) rfl ⟨u, rfl, hu2, by omega, hq9⟩

set_option maxRecDepth 100000 in
set_option maxHeartbeats 1600000 in
theorem rzcmp_np {w : World} (s t : Sl) :
    Calls Try.prog 30 #[.agg #[.int .i64 (-1), .slice s.ao s.n s.c], .agg #[.int .i64 1, .slice t.ao t.n t.c]] w fun e w' => e = .returned (.int .i64 (-1)) ∧ Below w.heap.size w w' := by
  obtain ⟨hE1, hE2, -⟩ := ents2 w (.cells #[.int .i64 (-1), .slice s.ao s.n s.c] 28) (.cells #[.int .i64 1, .slice t.ao t.n t.c] 28)
  have hB := ((Grew.refl w).alloc (.cells #[.int .i64 (-1), .slice s.ao s.n s.c] 28)).alloc (.cells #[.int .i64 1, .slice t.ao t.n t.c] 28)
  have chE1a := box2_c0 hE1
  have chE1b := box2_c1 hE1
  have chE2a := box2_c0 hE2
  have chE2b := box2_c1 hE2
  go_enter Try.func30, Try.ntmps30
  go_wp2
  generalize (w.alloc (.cells #[.int .i64 (-1), .slice s.ao s.n s.c] 28)).alloc (.cells #[.int .i64 1, .slice t.ao t.n t.c] 28) = W at *
  go_ret
  exact ⟨rfl, hB⟩

set_option maxRecDepth 100000 in
set_option maxHeartbeats 1600000 in
theorem rneg_z {w : World} {s : Sl} {x : Nat} (h : RefS w s x) (hn : s.n ≤ 1000000) (hx0 : x = 0) :
    Calls Try.prog 28 #[.agg #[.int .i64 0, .slice s.ao s.n s.c]] w fun e w' => ∃ u : Sl, e = .returned (.agg #[.int .i64 0, .slice u.ao u.n u.c]) ∧ RefS w' u (x) ∧ u.n ≤ s.n ∧ Below w.heap.size w w' := by
  obtain ⟨hE1, hE2, -⟩ := ents2 w (.cells #[.int .i64 0, .slice s.ao s.n s.c] 28) (.cells #[.int .i64 0, .slice none 0 0] 28)
  have hB := ((Grew.refl w).alloc (.cells #[.int .i64 0, .slice s.ao s.n s.c] 28)).alloc (.cells #[.int .i64 0, .slice none 0 0] 28)
  have hx := h.grew hB
  have chE1a := box2_c0 hE1
  have chE1b := box2_c1 hE1
  have chE2a := box2_c0 hE2
  have chE2b := box2_c1 hE2
  have fhE2a := box2_f hE2 0
  have fhE2b := box2_f hE2 1
  go_enter Try.func28, Try.ntmps28
  go_wp2_with fail
  generalize (w.alloc (.cells #[.int .i64 0, .slice s.ao s.n s.c] 28)).alloc (.cells #[.int .i64 0, .slice none 0 0] 28) = W at *
  refine (rmade_zero hx (by omega) _ hx0).mono ?_
  rintro e w1 ⟨rfl, hb1⟩
  have ha1 : Grew w1 (w1) := Grew.refl w1
  have hg1' := (Grew.call (Grew.refl _) hb1).trans ha1
  replace hx := hx.grew hg1'
  replace hE1 := ent_grew hg1' hE1
  replace hE2 := ent_grew hg1' hE2
  replace hB := hB.trans hg1'
  clear hg1' ha1 hb1 chE1a chE1b chE2a chE2b fhE2a fhE2b
  have chE1a := box2_c0 hE1
  have chE1b := box2_c1 hE1
  have chE2a := box2_c0 hE2
  have chE2b := box2_c1 hE2
  have fhE2a := box2_f hE2 0
  have fhE2b := box2_f hE2 1
  go_wp2
  have hq := box2_set hE2 (.int .i64 0) (.slice none 0 0)
  have hq0 := box2_c0 hq
  have hq1 := box2_c1 hq
  have hq9 := hB.set2 (k := w.heap.size + 1) (by omega) (.int .i64 0) (.slice none 0 0)
  have hu2 := (RefS.nil w1 none 0 (by omega)).kp ((Kp.refl _).set2 hE2 (by decide) (.int .i64 0) (.slice none 0 0))
  have hz0 : x = 0 := by first | rfl | assumption | omega
  clear hq
  clear chE1a chE1b chE2a chE2b fhE2a fhE2b
  generalize (w1.setCell ⟨w.heap.size + 1, 0, none⟩ (.int .i64 0)).setCell ⟨w.heap.size + 1, 1, none⟩ (.slice none 0 0) = W9 at *
  refine bodyPost_ret (v := .agg #[.int .i64 0, .slice none 0 0]) (by simp [results, Try.results28, go_sem, hq0, hq1]) rfl ⟨⟨none, 0, 0⟩, rfl, (by rw [hz0]; exact hu2), Nat.zero_le _, hq9⟩

set_option maxRecDepth 100000 in
set_option maxHeartbeats 1600000 in
theorem rzmul_zn {w : World} {s t : Sl} {x y : Nat} (h : RefS w s x) (h' : RefS w t y) (hn : s.n ≤ 1000000) (hm : t.n ≤ 1000000) (hx0 : x = 0) (hy0 : 0 < y) :
    Calls Try.prog 32 #[.agg #[.int .i64 0, .slice s.ao s.n s.c], .agg #[.int .i64 (-1), .slice t.ao t.n t.c]] w fun e w' => ∃ u : Sl, e = .returned (.agg #[.int .i64 0, .slice u.ao u.n u.c]) ∧ RefS w' u (x * y) ∧ u.n ≤ s.n + t.n ∧ Below w.heap.size w w' := by
  obtain ⟨hE1, hE2, hE3, -⟩ := ents3 w (.cells #[.int .i64 0, .slice s.ao s.n s.c] 28) (.cells #[.int .i64 (-1), .slice t.ao t.n t.c] 28) (.cells #[.int .i64 0, .slice none 0 0] 28)
  have hB := (((Grew.refl w).alloc (.cells #[.int .i64 0, .slice s.ao s.n s.c] 28)).alloc (.cells #[.int .i64 (-1), .slice t.ao t.n t.c] 28)).alloc (.cells #[.int .i64 0, .slice none 0 0] 28)
  have hx := h.grew hB
  have hy := h'.grew hB
  have chE1a := box2_c0 hE1
  have chE1b := box2_c1 hE1
  have chE2a := box2_c0 hE2
  have chE2b := box2_c1 hE2
  have chE3a := box2_c0 hE3
  have chE3b := box2_c1 hE3
  have fhE3a := box2_f hE3 0
  have fhE3b := box2_f hE3 1
  go_enter Try.func32, Try.ntmps32
  go_wp2
  generalize ((w.alloc (.cells #[.int .i64 0, .slice s.ao s.n s.c] 28)).alloc (.cells #[.int .i64 (-1), .slice t.ao t.n t.c] 28)).alloc (.cells #[.int .i64 0, .slice none 0 0] 28) = W at *
  have hw1 : IntKind.i64.wrap 1 = 1 := by decide
  have hwn : IntKind.i64.wrap (-1) = -1 := by decide
  have hxy : x * y = 0 := by first | (rw [hx0, Nat.zero_mul]; done) | (rw [hy0, Nat.mul_zero]; done)
  clear chE1a chE1b chE2a chE2b chE3a chE3b fhE3a fhE3b
  have hF0 := Fr.init hE3 hB
  refine wp_region_held_drew (S := (fun w' => Fr w W (w.heap.size + 1 + 1) 28 w')) (by kernel_rfl) ?hSz202 (fun hHeld => ?restz202)
  case hSz202 => (try dsimp only); (first | exact hF0.drew | exact hHeld.call ‹Below _ _ _›)
  refine wpAnyH_take (i := 0) (oi := ?oiz203) (v := ?vz203) ?hiz203 (by kernel_rfl) (by kernel_rfl) (by kernel_rfl) ?hqz203 ?hyz203 hHeld ?restz203
  case hiz203 => simp only [List.getElem?_toArray, List.getElem?_cons_zero]; exact rfl
  case hqz203 => exact fun _ _ _ h => h
  case hyz203 => refine Or.inl ⟨by rfl, ?_⟩; intro w hSw; (try dsimp only at hSw); go_simp; try with_reducible rfl
  (try simp only [Act.put, List.setIfInBounds_toArray, List.set_cons_zero, List.set_cons_succ])
  refine wpAnyH_take (i := 1) (oi := ?oiz204) (v := ?vz204) ?hiz204 (by kernel_rfl) (by kernel_rfl) (by kernel_rfl) ?hqz204 ?hyz204 hHeld ?restz204
  case hiz204 => simp only [List.getElem?_toArray, List.getElem?_cons_succ, List.getElem?_cons_zero]; exact rfl
  case hqz204 => exact fun _ _ _ h => h
  case hyz204 => refine Or.inl ⟨by rfl, ?_⟩; intro w hSw; have phE1 := hSw.ent hE1 (by omega); have qhE1 := box2_c0 phE1; have rhE1 := box2_c1 phE1; have phE2 := hSw.ent hE2 (by omega); have qhE2 := box2_c0 phE2; have rhE2 := box2_c1 phE2; go_simp; try with_reducible rfl
  (try simp only [Act.put, List.setIfInBounds_toArray, List.set_cons_zero, List.set_cons_succ])
  refine wpAnyH_take (i := 2) (oi := ?oiz205) (v := ?vz205) ?hiz205 (by kernel_rfl) (by kernel_rfl) (by kernel_rfl) ?hqz205 ?hyz205 hHeld ?restz205
  case hiz205 => simp only [List.getElem?_toArray, List.getElem?_cons_succ, List.getElem?_cons_zero]; exact rfl
  case hqz205 => exact fun _ _ _ h => h
  case hyz205 => refine Or.inl ⟨by rfl, ?_⟩; intro w hSw; (try dsimp only at hSw); go_simp; try with_reducible rfl
  (try simp only [Act.put, List.setIfInBounds_toArray, List.set_cons_zero, List.set_cons_succ])
  refine wpAnyH_take (i := 3) (oi := ?oiz206) (v := ?vz206) ?hiz206 (by kernel_rfl) (by kernel_rfl) (by kernel_rfl) ?hqz206 ?hyz206 hHeld ?restz206
  case hiz206 => simp only [List.getElem?_toArray, List.getElem?_cons_succ, List.getElem?_cons_zero]; exact rfl
  case hqz206 => exact fun _ _ _ h => h
  case hyz206 => refine Or.inl ⟨by rfl, ?_⟩; intro w hSw; have phE1 := hSw.ent hE1 (by omega); have qhE1 := box2_c0 phE1; have rhE1 := box2_c1 phE1; have phE2 := hSw.ent hE2 (by omega); have qhE2 := box2_c0 phE2; have rhE2 := box2_c1 phE2; go_simp; try with_reducible rfl
  (try simp only [Act.put, List.setIfInBounds_toArray, List.set_cons_zero, List.set_cons_succ])
  refine wpAnyH_take (i := 4) (oi := ?oiz207) (v := ?vz207) ?hiz207 (by kernel_rfl) (by kernel_rfl) (by kernel_rfl) ?hqz207 ?hyz207 hHeld ?restz207
  case hiz207 => simp only [List.getElem?_toArray, List.getElem?_cons_succ, List.getElem?_cons_zero]; exact rfl
  case hqz207 => exact fun _ _ _ h => h
  case hyz207 => refine Or.inl ⟨by rfl, ?_⟩; intro w hSw; (try dsimp only at hSw); go_simp; try with_reducible rfl
  (try simp only [Act.put, List.setIfInBounds_toArray, List.set_cons_zero, List.set_cons_succ])
  refine wpAnyH_take (i := 5) (oi := ?oiz208) (v := ?vz208) ?hiz208 (by kernel_rfl) (by kernel_rfl) (by kernel_rfl) ?hqz208 ?hyz208 hHeld ?restz208
  case hiz208 => simp only [List.getElem?_toArray, List.getElem?_cons_succ, List.getElem?_cons_zero]; exact rfl
  case hqz208 => exact fun _ _ _ h => h
  case hyz208 => refine Or.inl ⟨by rfl, ?_⟩; intro w hSw; (try dsimp only at hSw); go_simp; try with_reducible rfl
  (try simp only [Act.put, List.setIfInBounds_toArray, List.set_cons_zero, List.set_cons_succ])
  refine wpAnyH_take (i := 6) (oi := ?oiz209) (v := ?vz209) ?hiz209 (by kernel_rfl) (by kernel_rfl) (by kernel_rfl) ?hqz209 ?hyz209 hHeld ?restz209
  case hiz209 => simp only [List.getElem?_toArray, List.getElem?_cons_succ, List.getElem?_cons_zero]; exact rfl
  case hqz209 => exact fun _ _ _ h => h
  case hyz209 => refine Or.inl ⟨by rfl, ?_⟩; intro w hSw; have phE1 := hSw.ent hE1 (by omega); have qhE1 := box2_c0 phE1; have rhE1 := box2_c1 phE1; have phE2 := hSw.ent hE2 (by omega); have qhE2 := box2_c0 phE2; have rhE2 := box2_c1 phE2; go_simp; try with_reducible rfl
  (try simp only [Act.put, List.setIfInBounds_toArray, List.set_cons_zero, List.set_cons_succ])
  refine wpAnyH_take (i := 7) (oi := ?oiz210) (v := ?vz210) ?hiz210 (by kernel_rfl) (by kernel_rfl) (by kernel_rfl) ?hqz210 ?hyz210 hHeld ?restz210
  case hiz210 => simp only [List.getElem?_toArray, List.getElem?_cons_succ, List.getElem?_cons_zero]; exact rfl
  case hqz210 => exact fun _ _ _ h => h
  case hyz210 => refine Or.inl ⟨by rfl, ?_⟩; intro w hSw; (try dsimp only at hSw); go_simp; try with_reducible rfl
  (try simp only [Act.put, List.setIfInBounds_toArray, List.set_cons_zero, List.set_cons_succ])
  refine wpAnyH_take (i := 8) (oi := ?oiz211) (v := ?vz211) ?hiz211 (by kernel_rfl) (by kernel_rfl) (by kernel_rfl) ?hqz211 ?hyz211 hHeld ?restz211
  case hiz211 => simp only [List.getElem?_toArray, List.getElem?_cons_succ, List.getElem?_cons_zero]; exact rfl
  case hqz211 => exact fun _ _ _ h => h
  case hyz211 => refine Or.inl ⟨by rfl, ?_⟩; intro w hSw; have phE1 := hSw.ent hE1 (by omega); have qhE1 := box2_c0 phE1; have rhE1 := box2_c1 phE1; have phE2 := hSw.ent hE2 (by omega); have qhE2 := box2_c0 phE2; have rhE2 := box2_c1 phE2; go_simp; try with_reducible rfl
  (try simp only [Act.put, List.setIfInBounds_toArray, List.set_cons_zero, List.set_cons_succ])
  refine wpAnyH_ready (rs := [9]) (by kernel_rfl) (by simp) ?_
  refine AllReadyH.cons (o := ?oiz212) ?hiz212 (fun K hK => ?stepz212) AllReadyH.nil
  case hiz212 => simp only [List.getElem?_toArray, List.getElem?_cons_succ, List.getElem?_cons_zero]; exact rfl
  go_simp
  (go_at_call 75; refine (rmul_spec (hHeld.ref hx) (hHeld.ref hy) (by omega) (by omega)).mono ?_; rintro e w1 ⟨u, rfl, hu, hun, hb1⟩)
  refine hK.out _ _ ?hSz212 (fun hHeld' => ?restz212)
  case hSz212 => (try dsimp only); (first | exact hF0.drew | exact hHeld.call ‹Below _ _ _›)
  clear hK K hHeld
  have hHeld := hHeld'
  clear hHeld'
  (try simp only [Act.put, List.setIfInBounds_toArray, List.set_cons_zero, List.set_cons_succ])
  refine wpAnyH_ready (rs := [10]) (by kernel_rfl) (by simp) ?_
  refine AllReadyH.cons (o := ?oiz213) ?hiz213 (fun K hK => ?stepz213) AllReadyH.nil
  case hiz213 => simp only [List.getElem?_toArray, List.getElem?_cons_succ, List.getElem?_cons_zero]; exact rfl
  go_simp
  (go_at_call 47; refine (rmade_zero hu (by omega) _ (by first | rfl | assumption | omega)).mono ?_; rintro e w2 ⟨rfl, hb2⟩)
  refine hK.out _ _ ?hSz213 (fun hHeld' => ?restz213)
  case hSz213 => (try dsimp only); (first | exact hF0.drew | exact hHeld.call ‹Below _ _ _›)
  clear hK K hHeld
  have hHeld := hHeld'
  clear hHeld'
  (try simp only [Act.put, List.setIfInBounds_toArray, List.set_cons_zero, List.set_cons_succ])
  refine wpAnyH_ready (rs := [11]) (by kernel_rfl) (by simp) ?_
  refine AllReadyH.cons (o := ?oiz214) ?hiz214 (fun K hK => ?stepz214) AllReadyH.nil
  case hiz214 => simp only [List.getElem?_toArray, List.getElem?_cons_succ, List.getElem?_cons_zero]; exact rfl
  obtain ⟨v0, b0, hR⟩ := hHeld.res; have c0 := box2_c0 hR; have c1 := box2_c1 hR; have f0 := box2_f hR 0; have f1 := box2_f hR 1; go_simp
  refine hK.out _ _ ?hSz214 (fun hHeld' => ?restz214)
  case hSz214 => (try dsimp only); exact hHeld.set2 (by decide) (by omega) _ _
  clear hK K hHeld
  have hHeld := hHeld'
  clear hHeld'
  (try simp only [Act.put, List.setIfInBounds_toArray, List.set_cons_zero, List.set_cons_succ])
  refine wpAnyH_done (by kernel_rfl) ?_ _
  have hq := box2_set hR (.int .i64 0) (.slice none 0 0)
  have hq0 := box2_c0 hq
  have hq1 := box2_c1 hq
  have hq9 := hHeld.below
  have hu2 := (RefS.nil w2 none 0 (by omega)).kp ((Kp.refl _).set2 hR (by decide) (.int .i64 0) (.slice none 0 0))
  have hz0 : x * y = 0 := by first | rfl | assumption | omega
  clear hHeld hq hR c0 c1 f0 f1
  generalize (w2.setCell ⟨w.heap.size + 1 + 1, 0, none⟩ (.int .i64 0)).setCell ⟨w.heap.size + 1 + 1, 1, none⟩ (.slice none 0 0) = W9 at *
  go_wp2
  refine bodyPost_ret (v := .agg #[.int .i64 0, .slice none 0 0]) (by simp [results, Try.results32, go_sem, hq0, hq1]) rfl ⟨⟨none, 0, 0⟩, rfl, (by rw [hz0]; exact hu2), Nat.zero_le _, hq9⟩

set_option maxRecDepth 100000 in
set_option maxHeartbeats 1600000 in
theorem rzadd_zn {w : World} {s t : Sl} {x y : Nat} (h : RefS w s x) (h' : RefS w t y) (hn : s.n ≤ 1000000) (hm : t.n ≤ 1000000) (hx0 : x = 0) (hy0 : 0 < y) :
    Calls Try.prog 18 #[.agg #[.int .i64 0, .slice s.ao s.n s.c], .agg #[.int .i64 (-1), .slice t.ao t.n t.c]] w fun e w' => ∃ u : Sl, e = .returned (.agg #[.int .i64 (-1), .slice u.ao u.n u.c]) ∧ RefS w' u (y) ∧ u.n ≤ max s.n t.n + 1 ∧ Below w.heap.size w w' := by
  obtain ⟨hE1, hE2, hE3, -⟩ := ents3 w (.cells #[.int .i64 0, .slice s.ao s.n s.c] 28) (.cells #[.int .i64 (-1), .slice t.ao t.n t.c] 28) (.cells #[.int .i64 0, .slice none 0 0] 28)
  have hB := (((Grew.refl w).alloc (.cells #[.int .i64 0, .slice s.ao s.n s.c] 28)).alloc (.cells #[.int .i64 (-1), .slice t.ao t.n t.c] 28)).alloc (.cells #[.int .i64 0, .slice none 0 0] 28)
  have hx := h.grew hB
  have hy := h'.grew hB
  have chE1a := box2_c0 hE1
  have chE1b := box2_c1 hE1
  have chE2a := box2_c0 hE2
  have chE2b := box2_c1 hE2
  have chE3a := box2_c0 hE3
  have chE3b := box2_c1 hE3
  have fhE3a := box2_f hE3 0
  have fhE3b := box2_f hE3 1
  go_enter Try.func18, Try.ntmps18
  go_wp2
  have hq9 := hB
  have hR9 := hy
  exact bodyPost_ret (v := .agg #[.int .i64 (-1), .slice t.ao t.n t.c]) (by simp [results, Try.results18, go_sem]) rfl ⟨t, rfl, RefS.kp (h') (((((Kp.refl w).alloc _).alloc _).alloc _)), by omega, ((((Grew.refl w).alloc _).alloc _).alloc _)⟩

set_option maxRecDepth 100000 in
set_option maxHeartbeats 1600000 in
theorem rzcmp_zn {w : World} (s t : Sl) :
    Calls Try.prog 30 #[.agg #[.int .i64 0, .slice s.ao s.n s.c], .agg #[.int .i64 (-1), .slice t.ao t.n t.c]] w fun e w' => e = .returned (.int .i64 1) ∧ Below w.heap.size w w' := by
  obtain ⟨hE1, hE2, -⟩ := ents2 w (.cells #[.int .i64 0, .slice s.ao s.n s.c] 28) (.cells #[.int .i64 (-1), .slice t.ao t.n t.c] 28)
  have hB := ((Grew.refl w).alloc (.cells #[.int .i64 0, .slice s.ao s.n s.c] 28)).alloc (.cells #[.int .i64 (-1), .slice t.ao t.n t.c] 28)
  have chE1a := box2_c0 hE1
  have chE1b := box2_c1 hE1
  have chE2a := box2_c0 hE2
  have chE2b := box2_c1 hE2
  go_enter Try.func30, Try.ntmps30
  go_wp2
  generalize (w.alloc (.cells #[.int .i64 0, .slice s.ao s.n s.c] 28)).alloc (.cells #[.int .i64 (-1), .slice t.ao t.n t.c] 28) = W at *
  go_ret
  exact ⟨rfl, hB⟩

set_option maxRecDepth 100000 in
set_option maxHeartbeats 1600000 in
theorem rzmul_zz {w : World} {s t : Sl} {x y : Nat} (h : RefS w s x) (h' : RefS w t y) (hn : s.n ≤ 1000000) (hm : t.n ≤ 1000000) (hx0 : x = 0) (hy0 : y = 0) :
    Calls Try.prog 32 #[.agg #[.int .i64 0, .slice s.ao s.n s.c], .agg #[.int .i64 0, .slice t.ao t.n t.c]] w fun e w' => ∃ u : Sl, e = .returned (.agg #[.int .i64 0, .slice u.ao u.n u.c]) ∧ RefS w' u (x * y) ∧ u.n ≤ s.n + t.n ∧ Below w.heap.size w w' := by
  obtain ⟨hE1, hE2, hE3, -⟩ := ents3 w (.cells #[.int .i64 0, .slice s.ao s.n s.c] 28) (.cells #[.int .i64 0, .slice t.ao t.n t.c] 28) (.cells #[.int .i64 0, .slice none 0 0] 28)
  have hB := (((Grew.refl w).alloc (.cells #[.int .i64 0, .slice s.ao s.n s.c] 28)).alloc (.cells #[.int .i64 0, .slice t.ao t.n t.c] 28)).alloc (.cells #[.int .i64 0, .slice none 0 0] 28)
  have hx := h.grew hB
  have hy := h'.grew hB
  have chE1a := box2_c0 hE1
  have chE1b := box2_c1 hE1
  have chE2a := box2_c0 hE2
  have chE2b := box2_c1 hE2
  have chE3a := box2_c0 hE3
  have chE3b := box2_c1 hE3
  have fhE3a := box2_f hE3 0
  have fhE3b := box2_f hE3 1
  go_enter Try.func32, Try.ntmps32
  go_wp2
  generalize ((w.alloc (.cells #[.int .i64 0, .slice s.ao s.n s.c] 28)).alloc (.cells #[.int .i64 0, .slice t.ao t.n t.c] 28)).alloc (.cells #[.int .i64 0, .slice none 0 0] 28) = W at *
  have hw1 : IntKind.i64.wrap 1 = 1 := by decide
  have hwn : IntKind.i64.wrap (-1) = -1 := by decide
  have hxy : x * y = 0 := by first | (rw [hx0, Nat.zero_mul]; done) | (rw [hy0, Nat.mul_zero]; done)
  clear chE1a chE1b chE2a chE2b chE3a chE3b fhE3a fhE3b
  have hF0 := Fr.init hE3 hB
  refine wp_region_held_drew (S := (fun w' => Fr w W (w.heap.size + 1 + 1) 28 w')) (by kernel_rfl) ?hSz215 (fun hHeld => ?restz215)
  case hSz215 => (try dsimp only); (first | exact hF0.drew | exact hHeld.call ‹Below _ _ _›)
  refine wpAnyH_take (i := 0) (oi := ?oiz216) (v := ?vz216) ?hiz216 (by kernel_rfl) (by kernel_rfl) (by kernel_rfl) ?hqz216 ?hyz216 hHeld ?restz216
  case hiz216 => simp only [List.getElem?_toArray, List.getElem?_cons_zero]; exact rfl
  case hqz216 => exact fun _ _ _ h => h
  case hyz216 => refine Or.inl ⟨by rfl, ?_⟩; intro w hSw; (try dsimp only at hSw); go_simp; try with_reducible rfl
  (try simp only [Act.put, List.setIfInBounds_toArray, List.set_cons_zero, List.set_cons_succ])
  refine wpAnyH_take (i := 1) (oi := ?oiz217) (v := ?vz217) ?hiz217 (by kernel_rfl) (by kernel_rfl) (by kernel_rfl) ?hqz217 ?hyz217 hHeld ?restz217
  case hiz217 => simp only [List.getElem?_toArray, List.getElem?_cons_succ, List.getElem?_cons_zero]; exact rfl
  case hqz217 => exact fun _ _ _ h => h
  case hyz217 => refine Or.inl ⟨by rfl, ?_⟩; intro w hSw; have phE1 := hSw.ent hE1 (by omega); have qhE1 := box2_c0 phE1; have rhE1 := box2_c1 phE1; have phE2 := hSw.ent hE2 (by omega); have qhE2 := box2_c0 phE2; have rhE2 := box2_c1 phE2; go_simp; try with_reducible rfl
  (try simp only [Act.put, List.setIfInBounds_toArray, List.set_cons_zero, List.set_cons_succ])
  refine wpAnyH_take (i := 2) (oi := ?oiz218) (v := ?vz218) ?hiz218 (by kernel_rfl) (by kernel_rfl) (by kernel_rfl) ?hqz218 ?hyz218 hHeld ?restz218
  case hiz218 => simp only [List.getElem?_toArray, List.getElem?_cons_succ, List.getElem?_cons_zero]; exact rfl
  case hqz218 => exact fun _ _ _ h => h
  case hyz218 => refine Or.inl ⟨by rfl, ?_⟩; intro w hSw; (try dsimp only at hSw); go_simp; try with_reducible rfl
  (try simp only [Act.put, List.setIfInBounds_toArray, List.set_cons_zero, List.set_cons_succ])
  refine wpAnyH_take (i := 3) (oi := ?oiz219) (v := ?vz219) ?hiz219 (by kernel_rfl) (by kernel_rfl) (by kernel_rfl) ?hqz219 ?hyz219 hHeld ?restz219
  case hiz219 => simp only [List.getElem?_toArray, List.getElem?_cons_succ, List.getElem?_cons_zero]; exact rfl
  case hqz219 => exact fun _ _ _ h => h
  case hyz219 => refine Or.inl ⟨by rfl, ?_⟩; intro w hSw; have phE1 := hSw.ent hE1 (by omega); have qhE1 := box2_c0 phE1; have rhE1 := box2_c1 phE1; have phE2 := hSw.ent hE2 (by omega); have qhE2 := box2_c0 phE2; have rhE2 := box2_c1 phE2; go_simp; try with_reducible rfl
  (try simp only [Act.put, List.setIfInBounds_toArray, List.set_cons_zero, List.set_cons_succ])
  refine wpAnyH_take (i := 4) (oi := ?oiz220) (v := ?vz220) ?hiz220 (by kernel_rfl) (by kernel_rfl) (by kernel_rfl) ?hqz220 ?hyz220 hHeld ?restz220
  case hiz220 => simp only [List.getElem?_toArray, List.getElem?_cons_succ, List.getElem?_cons_zero]; exact rfl
  case hqz220 => exact fun _ _ _ h => h
  case hyz220 => refine Or.inl ⟨by rfl, ?_⟩; intro w hSw; (try dsimp only at hSw); go_simp; try with_reducible rfl
  (try simp only [Act.put, List.setIfInBounds_toArray, List.set_cons_zero, List.set_cons_succ])
  refine wpAnyH_take (i := 5) (oi := ?oiz221) (v := ?vz221) ?hiz221 (by kernel_rfl) (by kernel_rfl) (by kernel_rfl) ?hqz221 ?hyz221 hHeld ?restz221
  case hiz221 => simp only [List.getElem?_toArray, List.getElem?_cons_succ, List.getElem?_cons_zero]; exact rfl
  case hqz221 => exact fun _ _ _ h => h
  case hyz221 => refine Or.inl ⟨by rfl, ?_⟩; intro w hSw; (try dsimp only at hSw); go_simp; try with_reducible rfl
  (try simp only [Act.put, List.setIfInBounds_toArray, List.set_cons_zero, List.set_cons_succ])
  refine wpAnyH_take (i := 6) (oi := ?oiz222) (v := ?vz222) ?hiz222 (by kernel_rfl) (by kernel_rfl) (by kernel_rfl) ?hqz222 ?hyz222 hHeld ?restz222
  case hiz222 => simp only [List.getElem?_toArray, List.getElem?_cons_succ, List.getElem?_cons_zero]; exact rfl
  case hqz222 => exact fun _ _ _ h => h
  case hyz222 => refine Or.inl ⟨by rfl, ?_⟩; intro w hSw; have phE1 := hSw.ent hE1 (by omega); have qhE1 := box2_c0 phE1; have rhE1 := box2_c1 phE1; have phE2 := hSw.ent hE2 (by omega); have qhE2 := box2_c0 phE2; have rhE2 := box2_c1 phE2; go_simp; try with_reducible rfl
  (try simp only [Act.put, List.setIfInBounds_toArray, List.set_cons_zero, List.set_cons_succ])
  refine wpAnyH_take (i := 7) (oi := ?oiz223) (v := ?vz223) ?hiz223 (by kernel_rfl) (by kernel_rfl) (by kernel_rfl) ?hqz223 ?hyz223 hHeld ?restz223
  case hiz223 => simp only [List.getElem?_toArray, List.getElem?_cons_succ, List.getElem?_cons_zero]; exact rfl
  case hqz223 => exact fun _ _ _ h => h
  case hyz223 => refine Or.inl ⟨by rfl, ?_⟩; intro w hSw; (try dsimp only at hSw); go_simp; try with_reducible rfl
  (try simp only [Act.put, List.setIfInBounds_toArray, List.set_cons_zero, List.set_cons_succ])
  refine wpAnyH_take (i := 8) (oi := ?oiz224) (v := ?vz224) ?hiz224 (by kernel_rfl) (by kernel_rfl) (by kernel_rfl) ?hqz224 ?hyz224 hHeld ?restz224
  case hiz224 => simp only [List.getElem?_toArray, List.getElem?_cons_succ, List.getElem?_cons_zero]; exact rfl
  case hqz224 => exact fun _ _ _ h => h
  case hyz224 => refine Or.inl ⟨by rfl, ?_⟩; intro w hSw; have phE1 := hSw.ent hE1 (by omega); have qhE1 := box2_c0 phE1; have rhE1 := box2_c1 phE1; have phE2 := hSw.ent hE2 (by omega); have qhE2 := box2_c0 phE2; have rhE2 := box2_c1 phE2; go_simp; try with_reducible rfl
  (try simp only [Act.put, List.setIfInBounds_toArray, List.set_cons_zero, List.set_cons_succ])
  refine wpAnyH_ready (rs := [9]) (by kernel_rfl) (by simp) ?_
  refine AllReadyH.cons (o := ?oiz225) ?hiz225 (fun K hK => ?stepz225) AllReadyH.nil
  case hiz225 => simp only [List.getElem?_toArray, List.getElem?_cons_succ, List.getElem?_cons_zero]; exact rfl
  go_simp
  (go_at_call 75; refine (rmul_spec (hHeld.ref hx) (hHeld.ref hy) (by omega) (by omega)).mono ?_; rintro e w1 ⟨u, rfl, hu, hun, hb1⟩)
  refine hK.out _ _ ?hSz225 (fun hHeld' => ?restz225)
  case hSz225 => (try dsimp only); (first | exact hF0.drew | exact hHeld.call ‹Below _ _ _›)
  clear hK K hHeld
  have hHeld := hHeld'
  clear hHeld'
  (try simp only [Act.put, List.setIfInBounds_toArray, List.set_cons_zero, List.set_cons_succ])
  refine wpAnyH_ready (rs := [10]) (by kernel_rfl) (by simp) ?_
  refine AllReadyH.cons (o := ?oiz226) ?hiz226 (fun K hK => ?stepz226) AllReadyH.nil
  case hiz226 => simp only [List.getElem?_toArray, List.getElem?_cons_succ, List.getElem?_cons_zero]; exact rfl
  go_simp
  (go_at_call 47; refine (rmade_zero hu (by omega) _ (by first | rfl | assumption | omega)).mono ?_; rintro e w2 ⟨rfl, hb2⟩)
  refine hK.out _ _ ?hSz226 (fun hHeld' => ?restz226)
  case hSz226 => (try dsimp only); (first | exact hF0.drew | exact hHeld.call ‹Below _ _ _›)
  clear hK K hHeld
  have hHeld := hHeld'
  clear hHeld'
  (try simp only [Act.put, List.setIfInBounds_toArray, List.set_cons_zero, List.set_cons_succ])
  refine wpAnyH_ready (rs := [11]) (by kernel_rfl) (by simp) ?_
  refine AllReadyH.cons (o := ?oiz227) ?hiz227 (fun K hK => ?stepz227) AllReadyH.nil
  case hiz227 => simp only [List.getElem?_toArray, List.getElem?_cons_succ, List.getElem?_cons_zero]; exact rfl
  obtain ⟨v0, b0, hR⟩ := hHeld.res; have c0 := box2_c0 hR; have c1 := box2_c1 hR; have f0 := box2_f hR 0; have f1 := box2_f hR 1; go_simp
  refine hK.out _ _ ?hSz227 (fun hHeld' => ?restz227)
  case hSz227 => (try dsimp only); exact hHeld.set2 (by decide) (by omega) _ _
  clear hK K hHeld
  have hHeld := hHeld'
  clear hHeld'
  (try simp only [Act.put, List.setIfInBounds_toArray, List.set_cons_zero, List.set_cons_succ])
  refine wpAnyH_done (by kernel_rfl) ?_ _
  have hq := box2_set hR (.int .i64 0) (.slice none 0 0)
  have hq0 := box2_c0 hq
  have hq1 := box2_c1 hq
  have hq9 := hHeld.below
  have hu2 := (RefS.nil w2 none 0 (by omega)).kp ((Kp.refl _).set2 hR (by decide) (.int .i64 0) (.slice none 0 0))
  have hz0 : x * y = 0 := by first | rfl | assumption | omega
  clear hHeld hq hR c0 c1 f0 f1
  generalize (w2.setCell ⟨w.heap.size + 1 + 1, 0, none⟩ (.int .i64 0)).setCell ⟨w.heap.size + 1 + 1, 1, none⟩ (.slice none 0 0) = W9 at *
  go_wp2
  refine bodyPost_ret (v := .agg #[.int .i64 0, .slice none 0 0]) (by simp [results, Try.results32, go_sem, hq0, hq1]) rfl ⟨⟨none, 0, 0⟩, rfl, (by rw [hz0]; exact hu2), Nat.zero_le _, hq9⟩

set_option maxRecDepth 100000 in
set_option maxHeartbeats 1600000 in
theorem rzadd_zz {w : World} {s t : Sl} {x y : Nat} (h : RefS w s x) (h' : RefS w t y) (hn : s.n ≤ 1000000) (hm : t.n ≤ 1000000) (hx0 : x = 0) (hy0 : y = 0) :
    Calls Try.prog 18 #[.agg #[.int .i64 0, .slice s.ao s.n s.c], .agg #[.int .i64 0, .slice t.ao t.n t.c]] w fun e w' => ∃ u : Sl, e = .returned (.agg #[.int .i64 0, .slice u.ao u.n u.c]) ∧ RefS w' u (y) ∧ u.n ≤ max s.n t.n + 1 ∧ Below w.heap.size w w' := by
  obtain ⟨hE1, hE2, hE3, -⟩ := ents3 w (.cells #[.int .i64 0, .slice s.ao s.n s.c] 28) (.cells #[.int .i64 0, .slice t.ao t.n t.c] 28) (.cells #[.int .i64 0, .slice none 0 0] 28)
  have hB := (((Grew.refl w).alloc (.cells #[.int .i64 0, .slice s.ao s.n s.c] 28)).alloc (.cells #[.int .i64 0, .slice t.ao t.n t.c] 28)).alloc (.cells #[.int .i64 0, .slice none 0 0] 28)
  have hx := h.grew hB
  have hy := h'.grew hB
  have chE1a := box2_c0 hE1
  have chE1b := box2_c1 hE1
  have chE2a := box2_c0 hE2
  have chE2b := box2_c1 hE2
  have chE3a := box2_c0 hE3
  have chE3b := box2_c1 hE3
  have fhE3a := box2_f hE3 0
  have fhE3b := box2_f hE3 1
  go_enter Try.func18, Try.ntmps18
  go_wp2
  have hq9 := hB
  have hR9 := hy
  exact bodyPost_ret (v := .agg #[.int .i64 0, .slice t.ao t.n t.c]) (by simp [results, Try.results18, go_sem]) rfl ⟨t, rfl, RefS.kp (h') (((((Kp.refl w).alloc _).alloc _).alloc _)), by omega, ((((Grew.refl w).alloc _).alloc _).alloc _)⟩

set_option maxRecDepth 100000 in
set_option maxHeartbeats 1600000 in
theorem rzcmp_zz_eq {w : World} {s t : Sl} {x y : Nat} (h : RefS w s x) (h' : RefS w t y) (hn : s.n ≤ 1000000) (hm : t.n ≤ 1000000) (hc : x = y) :
    Calls Try.prog 30 #[.agg #[.int .i64 0, .slice s.ao s.n s.c], .agg #[.int .i64 0, .slice t.ao t.n t.c]] w fun e w' => e = .returned (.int .i64 (0)) ∧ Below w.heap.size w w' := by
  obtain ⟨hE1, hE2, -⟩ := ents2 w (.cells #[.int .i64 0, .slice s.ao s.n s.c] 28) (.cells #[.int .i64 0, .slice t.ao t.n t.c] 28)
  have hB := ((Grew.refl w).alloc (.cells #[.int .i64 0, .slice s.ao s.n s.c] 28)).alloc (.cells #[.int .i64 0, .slice t.ao t.n t.c] 28)
  have hx := h.grew hB
  have hy := h'.grew hB
  have chE1a := box2_c0 hE1
  have chE1b := box2_c1 hE1
  have chE2a := box2_c0 hE2
  have chE2b := box2_c1 hE2
  have hc0 : cmpN x y = 0 := by rw [hc]; exact cmpN_eq y
  go_enter Try.func30, Try.ntmps30
  go_wp2
  generalize (w.alloc (.cells #[.int .i64 0, .slice s.ao s.n s.c] 28)).alloc (.cells #[.int .i64 0, .slice t.ao t.n t.c] 28) = W at *
  clear chE1a chE1b chE2a chE2b
  refine wp_region_held_drew (S := (fun w' => Grew W w')) (by kernel_rfl) ?hSz228 (fun hHeld => ?restz228)
  case hSz228 => (try dsimp only); (first | exact (Grew.refl _).drew | exact Grew.call hHeld ‹Below _ _ _›)
  refine wpAnyH_take (i := 0) (oi := ?oiz229) (v := ?vz229) ?hiz229 (by kernel_rfl) (by kernel_rfl) (by kernel_rfl) ?hqz229 ?hyz229 hHeld ?restz229
  case hiz229 => simp only [List.getElem?_toArray, List.getElem?_cons_zero]; exact rfl
  case hqz229 => exact fun _ _ _ h => h
  case hyz229 => refine Or.inl ⟨by rfl, ?_⟩; intro w hSw; (try dsimp only at hSw); go_simp; try with_reducible rfl
  (try simp only [Act.put, List.setIfInBounds_toArray, List.set_cons_zero, List.set_cons_succ])
  refine wpAnyH_take (i := 1) (oi := ?oiz230) (v := ?vz230) ?hiz230 (by kernel_rfl) (by kernel_rfl) (by kernel_rfl) ?hqz230 ?hyz230 hHeld ?restz230
  case hiz230 => simp only [List.getElem?_toArray, List.getElem?_cons_succ, List.getElem?_cons_zero]; exact rfl
  case hqz230 => exact fun _ _ _ h => h
  case hyz230 => refine Or.inl ⟨by rfl, ?_⟩; intro w hSw; have phE1 := ent_grew hSw hE1; have qhE1 := box2_c0 phE1; have rhE1 := box2_c1 phE1; have phE2 := ent_grew hSw hE2; have qhE2 := box2_c0 phE2; have rhE2 := box2_c1 phE2; go_simp; try with_reducible rfl
  (try simp only [Act.put, List.setIfInBounds_toArray, List.set_cons_zero, List.set_cons_succ])
  refine wpAnyH_take (i := 2) (oi := ?oiz231) (v := ?vz231) ?hiz231 (by kernel_rfl) (by kernel_rfl) (by kernel_rfl) ?hqz231 ?hyz231 hHeld ?restz231
  case hiz231 => simp only [List.getElem?_toArray, List.getElem?_cons_succ, List.getElem?_cons_zero]; exact rfl
  case hqz231 => exact fun _ _ _ h => h
  case hyz231 => refine Or.inl ⟨by rfl, ?_⟩; intro w hSw; (try dsimp only at hSw); go_simp; try with_reducible rfl
  (try simp only [Act.put, List.setIfInBounds_toArray, List.set_cons_zero, List.set_cons_succ])
  refine wpAnyH_take (i := 3) (oi := ?oiz232) (v := ?vz232) ?hiz232 (by kernel_rfl) (by kernel_rfl) (by kernel_rfl) ?hqz232 ?hyz232 hHeld ?restz232
  case hiz232 => simp only [List.getElem?_toArray, List.getElem?_cons_succ, List.getElem?_cons_zero]; exact rfl
  case hqz232 => exact fun _ _ _ h => h
  case hyz232 => refine Or.inl ⟨by rfl, ?_⟩; intro w hSw; have phE1 := ent_grew hSw hE1; have qhE1 := box2_c0 phE1; have rhE1 := box2_c1 phE1; have phE2 := ent_grew hSw hE2; have qhE2 := box2_c0 phE2; have rhE2 := box2_c1 phE2; go_simp; try with_reducible rfl
  (try simp only [Act.put, List.setIfInBounds_toArray, List.set_cons_zero, List.set_cons_succ])
  refine wpAnyH_take (i := 4) (oi := ?oiz233) (v := ?vz233) ?hiz233 (by kernel_rfl) (by kernel_rfl) (by kernel_rfl) ?hqz233 ?hyz233 hHeld ?restz233
  case hiz233 => simp only [List.getElem?_toArray, List.getElem?_cons_succ, List.getElem?_cons_zero]; exact rfl
  case hqz233 => exact fun _ _ _ h => h
  case hyz233 => refine Or.inl ⟨by rfl, ?_⟩; intro w hSw; (try dsimp only at hSw); go_simp; try with_reducible rfl
  (try simp only [Act.put, List.setIfInBounds_toArray, List.set_cons_zero, List.set_cons_succ])
  refine wpAnyH_take (i := 5) (oi := ?oiz234) (v := ?vz234) ?hiz234 (by kernel_rfl) (by kernel_rfl) (by kernel_rfl) ?hqz234 ?hyz234 hHeld ?restz234
  case hiz234 => simp only [List.getElem?_toArray, List.getElem?_cons_succ, List.getElem?_cons_zero]; exact rfl
  case hqz234 => exact fun _ _ _ h => h
  case hyz234 => refine Or.inl ⟨by rfl, ?_⟩; intro w hSw; have phE1 := ent_grew hSw hE1; have qhE1 := box2_c0 phE1; have rhE1 := box2_c1 phE1; have phE2 := ent_grew hSw hE2; have qhE2 := box2_c0 phE2; have rhE2 := box2_c1 phE2; go_simp; try with_reducible rfl
  (try simp only [Act.put, List.setIfInBounds_toArray, List.set_cons_zero, List.set_cons_succ])
  refine wpAnyH_ready (rs := [6]) (by kernel_rfl) (by simp) ?_
  refine AllReadyH.cons (o := ?oiz235) ?hiz235 (fun K hK => ?stepz235) AllReadyH.nil
  case hiz235 => simp only [List.getElem?_toArray, List.getElem?_cons_succ, List.getElem?_cons_zero]; exact rfl
  go_simp
  (go_at_call 64; refine (rcmp_at (0) hc0 (hx.grew hHeld) (hy.grew hHeld) (by omega) (by omega)).mono ?_; rintro e w1 ⟨rfl, hb1⟩)
  refine hK.out _ _ ?hSz235 (fun hHeld' => ?restz235)
  case hSz235 => (try dsimp only); (first | exact (Grew.refl _).drew | exact Grew.call hHeld ‹Below _ _ _›)
  clear hK K hHeld
  have hHeld := hHeld'
  clear hHeld'
  (try simp only [Act.put, List.setIfInBounds_toArray, List.set_cons_zero, List.set_cons_succ])
  refine wpAnyH_take (i := 7) (oi := ?oiz236) (v := ?vz236) ?hiz236 (by kernel_rfl) (by kernel_rfl) (by kernel_rfl) ?hqz236 ?hyz236 hHeld ?restz236
  case hiz236 => simp only [List.getElem?_toArray, List.getElem?_cons_succ, List.getElem?_cons_zero]; exact rfl
  case hqz236 => exact fun _ _ _ h => h
  case hyz236 => refine Or.inl ⟨by rfl, ?_⟩; intro w hSw; (try dsimp only at hSw); go_simp; try with_reducible rfl
  (try simp only [Act.put, List.setIfInBounds_toArray, List.set_cons_zero, List.set_cons_succ])
  refine wpAnyH_take (i := 8) (oi := ?oiz237) (v := ?vz237) ?hiz237 (by kernel_rfl) (by kernel_rfl) (by kernel_rfl) ?hqz237 ?hyz237 hHeld ?restz237
  case hiz237 => simp only [List.getElem?_toArray, List.getElem?_cons_succ, List.getElem?_cons_zero]; exact rfl
  case hqz237 => exact fun _ _ _ h => h
  case hyz237 => refine Or.inl ⟨by rfl, ?_⟩; intro w hSw; (try dsimp only at hSw); go_simp; try with_reducible rfl
  (try simp only [Act.put, List.setIfInBounds_toArray, List.set_cons_zero, List.set_cons_succ])
  refine wpAnyH_done (by kernel_rfl) ?_ _
  have hq9 := hB.trans hHeld
  clear hHeld
  go_wp2
  go_ret
  exact ⟨rfl, hq9⟩

set_option maxRecDepth 100000 in
set_option maxHeartbeats 1600000 in
theorem rzmul_zp {w : World} {s t : Sl} {x y : Nat} (h : RefS w s x) (h' : RefS w t y) (hn : s.n ≤ 1000000) (hm : t.n ≤ 1000000) (hx0 : x = 0) (hy0 : 0 < y) :
    Calls Try.prog 32 #[.agg #[.int .i64 0, .slice s.ao s.n s.c], .agg #[.int .i64 1, .slice t.ao t.n t.c]] w fun e w' => ∃ u : Sl, e = .returned (.agg #[.int .i64 0, .slice u.ao u.n u.c]) ∧ RefS w' u (x * y) ∧ u.n ≤ s.n + t.n ∧ Below w.heap.size w w' := by
  obtain ⟨hE1, hE2, hE3, -⟩ := ents3 w (.cells #[.int .i64 0, .slice s.ao s.n s.c] 28) (.cells #[.int .i64 1, .slice t.ao t.n t.c] 28) (.cells #[.int .i64 0, .slice none 0 0] 28)
  have hB := (((Grew.refl w).alloc (.cells #[.int .i64 0, .slice s.ao s.n s.c] 28)).alloc (.cells #[.int .i64 1, .slice t.ao t.n t.c] 28)).alloc (.cells #[.int .i64 0, .slice none 0 0] 28)
  have hx := h.grew hB
  have hy := h'.grew hB
  have chE1a := box2_c0 hE1
  have chE1b := box2_c1 hE1
  have chE2a := box2_c0 hE2
  have chE2b := box2_c1 hE2
  have chE3a := box2_c0 hE3
  have chE3b := box2_c1 hE3
  have fhE3a := box2_f hE3 0
  have fhE3b := box2_f hE3 1
  go_enter Try.func32, Try.ntmps32
  go_wp2
  generalize ((w.alloc (.cells #[.int .i64 0, .slice s.ao s.n s.c] 28)).alloc (.cells #[.int .i64 1, .slice t.ao t.n t.c] 28)).alloc (.cells #[.int .i64 0, .slice none 0 0] 28) = W at *
  have hw1 : IntKind.i64.wrap 1 = 1 := by decide
  have hwn : IntKind.i64.wrap (-1) = -1 := by decide
  have hxy : x * y = 0 := by first | (rw [hx0, Nat.zero_mul]; done) | (rw [hy0, Nat.mul_zero]; done)
  clear chE1a chE1b chE2a chE2b chE3a chE3b fhE3a fhE3b
  have hF0 := Fr.init hE3 hB
  refine wp_region_held_drew (S := (fun w' => Fr w W (w.heap.size + 1 + 1) 28 w')) (by kernel_rfl) ?hSz238 (fun hHeld => ?restz238)
  case hSz238 => (try dsimp only); (first | exact hF0.drew | exact hHeld.call ‹Below _ _ _›)
  refine wpAnyH_take (i := 0) (oi := ?oiz239) (v := ?vz239) ?hiz239 (by kernel_rfl) (by kernel_rfl) (by kernel_rfl) ?hqz239 ?hyz239 hHeld ?restz239
  case hiz239 => simp only [List.getElem?_toArray, List.getElem?_cons_zero]; exact rfl
  case hqz239 => exact fun _ _ _ h => h
  case hyz239 => refine Or.inl ⟨by rfl, ?_⟩; intro w hSw; (try dsimp only at hSw); go_simp; try with_reducible rfl
  (try simp only [Act.put, List.setIfInBounds_toArray, List.set_cons_zero, List.set_cons_succ])
  refine wpAnyH_take (i := 1) (oi := ?oiz240) (v := ?vz240) ?hiz240 (by kernel_rfl) (by kernel_rfl) (by kernel_rfl) ?hqz240 ?hyz240 hHeld ?restz240
  case hiz240 => simp only [List.getElem?_toArray, List.getElem?_cons_succ, List.getElem?_cons_zero]; exact rfl
  case hqz240 => exact fun _ _ _ h => h
  case hyz240 => refine Or.inl ⟨by rfl, ?_⟩; intro w hSw; have phE1 := hSw.ent hE1 (by omega); have qhE1 := box2_c0 phE1; have rhE1 := box2_c1 phE1; have phE2 := hSw.ent hE2 (by omega); have qhE2 := box2_c0 phE2; have rhE2 := box2_c1 phE2; go_simp; try with_reducible rfl
  (try simp only [Act.put, List.setIfInBounds_toArray, List.set_cons_zero, List.set_cons_succ])
  refine wpAnyH_take (i := 2) (oi := ?oiz241) (v := ?vz241) ?hiz241 (by kernel_rfl) (by kernel_rfl) (by kernel_rfl) ?hqz241 ?hyz241 hHeld ?restz241
  case hiz241 => simp only [List.getElem?_toArray, List.getElem?_cons_succ, List.getElem?_cons_zero]; exact rfl
  case hqz241 => exact fun _ _ _ h => h
  case hyz241 => refine Or.inl ⟨by rfl, ?_⟩; intro w hSw; (try dsimp only at hSw); go_simp; try with_reducible rfl
  (try simp only [Act.put, List.setIfInBounds_toArray, List.set_cons_zero, List.set_cons_succ])
  refine wpAnyH_take (i := 3) (oi := ?oiz242) (v := ?vz242) ?hiz242 (by kernel_rfl) (by kernel_rfl) (by kernel_rfl) ?hqz242 ?hyz242 hHeld ?restz242
  case hiz242 => simp only [List.getElem?_toArray, List.getElem?_cons_succ, List.getElem?_cons_zero]; exact rfl
  case hqz242 => exact fun _ _ _ h => h
  case hyz242 => refine Or.inl ⟨by rfl, ?_⟩; intro w hSw; have phE1 := hSw.ent hE1 (by omega); have qhE1 := box2_c0 phE1; have rhE1 := box2_c1 phE1; have phE2 := hSw.ent hE2 (by omega); have qhE2 := box2_c0 phE2; have rhE2 := box2_c1 phE2; go_simp; try with_reducible rfl
  (try simp only [Act.put, List.setIfInBounds_toArray, List.set_cons_zero, List.set_cons_succ])
  refine wpAnyH_take (i := 4) (oi := ?oiz243) (v := ?vz243) ?hiz243 (by kernel_rfl) (by kernel_rfl) (by kernel_rfl) ?hqz243 ?hyz243 hHeld ?restz243
  case hiz243 => simp only [List.getElem?_toArray, List.getElem?_cons_succ, List.getElem?_cons_zero]; exact rfl
  case hqz243 => exact fun _ _ _ h => h
  case hyz243 => refine Or.inl ⟨by rfl, ?_⟩; intro w hSw; (try dsimp only at hSw); go_simp; try with_reducible rfl
  (try simp only [Act.put, List.setIfInBounds_toArray, List.set_cons_zero, List.set_cons_succ])
  refine wpAnyH_take (i := 5) (oi := ?oiz244) (v := ?vz244) ?hiz244 (by kernel_rfl) (by kernel_rfl) (by kernel_rfl) ?hqz244 ?hyz244 hHeld ?restz244
  case hiz244 => simp only [List.getElem?_toArray, List.getElem?_cons_succ, List.getElem?_cons_zero]; exact rfl
  case hqz244 => exact fun _ _ _ h => h
  case hyz244 => refine Or.inl ⟨by rfl, ?_⟩; intro w hSw; (try dsimp only at hSw); go_simp; try with_reducible rfl
  (try simp only [Act.put, List.setIfInBounds_toArray, List.set_cons_zero, List.set_cons_succ])
  refine wpAnyH_take (i := 6) (oi := ?oiz245) (v := ?vz245) ?hiz245 (by kernel_rfl) (by kernel_rfl) (by kernel_rfl) ?hqz245 ?hyz245 hHeld ?restz245
  case hiz245 => simp only [List.getElem?_toArray, List.getElem?_cons_succ, List.getElem?_cons_zero]; exact rfl
  case hqz245 => exact fun _ _ _ h => h
  case hyz245 => refine Or.inl ⟨by rfl, ?_⟩; intro w hSw; have phE1 := hSw.ent hE1 (by omega); have qhE1 := box2_c0 phE1; have rhE1 := box2_c1 phE1; have phE2 := hSw.ent hE2 (by omega); have qhE2 := box2_c0 phE2; have rhE2 := box2_c1 phE2; go_simp; try with_reducible rfl
  (try simp only [Act.put, List.setIfInBounds_toArray, List.set_cons_zero, List.set_cons_succ])
  refine wpAnyH_take (i := 7) (oi := ?oiz246) (v := ?vz246) ?hiz246 (by kernel_rfl) (by kernel_rfl) (by kernel_rfl) ?hqz246 ?hyz246 hHeld ?restz246
  case hiz246 => simp only [List.getElem?_toArray, List.getElem?_cons_succ, List.getElem?_cons_zero]; exact rfl
  case hqz246 => exact fun _ _ _ h => h
  case hyz246 => refine Or.inl ⟨by rfl, ?_⟩; intro w hSw; (try dsimp only at hSw); go_simp; try with_reducible rfl
  (try simp only [Act.put, List.setIfInBounds_toArray, List.set_cons_zero, List.set_cons_succ])
  refine wpAnyH_take (i := 8) (oi := ?oiz247) (v := ?vz247) ?hiz247 (by kernel_rfl) (by kernel_rfl) (by kernel_rfl) ?hqz247 ?hyz247 hHeld ?restz247
  case hiz247 => simp only [List.getElem?_toArray, List.getElem?_cons_succ, List.getElem?_cons_zero]; exact rfl
  case hqz247 => exact fun _ _ _ h => h
  case hyz247 => refine Or.inl ⟨by rfl, ?_⟩; intro w hSw; have phE1 := hSw.ent hE1 (by omega); have qhE1 := box2_c0 phE1; have rhE1 := box2_c1 phE1; have phE2 := hSw.ent hE2 (by omega); have qhE2 := box2_c0 phE2; have rhE2 := box2_c1 phE2; go_simp; try with_reducible rfl
  (try simp only [Act.put, List.setIfInBounds_toArray, List.set_cons_zero, List.set_cons_succ])
  refine wpAnyH_ready (rs := [9]) (by kernel_rfl) (by simp) ?_
  refine AllReadyH.cons (o := ?oiz248) ?hiz248 (fun K hK => ?stepz248) AllReadyH.nil
  case hiz248 => simp only [List.getElem?_toArray, List.getElem?_cons_succ, List.getElem?_cons_zero]; exact rfl
  go_simp
  (go_at_call 75; refine (rmul_spec (hHeld.ref hx) (hHeld.ref hy) (by omega) (by omega)).mono ?_; rintro e w1 ⟨u, rfl, hu, hun, hb1⟩)
  refine hK.out _ _ ?hSz248 (fun hHeld' => ?restz248)
  case hSz248 => (try dsimp only); (first | exact hF0.drew | exact hHeld.call ‹Below _ _ _›)
  clear hK K hHeld
  have hHeld := hHeld'
  clear hHeld'
  (try simp only [Act.put, List.setIfInBounds_toArray, List.set_cons_zero, List.set_cons_succ])
  refine wpAnyH_ready (rs := [10]) (by kernel_rfl) (by simp) ?_
  refine AllReadyH.cons (o := ?oiz249) ?hiz249 (fun K hK => ?stepz249) AllReadyH.nil
  case hiz249 => simp only [List.getElem?_toArray, List.getElem?_cons_succ, List.getElem?_cons_zero]; exact rfl
  go_simp
  (go_at_call 47; refine (rmade_zero hu (by omega) _ (by first | rfl | assumption | omega)).mono ?_; rintro e w2 ⟨rfl, hb2⟩)
  refine hK.out _ _ ?hSz249 (fun hHeld' => ?restz249)
  case hSz249 => (try dsimp only); (first | exact hF0.drew | exact hHeld.call ‹Below _ _ _›)
  clear hK K hHeld
  have hHeld := hHeld'
  clear hHeld'
  (try simp only [Act.put, List.setIfInBounds_toArray, List.set_cons_zero, List.set_cons_succ])
  refine wpAnyH_ready (rs := [11]) (by kernel_rfl) (by simp) ?_
  refine AllReadyH.cons (o := ?oiz250) ?hiz250 (fun K hK => ?stepz250) AllReadyH.nil
  case hiz250 => simp only [List.getElem?_toArray, List.getElem?_cons_succ, List.getElem?_cons_zero]; exact rfl
  obtain ⟨v0, b0, hR⟩ := hHeld.res; have c0 := box2_c0 hR; have c1 := box2_c1 hR; have f0 := box2_f hR 0; have f1 := box2_f hR 1; go_simp
  refine hK.out _ _ ?hSz250 (fun hHeld' => ?restz250)
  case hSz250 => (try dsimp only); exact hHeld.set2 (by decide) (by omega) _ _
  clear hK K hHeld
  have hHeld := hHeld'
  clear hHeld'
  (try simp only [Act.put, List.setIfInBounds_toArray, List.set_cons_zero, List.set_cons_succ])
  refine wpAnyH_done (by kernel_rfl) ?_ _
  have hq := box2_set hR (.int .i64 0) (.slice none 0 0)
  have hq0 := box2_c0 hq
  have hq1 := box2_c1 hq
  have hq9 := hHeld.below
  have hu2 := (RefS.nil w2 none 0 (by omega)).kp ((Kp.refl _).set2 hR (by decide) (.int .i64 0) (.slice none 0 0))
  have hz0 : x * y = 0 := by first | rfl | assumption | omega
  clear hHeld hq hR c0 c1 f0 f1
  generalize (w2.setCell ⟨w.heap.size + 1 + 1, 0, none⟩ (.int .i64 0)).setCell ⟨w.heap.size + 1 + 1, 1, none⟩ (.slice none 0 0) = W9 at *
  go_wp2
  refine bodyPost_ret (v := .agg #[.int .i64 0, .slice none 0 0]) (by simp [results, Try.results32, go_sem, hq0, hq1]) rfl ⟨⟨none, 0, 0⟩, rfl, (by rw [hz0]; exact hu2), Nat.zero_le _, hq9⟩

set_option maxRecDepth 100000 in
set_option maxHeartbeats 1600000 in
theorem rzadd_zp {w : World} {s t : Sl} {x y : Nat} (h : RefS w s x) (h' : RefS w t y) (hn : s.n ≤ 1000000) (hm : t.n ≤ 1000000) (hx0 : x = 0) (hy0 : 0 < y) :
    Calls Try.prog 18 #[.agg #[.int .i64 0, .slice s.ao s.n s.c], .agg #[.int .i64 1, .slice t.ao t.n t.c]] w fun e w' => ∃ u : Sl, e = .returned (.agg #[.int .i64 1, .slice u.ao u.n u.c]) ∧ RefS w' u (y) ∧ u.n ≤ max s.n t.n + 1 ∧ Below w.heap.size w w' := by
  obtain ⟨hE1, hE2, hE3, -⟩ := ents3 w (.cells #[.int .i64 0, .slice s.ao s.n s.c] 28) (.cells #[.int .i64 1, .slice t.ao t.n t.c] 28) (.cells #[.int .i64 0, .slice none 0 0] 28)
  have hB := (((Grew.refl w).alloc (.cells #[.int .i64 0, .slice s.ao s.n s.c] 28)).alloc (.cells #[.int .i64 1, .slice t.ao t.n t.c] 28)).alloc (.cells #[.int .i64 0, .slice none 0 0] 28)
  have hx := h.grew hB
  have hy := h'.grew hB
  have chE1a := box2_c0 hE1
  have chE1b := box2_c1 hE1
  have chE2a := box2_c0 hE2
  have chE2b := box2_c1 hE2
  have chE3a := box2_c0 hE3
  have chE3b := box2_c1 hE3
  have fhE3a := box2_f hE3 0
  have fhE3b := box2_f hE3 1
  go_enter Try.func18, Try.ntmps18
  go_wp2
  have hq9 := hB
  have hR9 := hy
  exact bodyPost_ret (v := .agg #[.int .i64 1, .slice t.ao t.n t.c]) (by simp [results, Try.results18, go_sem]) rfl ⟨t, rfl, RefS.kp (h') (((((Kp.refl w).alloc _).alloc _).alloc _)), by omega, ((((Grew.refl w).alloc _).alloc _).alloc _)⟩

set_option maxRecDepth 100000 in
set_option maxHeartbeats 1600000 in
theorem rzcmp_zp {w : World} (s t : Sl) :
    Calls Try.prog 30 #[.agg #[.int .i64 0, .slice s.ao s.n s.c], .agg #[.int .i64 1, .slice t.ao t.n t.c]] w fun e w' => e = .returned (.int .i64 (-1)) ∧ Below w.heap.size w w' := by
  obtain ⟨hE1, hE2, -⟩ := ents2 w (.cells #[.int .i64 0, .slice s.ao s.n s.c] 28) (.cells #[.int .i64 1, .slice t.ao t.n t.c] 28)
  have hB := ((Grew.refl w).alloc (.cells #[.int .i64 0, .slice s.ao s.n s.c] 28)).alloc (.cells #[.int .i64 1, .slice t.ao t.n t.c] 28)
  have chE1a := box2_c0 hE1
  have chE1b := box2_c1 hE1
  have chE2a := box2_c0 hE2
  have chE2b := box2_c1 hE2
  go_enter Try.func30, Try.ntmps30
  go_wp2
  generalize (w.alloc (.cells #[.int .i64 0, .slice s.ao s.n s.c] 28)).alloc (.cells #[.int .i64 1, .slice t.ao t.n t.c] 28) = W at *
  go_ret
  exact ⟨rfl, hB⟩

set_option maxRecDepth 100000 in
set_option maxHeartbeats 1600000 in
theorem rneg_p {w : World} {s : Sl} {x : Nat} (h : RefS w s x) (hn : s.n ≤ 1000000) (hx0 : 0 < x) :
    Calls Try.prog 28 #[.agg #[.int .i64 1, .slice s.ao s.n s.c]] w fun e w' => ∃ u : Sl, e = .returned (.agg #[.int .i64 (-1), .slice u.ao u.n u.c]) ∧ RefS w' u (x) ∧ u.n ≤ s.n ∧ Below w.heap.size w w' := by
  obtain ⟨hE1, hE2, -⟩ := ents2 w (.cells #[.int .i64 1, .slice s.ao s.n s.c] 28) (.cells #[.int .i64 0, .slice none 0 0] 28)
  have hB := ((Grew.refl w).alloc (.cells #[.int .i64 1, .slice s.ao s.n s.c] 28)).alloc (.cells #[.int .i64 0, .slice none 0 0] 28)
  have hx := h.grew hB
  have chE1a := box2_c0 hE1
  have chE1b := box2_c1 hE1
  have chE2a := box2_c0 hE2
  have chE2b := box2_c1 hE2
  have fhE2a := box2_f hE2 0
  have fhE2b := box2_f hE2 1
  go_enter Try.func28, Try.ntmps28
  go_wp2_with fail
  generalize (w.alloc (.cells #[.int .i64 1, .slice s.ao s.n s.c] 28)).alloc (.cells #[.int .i64 0, .slice none 0 0] 28) = W at *
  refine (rmade_pos hx (by omega) _ hx0).mono ?_
  rintro e w1 ⟨rfl, hb1⟩
  have ha1 : Grew w1 (w1) := Grew.refl w1
  have hg1' := (Grew.call (Grew.refl _) hb1).trans ha1
  replace hx := hx.grew hg1'
  replace hE1 := ent_grew hg1' hE1
  replace hE2 := ent_grew hg1' hE2
  replace hB := hB.trans hg1'
  clear hg1' ha1 hb1 chE1a chE1b chE2a chE2b fhE2a fhE2b
  have chE1a := box2_c0 hE1
  have chE1b := box2_c1 hE1
  have chE2a := box2_c0 hE2
  have chE2b := box2_c1 hE2
  have fhE2a := box2_f hE2 0
  have fhE2b := box2_f hE2 1
  go_wp2
  have hq := box2_set hE2 (.int .i64 (-1)) (.slice s.ao s.n s.c)
  have hq0 := box2_c0 hq
  have hq1 := box2_c1 hq
  have hq9 := hB.set2 (k := w.heap.size + 1) (by omega) (.int .i64 (-1)) (.slice s.ao s.n s.c)
  have hu2 := (hx).kp ((Kp.refl _).set2 hE2 (by decide) (.int .i64 (-1)) (.slice s.ao s.n s.c))
  clear hq
  clear chE1a chE1b chE2a chE2b fhE2a fhE2b
  generalize (w1.setCell ⟨w.heap.size + 1, 0, none⟩ (.int .i64 (-1))).setCell ⟨w.heap.size + 1, 1, none⟩ (.slice s.ao s.n s.c) = W9 at *
  refine bodyPost_ret (v := .agg #[.int .i64 (-1), .slice s.ao s.n s.c]) (by simp [results, Try.results28, go_sem, hq0, hq1]) rfl ⟨s, rfl, hu2, Nat.le_refl _, hq9⟩

set_option maxRecDepth 100000 in
set_option maxHeartbeats 1600000 in
theorem rzmul_pn {w : World} {s t : Sl} {x y : Nat} (h : RefS w s x) (h' : RefS w t y) (hn : s.n ≤ 1000000) (hm : t.n ≤ 1000000) (hx0 : 0 < x) (hy0 : 0 < y) :
    Calls Try.prog 32 #[.agg #[.int .i64 1, .slice s.ao s.n s.c], .agg #[.int .i64 (-1), .slice t.ao t.n t.c]] w fun e w' => ∃ u : Sl, e = .returned (.agg #[.int .i64 (-1), .slice u.ao u.n u.c]) ∧ RefS w' u (x * y) ∧ u.n ≤ s.n + t.n ∧ Below w.heap.size w w' := by
  obtain ⟨hE1, hE2, hE3, -⟩ := ents3 w (.cells #[.int .i64 1, .slice s.ao s.n s.c] 28) (.cells #[.int .i64 (-1), .slice t.ao t.n t.c] 28) (.cells #[.int .i64 0, .slice none 0 0] 28)
  have hB := (((Grew.refl w).alloc (.cells #[.int .i64 1, .slice s.ao s.n s.c] 28)).alloc (.cells #[.int .i64 (-1), .slice t.ao t.n t.c] 28)).alloc (.cells #[.int .i64 0, .slice none 0 0] 28)
  have hx := h.grew hB
  have hy := h'.grew hB
  have chE1a := box2_c0 hE1
  have chE1b := box2_c1 hE1
  have chE2a := box2_c0 hE2
  have chE2b := box2_c1 hE2
  have chE3a := box2_c0 hE3
  have chE3b := box2_c1 hE3
  have fhE3a := box2_f hE3 0
  have fhE3b := box2_f hE3 1
  go_enter Try.func32, Try.ntmps32
  go_wp2
  generalize ((w.alloc (.cells #[.int .i64 1, .slice s.ao s.n s.c] 28)).alloc (.cells #[.int .i64 (-1), .slice t.ao t.n t.c] 28)).alloc (.cells #[.int .i64 0, .slice none 0 0] 28) = W at *
  have hw1 : IntKind.i64.wrap 1 = 1 := by decide
  have hwn : IntKind.i64.wrap (-1) = -1 := by decide
  clear chE1a chE1b chE2a chE2b chE3a chE3b fhE3a fhE3b
  have hF0 := Fr.init hE3 hB
  refine wp_region_held_drew (S := (fun w' => Fr w W (w.heap.size + 1 + 1) 28 w')) (by kernel_rfl) ?hSz251 (fun hHeld => ?restz251)
  case hSz251 => (try dsimp only); (first | exact hF0.drew | exact hHeld.call ‹Below _ _ _›)
  refine wpAnyH_take (i := 0) (oi := ?oiz252) (v := ?vz252) ?hiz252 (by kernel_rfl) (by kernel_rfl) (by kernel_rfl) ?hqz252 ?hyz252 hHeld ?restz252
  case hiz252 => simp only [List.getElem?_toArray, List.getElem?_cons_zero]; exact rfl
  case hqz252 => exact fun _ _ _ h => h
  case hyz252 => refine Or.inl ⟨by rfl, ?_⟩; intro w hSw; (try dsimp only at hSw); go_simp; try with_reducible rfl
  (try simp only [Act.put, List.setIfInBounds_toArray, List.set_cons_zero, List.set_cons_succ])
  refine wpAnyH_take (i := 1) (oi := ?oiz253) (v := ?vz253) ?hiz253 (by kernel_rfl) (by kernel_rfl) (by kernel_rfl) ?hqz253 ?hyz253 hHeld ?restz253
  case hiz253 => simp only [List.getElem?_toArray, List.getElem?_cons_succ, List.getElem?_cons_zero]; exact rfl
  case hqz253 => exact fun _ _ _ h => h
  case hyz253 => refine Or.inl ⟨by rfl, ?_⟩; intro w hSw; have phE1 := hSw.ent hE1 (by omega); have qhE1 := box2_c0 phE1; have rhE1 := box2_c1 phE1; have phE2 := hSw.ent hE2 (by omega); have qhE2 := box2_c0 phE2; have rhE2 := box2_c1 phE2; go_simp; try with_reducible rfl
  (try simp only [Act.put, List.setIfInBounds_toArray, List.set_cons_zero, List.set_cons_succ])
  refine wpAnyH_take (i := 2) (oi := ?oiz254) (v := ?vz254) ?hiz254 (by kernel_rfl) (by kernel_rfl) (by kernel_rfl) ?hqz254 ?hyz254 hHeld ?restz254
  case hiz254 => simp only [List.getElem?_toArray, List.getElem?_cons_succ, List.getElem?_cons_zero]; exact rfl
  case hqz254 => exact fun _ _ _ h => h
  case hyz254 => refine Or.inl ⟨by rfl, ?_⟩; intro w hSw; (try dsimp only at hSw); go_simp; try with_reducible rfl
  (try simp only [Act.put, List.setIfInBounds_toArray, List.set_cons_zero, List.set_cons_succ])
  refine wpAnyH_take (i := 3) (oi := ?oiz255) (v := ?vz255) ?hiz255 (by kernel_rfl) (by kernel_rfl) (by kernel_rfl) ?hqz255 ?hyz255 hHeld ?restz255
  case hiz255 => simp only [List.getElem?_toArray, List.getElem?_cons_succ, List.getElem?_cons_zero]; exact rfl
  case hqz255 => exact fun _ _ _ h => h
  case hyz255 => refine Or.inl ⟨by rfl, ?_⟩; intro w hSw; have phE1 := hSw.ent hE1 (by omega); have qhE1 := box2_c0 phE1; have rhE1 := box2_c1 phE1; have phE2 := hSw.ent hE2 (by omega); have qhE2 := box2_c0 phE2; have rhE2 := box2_c1 phE2; go_simp; try with_reducible rfl
  (try simp only [Act.put, List.setIfInBounds_toArray, List.set_cons_zero, List.set_cons_succ])
  refine wpAnyH_take (i := 4) (oi := ?oiz256) (v := ?vz256) ?hiz256 (by kernel_rfl) (by kernel_rfl) (by kernel_rfl) ?hqz256 ?hyz256 hHeld ?restz256
  case hiz256 => simp only [List.getElem?_toArray, List.getElem?_cons_succ, List.getElem?_cons_zero]; exact rfl
  case hqz256 => exact fun _ _ _ h => h
  case hyz256 => refine Or.inl ⟨by rfl, ?_⟩; intro w hSw; (try dsimp only at hSw); go_simp; try with_reducible rfl
  (try simp only [Act.put, List.setIfInBounds_toArray, List.set_cons_zero, List.set_cons_succ])
  refine wpAnyH_take (i := 5) (oi := ?oiz257) (v := ?vz257) ?hiz257 (by kernel_rfl) (by kernel_rfl) (by kernel_rfl) ?hqz257 ?hyz257 hHeld ?restz257
  case hiz257 => simp only [List.getElem?_toArray, List.getElem?_cons_succ, List.getElem?_cons_zero]; exact rfl
  case hqz257 => exact fun _ _ _ h => h
  case hyz257 => refine Or.inl ⟨by rfl, ?_⟩; intro w hSw; (try dsimp only at hSw); go_simp; try with_reducible rfl
  (try simp only [Act.put, List.setIfInBounds_toArray, List.set_cons_zero, List.set_cons_succ])
  refine wpAnyH_take (i := 6) (oi := ?oiz258) (v := ?vz258) ?hiz258 (by kernel_rfl) (by kernel_rfl) (by kernel_rfl) ?hqz258 ?hyz258 hHeld ?restz258
  case hiz258 => simp only [List.getElem?_toArray, List.getElem?_cons_succ, List.getElem?_cons_zero]; exact rfl
  case hqz258 => exact fun _ _ _ h => h
  case hyz258 => refine Or.inl ⟨by rfl, ?_⟩; intro w hSw; have phE1 := hSw.ent hE1 (by omega); have qhE1 := box2_c0 phE1; have rhE1 := box2_c1 phE1; have phE2 := hSw.ent hE2 (by omega); have qhE2 := box2_c0 phE2; have rhE2 := box2_c1 phE2; go_simp; try with_reducible rfl
  (try simp only [Act.put, List.setIfInBounds_toArray, List.set_cons_zero, List.set_cons_succ])
  refine wpAnyH_take (i := 7) (oi := ?oiz259) (v := ?vz259) ?hiz259 (by kernel_rfl) (by kernel_rfl) (by kernel_rfl) ?hqz259 ?hyz259 hHeld ?restz259
  case hiz259 => simp only [List.getElem?_toArray, List.getElem?_cons_succ, List.getElem?_cons_zero]; exact rfl
  case hqz259 => exact fun _ _ _ h => h
  case hyz259 => refine Or.inl ⟨by rfl, ?_⟩; intro w hSw; (try dsimp only at hSw); go_simp; try with_reducible rfl
  (try simp only [Act.put, List.setIfInBounds_toArray, List.set_cons_zero, List.set_cons_succ])
  refine wpAnyH_take (i := 8) (oi := ?oiz260) (v := ?vz260) ?hiz260 (by kernel_rfl) (by kernel_rfl) (by kernel_rfl) ?hqz260 ?hyz260 hHeld ?restz260
  case hiz260 => simp only [List.getElem?_toArray, List.getElem?_cons_succ, List.getElem?_cons_zero]; exact rfl
  case hqz260 => exact fun _ _ _ h => h
  case hyz260 => refine Or.inl ⟨by rfl, ?_⟩; intro w hSw; have phE1 := hSw.ent hE1 (by omega); have qhE1 := box2_c0 phE1; have rhE1 := box2_c1 phE1; have phE2 := hSw.ent hE2 (by omega); have qhE2 := box2_c0 phE2; have rhE2 := box2_c1 phE2; go_simp; try with_reducible rfl
  (try simp only [Act.put, List.setIfInBounds_toArray, List.set_cons_zero, List.set_cons_succ])
  refine wpAnyH_ready (rs := [9]) (by kernel_rfl) (by simp) ?_
  refine AllReadyH.cons (o := ?oiz261) ?hiz261 (fun K hK => ?stepz261) AllReadyH.nil
  case hiz261 => simp only [List.getElem?_toArray, List.getElem?_cons_succ, List.getElem?_cons_zero]; exact rfl
  go_simp
  (go_at_call 75; refine (rmul_spec (hHeld.ref hx) (hHeld.ref hy) (by omega) (by omega)).mono ?_; rintro e w1 ⟨u, rfl, hu, hun, hb1⟩)
  refine hK.out _ _ ?hSz261 (fun hHeld' => ?restz261)
  case hSz261 => (try dsimp only); (first | exact hF0.drew | exact hHeld.call ‹Below _ _ _›)
  clear hK K hHeld
  have hHeld := hHeld'
  clear hHeld'
  (try simp only [Act.put, List.setIfInBounds_toArray, List.set_cons_zero, List.set_cons_succ])
  refine wpAnyH_ready (rs := [10]) (by kernel_rfl) (by simp) ?_
  refine AllReadyH.cons (o := ?oiz262) ?hiz262 (fun K hK => ?stepz262) AllReadyH.nil
  case hiz262 => simp only [List.getElem?_toArray, List.getElem?_cons_succ, List.getElem?_cons_zero]; exact rfl
  go_simp
  (go_at_call 47; refine (rmade_pos hu (by omega) _ (by first | assumption | exact Nat.mul_pos hx0 hy0 | omega)).mono ?_; rintro e w2 ⟨rfl, hb2⟩)
  refine hK.out _ _ ?hSz262 (fun hHeld' => ?restz262)
  case hSz262 => (try dsimp only); (first | exact hF0.drew | exact hHeld.call ‹Below _ _ _›)
  clear hK K hHeld
  have hHeld := hHeld'
  clear hHeld'
  (try simp only [Act.put, List.setIfInBounds_toArray, List.set_cons_zero, List.set_cons_succ])
  refine wpAnyH_ready (rs := [11]) (by kernel_rfl) (by simp) ?_
  refine AllReadyH.cons (o := ?oiz263) ?hiz263 (fun K hK => ?stepz263) AllReadyH.nil
  case hiz263 => simp only [List.getElem?_toArray, List.getElem?_cons_succ, List.getElem?_cons_zero]; exact rfl
  obtain ⟨v0, b0, hR⟩ := hHeld.res; have c0 := box2_c0 hR; have c1 := box2_c1 hR; have f0 := box2_f hR 0; have f1 := box2_f hR 1; go_simp
  refine hK.out _ _ ?hSz263 (fun hHeld' => ?restz263)
  case hSz263 => (try dsimp only); exact hHeld.set2 (by decide) (by omega) _ _
  clear hK K hHeld
  have hHeld := hHeld'
  clear hHeld'
  (try simp only [Act.put, List.setIfInBounds_toArray, List.set_cons_zero, List.set_cons_succ])
  refine wpAnyH_done (by kernel_rfl) ?_ _
  have hq := box2_set hR (.int .i64 (-1)) (.slice u.ao u.n u.c)
  have hq0 := box2_c0 hq
  have hq1 := box2_c1 hq
  have hq9 := hHeld.below
  have hu2 := (hu.up hb2).kp ((Kp.refl _).set2 hR (by decide) (.int .i64 (-1)) (.slice u.ao u.n u.c))
  clear hHeld hq hR c0 c1 f0 f1
  generalize (w2.setCell ⟨w.heap.size + 1 + 1, 0, none⟩ (.int .i64 (-1))).setCell ⟨w.heap.size + 1 + 1, 1, none⟩ (.slice u.ao u.n u.c) = W9 at *
  go_wp2
  refine bodyPost_ret (v := .agg #[.int .i64 (-1), .slice u.ao u.n u.c]) (by simp [results, Try.results32, go_sem, hq0, hq1]) rfl ⟨u, rfl, hu2, hun, hq9⟩

set_option maxRecDepth 100000 in
set_option maxHeartbeats 1600000 in
theorem rzadd_pn_lt {w : World} {s t : Sl} {x y : Nat} (h : RefS w s x) (h' : RefS w t y) (hn : s.n ≤ 1000000) (hm : t.n ≤ 1000000) (hx0 : 0 < x) (hy0 : 0 < y) (hc : x < y) :
    Calls Try.prog 18 #[.agg #[.int .i64 1, .slice s.ao s.n s.c], .agg #[.int .i64 (-1), .slice t.ao t.n t.c]] w fun e w' => ∃ u : Sl, e = .returned (.agg #[.int .i64 (-1), .slice u.ao u.n u.c]) ∧ RefS w' u (y - x) ∧ u.n ≤ max s.n t.n + 1 ∧ Below w.heap.size w w' := by
  obtain ⟨hE1, hE2, hE3, -⟩ := ents3 w (.cells #[.int .i64 1, .slice s.ao s.n s.c] 28) (.cells #[.int .i64 (-1), .slice t.ao t.n t.c] 28) (.cells #[.int .i64 0, .slice none 0 0] 28)
  have hB := (((Grew.refl w).alloc (.cells #[.int .i64 1, .slice s.ao s.n s.c] 28)).alloc (.cells #[.int .i64 (-1), .slice t.ao t.n t.c] 28)).alloc (.cells #[.int .i64 0, .slice none 0 0] 28)
  have hx := h.grew hB
  have hy := h'.grew hB
  have chE1a := box2_c0 hE1
  have chE1b := box2_c1 hE1
  have chE2a := box2_c0 hE2
  have chE2b := box2_c1 hE2
  have chE3a := box2_c0 hE3
  have chE3b := box2_c1 hE3
  have fhE3a := box2_f hE3 0
  have fhE3b := box2_f hE3 1
  have hc0 : cmpN x y = -1 := cmpN_lt hc
  go_enter Try.func18, Try.ntmps18
  go_wp2_with fail
  generalize ((w.alloc (.cells #[.int .i64 1, .slice s.ao s.n s.c] 28)).alloc (.cells #[.int .i64 (-1), .slice t.ao t.n t.c] 28)).alloc (.cells #[.int .i64 0, .slice none 0 0] 28) = W at *
  refine (rcmp_at (-1) hc0 hx hy (by omega) (by omega)).mono ?_
  rintro e w1 ⟨rfl, hb1⟩
  have ha1 : Grew w1 (w1) := Grew.refl w1
  have hg1' := (Grew.call (Grew.refl _) hb1).trans ha1
  replace hx := hx.grew hg1'
  replace hy := hy.grew hg1'
  replace hE1 := ent_grew hg1' hE1
  replace hE2 := ent_grew hg1' hE2
  replace hE3 := ent_grew hg1' hE3
  replace hB := hB.trans hg1'
  clear hg1' ha1 hb1 chE1a chE1b chE2a chE2b chE3a chE3b fhE3a fhE3b
  have chE1a := box2_c0 hE1
  have chE1b := box2_c1 hE1
  have chE2a := box2_c0 hE2
  have chE2b := box2_c1 hE2
  have chE3a := box2_c0 hE3
  have chE3b := box2_c1 hE3
  have fhE3a := box2_f hE3 0
  have fhE3b := box2_f hE3 1
  go_wp2
  clear chE1a chE1b chE2a chE2b chE3a chE3b fhE3a fhE3b
  have hF0 := Fr.init hE3 hB
  refine wp_region_held_drew (S := (fun w' => Fr w w1 (w.heap.size + 1 + 1) 28 w')) (by kernel_rfl) ?hSz264 (fun hHeld => ?restz264)
  case hSz264 => (try dsimp only); (first | exact hF0.drew | exact hHeld.call ‹Below _ _ _›)
  refine wpAnyH_take (i := 0) (oi := ?oiz265) (v := ?vz265) ?hiz265 (by kernel_rfl) (by kernel_rfl) (by kernel_rfl) ?hqz265 ?hyz265 hHeld ?restz265
  case hiz265 => simp only [List.getElem?_toArray, List.getElem?_cons_zero]; exact rfl
  case hqz265 => exact fun _ _ _ h => h
  case hyz265 => refine Or.inl ⟨by rfl, ?_⟩; intro w hSw; (try dsimp only at hSw); go_simp; try with_reducible rfl
  (try simp only [Act.put, List.setIfInBounds_toArray, List.set_cons_zero, List.set_cons_succ])
  refine wpAnyH_take (i := 1) (oi := ?oiz266) (v := ?vz266) ?hiz266 (by kernel_rfl) (by kernel_rfl) (by kernel_rfl) ?hqz266 ?hyz266 hHeld ?restz266
  case hiz266 => simp only [List.getElem?_toArray, List.getElem?_cons_succ, List.getElem?_cons_zero]; exact rfl
  case hqz266 => exact fun _ _ _ h => h
  case hyz266 => refine Or.inl ⟨by rfl, ?_⟩; intro w hSw; have phE1 := hSw.ent hE1 (by omega); have qhE1 := box2_c0 phE1; have rhE1 := box2_c1 phE1; have phE2 := hSw.ent hE2 (by omega); have qhE2 := box2_c0 phE2; have rhE2 := box2_c1 phE2; go_simp; try with_reducible rfl
  (try simp only [Act.put, List.setIfInBounds_toArray, List.set_cons_zero, List.set_cons_succ])
  refine wpAnyH_take (i := 2) (oi := ?oiz267) (v := ?vz267) ?hiz267 (by kernel_rfl) (by kernel_rfl) (by kernel_rfl) ?hqz267 ?hyz267 hHeld ?restz267
  case hiz267 => simp only [List.getElem?_toArray, List.getElem?_cons_succ, List.getElem?_cons_zero]; exact rfl
  case hqz267 => exact fun _ _ _ h => h
  case hyz267 => refine Or.inl ⟨by rfl, ?_⟩; intro w hSw; (try dsimp only at hSw); go_simp; try with_reducible rfl
  (try simp only [Act.put, List.setIfInBounds_toArray, List.set_cons_zero, List.set_cons_succ])
  refine wpAnyH_take (i := 3) (oi := ?oiz268) (v := ?vz268) ?hiz268 (by kernel_rfl) (by kernel_rfl) (by kernel_rfl) ?hqz268 ?hyz268 hHeld ?restz268
  case hiz268 => simp only [List.getElem?_toArray, List.getElem?_cons_succ, List.getElem?_cons_zero]; exact rfl
  case hqz268 => exact fun _ _ _ h => h
  case hyz268 => refine Or.inl ⟨by rfl, ?_⟩; intro w hSw; have phE1 := hSw.ent hE1 (by omega); have qhE1 := box2_c0 phE1; have rhE1 := box2_c1 phE1; have phE2 := hSw.ent hE2 (by omega); have qhE2 := box2_c0 phE2; have rhE2 := box2_c1 phE2; go_simp; try with_reducible rfl
  (try simp only [Act.put, List.setIfInBounds_toArray, List.set_cons_zero, List.set_cons_succ])
  refine wpAnyH_take (i := 4) (oi := ?oiz269) (v := ?vz269) ?hiz269 (by kernel_rfl) (by kernel_rfl) (by kernel_rfl) ?hqz269 ?hyz269 hHeld ?restz269
  case hiz269 => simp only [List.getElem?_toArray, List.getElem?_cons_succ, List.getElem?_cons_zero]; exact rfl
  case hqz269 => exact fun _ _ _ h => h
  case hyz269 => refine Or.inl ⟨by rfl, ?_⟩; intro w hSw; (try dsimp only at hSw); go_simp; try with_reducible rfl
  (try simp only [Act.put, List.setIfInBounds_toArray, List.set_cons_zero, List.set_cons_succ])
  refine wpAnyH_take (i := 5) (oi := ?oiz270) (v := ?vz270) ?hiz270 (by kernel_rfl) (by kernel_rfl) (by kernel_rfl) ?hqz270 ?hyz270 hHeld ?restz270
  case hiz270 => simp only [List.getElem?_toArray, List.getElem?_cons_succ, List.getElem?_cons_zero]; exact rfl
  case hqz270 => exact fun _ _ _ h => h
  case hyz270 => refine Or.inl ⟨by rfl, ?_⟩; intro w hSw; have phE1 := hSw.ent hE1 (by omega); have qhE1 := box2_c0 phE1; have rhE1 := box2_c1 phE1; have phE2 := hSw.ent hE2 (by omega); have qhE2 := box2_c0 phE2; have rhE2 := box2_c1 phE2; go_simp; try with_reducible rfl
  (try simp only [Act.put, List.setIfInBounds_toArray, List.set_cons_zero, List.set_cons_succ])
  refine wpAnyH_ready (rs := [6]) (by kernel_rfl) (by simp) ?_
  refine AllReadyH.cons (o := ?oiz271) ?hiz271 (fun K hK => ?stepz271) AllReadyH.nil
  case hiz271 => simp only [List.getElem?_toArray, List.getElem?_cons_succ, List.getElem?_cons_zero]; exact rfl
  go_simp
  (go_at_call 65; refine (rless_spec (hHeld.ref hy) (hHeld.ref hx) (by omega) (by omega)).mono ?_; rintro e w2 ⟨u, rfl, hu, hun, hb1⟩)
  refine hK.out _ _ ?hSz271 (fun hHeld' => ?restz271)
  case hSz271 => (try dsimp only); (first | exact hF0.drew | exact hHeld.call ‹Below _ _ _›)
  clear hK K hHeld
  have hHeld := hHeld'
  clear hHeld'
  (try simp only [Act.put, List.setIfInBounds_toArray, List.set_cons_zero, List.set_cons_succ])
  refine wpAnyH_ready (rs := [7]) (by kernel_rfl) (by simp) ?_
  refine AllReadyH.cons (o := ?oiz272) ?hiz272 (fun K hK => ?stepz272) AllReadyH.nil
  case hiz272 => simp only [List.getElem?_toArray, List.getElem?_cons_succ, List.getElem?_cons_zero]; exact rfl
  go_simp
  (go_at_call 47; refine (rmade_pos hu (by omega) _ (by first | assumption | exact Nat.mul_pos hx0 hy0 | omega)).mono ?_; rintro e w3 ⟨rfl, hb3⟩)
  refine hK.out _ _ ?hSz272 (fun hHeld' => ?restz272)
  case hSz272 => (try dsimp only); (first | exact hF0.drew | exact hHeld.call ‹Below _ _ _›)
  clear hK K hHeld
  have hHeld := hHeld'
  clear hHeld'
  (try simp only [Act.put, List.setIfInBounds_toArray, List.set_cons_zero, List.set_cons_succ])
  refine wpAnyH_ready (rs := [8]) (by kernel_rfl) (by simp) ?_
  refine AllReadyH.cons (o := ?oiz273) ?hiz273 (fun K hK => ?stepz273) AllReadyH.nil
  case hiz273 => simp only [List.getElem?_toArray, List.getElem?_cons_succ, List.getElem?_cons_zero]; exact rfl
  obtain ⟨v0, b0, hR⟩ := hHeld.res; have c0 := box2_c0 hR; have c1 := box2_c1 hR; have f0 := box2_f hR 0; have f1 := box2_f hR 1; go_simp
  refine hK.out _ _ ?hSz273 (fun hHeld' => ?restz273)
  case hSz273 => (try dsimp only); exact hHeld.set2 (by decide) (by omega) _ _
  clear hK K hHeld
  have hHeld := hHeld'
  clear hHeld'
  (try simp only [Act.put, List.setIfInBounds_toArray, List.set_cons_zero, List.set_cons_succ])
  refine wpAnyH_done (by kernel_rfl) ?_ _
  have hq := box2_set hR (.int .i64 (-1)) (.slice u.ao u.n u.c)
  have hq0 := box2_c0 hq
  have hq1 := box2_c1 hq
  have hq9 := hHeld.below
  have hu2 := (hu.up hb3).kp ((Kp.refl _).set2 hR (by decide) (.int .i64 (-1)) (.slice u.ao u.n u.c))
  clear hHeld hq hR c0 c1 f0 f1
  generalize (w3.setCell ⟨w.heap.size + 1 + 1, 0, none⟩ (.int .i64 (-1))).setCell ⟨w.heap.size + 1 + 1, 1, none⟩ (.slice u.ao u.n u.c) = W9 at *
  go_wp2
  refine bodyPost_ret (v := .agg #[.int .i64 (-1), .slice u.ao u.n u.c]) (by simp [results, Try.results18, go_sem, hq0, hq1]) rfl ⟨u, rfl, hu2, by omega, hq9⟩

set_option maxRecDepth 100000 in
set_option maxHeartbeats 1600000 in
theorem rzadd_pn_eq {w : World} {s t : Sl} {x y : Nat} (h : RefS w s x) (h' : RefS w t y) (hn : s.n ≤ 1000000) (hm : t.n ≤ 1000000) (hx0 : 0 < x) (hy0 : 0 < y) (hc : x = y) :
    Calls Try.prog 18 #[.agg #[.int .i64 1, .slice s.ao s.n s.c], .agg #[.int .i64 (-1), .slice t.ao t.n t.c]] w fun e w' => ∃ u : Sl, e = .returned (.agg #[.int .i64 0, .slice u.ao u.n u.c]) ∧ RefS w' u (x - y) ∧ u.n ≤ max s.n t.n + 1 ∧ Below w.heap.size w w' := by
  obtain ⟨hE1, hE2, hE3, -⟩ := ents3 w (.cells #[.int .i64 1, .slice s.ao s.n s.c] 28) (.cells #[.int .i64 (-1), .slice t.ao t.n t.c] 28) (.cells #[.int .i64 0, .slice none 0 0] 28)
  have hB := (((Grew.refl w).alloc (.cells #[.int .i64 1, .slice s.ao s.n s.c] 28)).alloc (.cells #[.int .i64 (-1), .slice t.ao t.n t.c] 28)).alloc (.cells #[.int .i64 0, .slice none 0 0] 28)
  have hx := h.grew hB
  have hy := h'.grew hB
  have chE1a := box2_c0 hE1
  have chE1b := box2_c1 hE1
  have chE2a := box2_c0 hE2
  have chE2b := box2_c1 hE2
  have chE3a := box2_c0 hE3
  have chE3b := box2_c1 hE3
  have fhE3a := box2_f hE3 0
  have fhE3b := box2_f hE3 1
  have hc0 : cmpN x y = 0 := by rw [hc]; exact cmpN_eq y
  go_enter Try.func18, Try.ntmps18
  go_wp2_with fail
  generalize ((w.alloc (.cells #[.int .i64 1, .slice s.ao s.n s.c] 28)).alloc (.cells #[.int .i64 (-1), .slice t.ao t.n t.c] 28)).alloc (.cells #[.int .i64 0, .slice none 0 0] 28) = W at *
  refine (rcmp_at (0) hc0 hx hy (by omega) (by omega)).mono ?_
  rintro e w1 ⟨rfl, hb1⟩
  have ha1 : Grew w1 (w1) := Grew.refl w1
  have hg1' := (Grew.call (Grew.refl _) hb1).trans ha1
  replace hx := hx.grew hg1'
  replace hy := hy.grew hg1'
  replace hE1 := ent_grew hg1' hE1
  replace hE2 := ent_grew hg1' hE2
  replace hE3 := ent_grew hg1' hE3
  replace hB := hB.trans hg1'
  clear hg1' ha1 hb1 chE1a chE1b chE2a chE2b chE3a chE3b fhE3a fhE3b
  have chE1a := box2_c0 hE1
  have chE1b := box2_c1 hE1
  have chE2a := box2_c0 hE2
  have chE2b := box2_c1 hE2
  have chE3a := box2_c0 hE3
  have chE3b := box2_c1 hE3
  have fhE3a := box2_f hE3 0
  have fhE3b := box2_f hE3 1
  go_wp2
  clear chE1a chE1b chE2a chE2b chE3a chE3b fhE3a fhE3b
  have hF0 := Fr.init hE3 hB
  refine wp_region_held_drew (S := (fun w' => Fr w w1 (w.heap.size + 1 + 1) 28 w')) (by kernel_rfl) ?hSz274 (fun hHeld => ?restz274)
  case hSz274 => (try dsimp only); (first | exact hF0.drew | exact hHeld.call ‹Below _ _ _›)
  refine wpAnyH_take (i := 0) (oi := ?oiz275) (v := ?vz275) ?hiz275 (by kernel_rfl) (by kernel_rfl) (by kernel_rfl) ?hqz275 ?hyz275 hHeld ?restz275
  case hiz275 => simp only [List.getElem?_toArray, List.getElem?_cons_zero]; exact rfl
  case hqz275 => exact fun _ _ _ h => h
  case hyz275 => refine Or.inl ⟨by rfl, ?_⟩; intro w hSw; (try dsimp only at hSw); go_simp; try with_reducible rfl
  (try simp only [Act.put, List.setIfInBounds_toArray, List.set_cons_zero, List.set_cons_succ])
  refine wpAnyH_take (i := 1) (oi := ?oiz276) (v := ?vz276) ?hiz276 (by kernel_rfl) (by kernel_rfl) (by kernel_rfl) ?hqz276 ?hyz276 hHeld ?restz276
  case hiz276 => simp only [List.getElem?_toArray, List.getElem?_cons_succ, List.getElem?_cons_zero]; exact rfl
  case hqz276 => exact fun _ _ _ h => h
  case hyz276 => refine Or.inl ⟨by rfl, ?_⟩; intro w hSw; have phE1 := hSw.ent hE1 (by omega); have qhE1 := box2_c0 phE1; have rhE1 := box2_c1 phE1; have phE2 := hSw.ent hE2 (by omega); have qhE2 := box2_c0 phE2; have rhE2 := box2_c1 phE2; go_simp; try with_reducible rfl
  (try simp only [Act.put, List.setIfInBounds_toArray, List.set_cons_zero, List.set_cons_succ])
  refine wpAnyH_take (i := 2) (oi := ?oiz277) (v := ?vz277) ?hiz277 (by kernel_rfl) (by kernel_rfl) (by kernel_rfl) ?hqz277 ?hyz277 hHeld ?restz277
  case hiz277 => simp only [List.getElem?_toArray, List.getElem?_cons_succ, List.getElem?_cons_zero]; exact rfl
  case hqz277 => exact fun _ _ _ h => h
  case hyz277 => refine Or.inl ⟨by rfl, ?_⟩; intro w hSw; (try dsimp only at hSw); go_simp; try with_reducible rfl
  (try simp only [Act.put, List.setIfInBounds_toArray, List.set_cons_zero, List.set_cons_succ])
  refine wpAnyH_take (i := 3) (oi := ?oiz278) (v := ?vz278) ?hiz278 (by kernel_rfl) (by kernel_rfl) (by kernel_rfl) ?hqz278 ?hyz278 hHeld ?restz278
  case hiz278 => simp only [List.getElem?_toArray, List.getElem?_cons_succ, List.getElem?_cons_zero]; exact rfl
  case hqz278 => exact fun _ _ _ h => h
  case hyz278 => refine Or.inl ⟨by rfl, ?_⟩; intro w hSw; have phE1 := hSw.ent hE1 (by omega); have qhE1 := box2_c0 phE1; have rhE1 := box2_c1 phE1; have phE2 := hSw.ent hE2 (by omega); have qhE2 := box2_c0 phE2; have rhE2 := box2_c1 phE2; go_simp; try with_reducible rfl
  (try simp only [Act.put, List.setIfInBounds_toArray, List.set_cons_zero, List.set_cons_succ])
  refine wpAnyH_take (i := 4) (oi := ?oiz279) (v := ?vz279) ?hiz279 (by kernel_rfl) (by kernel_rfl) (by kernel_rfl) ?hqz279 ?hyz279 hHeld ?restz279
  case hiz279 => simp only [List.getElem?_toArray, List.getElem?_cons_succ, List.getElem?_cons_zero]; exact rfl
  case hqz279 => exact fun _ _ _ h => h
  case hyz279 => refine Or.inl ⟨by rfl, ?_⟩; intro w hSw; (try dsimp only at hSw); go_simp; try with_reducible rfl
  (try simp only [Act.put, List.setIfInBounds_toArray, List.set_cons_zero, List.set_cons_succ])
  refine wpAnyH_take (i := 5) (oi := ?oiz280) (v := ?vz280) ?hiz280 (by kernel_rfl) (by kernel_rfl) (by kernel_rfl) ?hqz280 ?hyz280 hHeld ?restz280
  case hiz280 => simp only [List.getElem?_toArray, List.getElem?_cons_succ, List.getElem?_cons_zero]; exact rfl
  case hqz280 => exact fun _ _ _ h => h
  case hyz280 => refine Or.inl ⟨by rfl, ?_⟩; intro w hSw; have phE1 := hSw.ent hE1 (by omega); have qhE1 := box2_c0 phE1; have rhE1 := box2_c1 phE1; have phE2 := hSw.ent hE2 (by omega); have qhE2 := box2_c0 phE2; have rhE2 := box2_c1 phE2; go_simp; try with_reducible rfl
  (try simp only [Act.put, List.setIfInBounds_toArray, List.set_cons_zero, List.set_cons_succ])
  refine wpAnyH_ready (rs := [6]) (by kernel_rfl) (by simp) ?_
  refine AllReadyH.cons (o := ?oiz281) ?hiz281 (fun K hK => ?stepz281) AllReadyH.nil
  case hiz281 => simp only [List.getElem?_toArray, List.getElem?_cons_succ, List.getElem?_cons_zero]; exact rfl
  go_simp
  (go_at_call 65; refine (rless_spec (hHeld.ref hx) (hHeld.ref hy) (by omega) (by omega)).mono ?_; rintro e w2 ⟨u, rfl, hu, hun, hb1⟩)
  refine hK.out _ _ ?hSz281 (fun hHeld' => ?restz281)
  case hSz281 => (try dsimp only); (first | exact hF0.drew | exact hHeld.call ‹Below _ _ _›)
  clear hK K hHeld
  have hHeld := hHeld'
  clear hHeld'
  (try simp only [Act.put, List.setIfInBounds_toArray, List.set_cons_zero, List.set_cons_succ])
  refine wpAnyH_ready (rs := [7]) (by kernel_rfl) (by simp) ?_
  refine AllReadyH.cons (o := ?oiz282) ?hiz282 (fun K hK => ?stepz282) AllReadyH.nil
  case hiz282 => simp only [List.getElem?_toArray, List.getElem?_cons_succ, List.getElem?_cons_zero]; exact rfl
  go_simp
  (go_at_call 47; refine (rmade_zero hu (by omega) _ (by first | rfl | assumption | omega)).mono ?_; rintro e w3 ⟨rfl, hb3⟩)
  refine hK.out _ _ ?hSz282 (fun hHeld' => ?restz282)
  case hSz282 => (try dsimp only); (first | exact hF0.drew | exact hHeld.call ‹Below _ _ _›)
  clear hK K hHeld
  have hHeld := hHeld'
  clear hHeld'
  (try simp only [Act.put, List.setIfInBounds_toArray, List.set_cons_zero, List.set_cons_succ])
  refine wpAnyH_ready (rs := [8]) (by kernel_rfl) (by simp) ?_
  refine AllReadyH.cons (o := ?oiz283) ?hiz283 (fun K hK => ?stepz283) AllReadyH.nil
  case hiz283 => simp only [List.getElem?_toArray, List.getElem?_cons_succ, List.getElem?_cons_zero]; exact rfl
  obtain ⟨v0, b0, hR⟩ := hHeld.res; have c0 := box2_c0 hR; have c1 := box2_c1 hR; have f0 := box2_f hR 0; have f1 := box2_f hR 1; go_simp
  refine hK.out _ _ ?hSz283 (fun hHeld' => ?restz283)
  case hSz283 => (try dsimp only); exact hHeld.set2 (by decide) (by omega) _ _
  clear hK K hHeld
  have hHeld := hHeld'
  clear hHeld'
  (try simp only [Act.put, List.setIfInBounds_toArray, List.set_cons_zero, List.set_cons_succ])
  refine wpAnyH_done (by kernel_rfl) ?_ _
  have hq := box2_set hR (.int .i64 0) (.slice none 0 0)
  have hq0 := box2_c0 hq
  have hq1 := box2_c1 hq
  have hq9 := hHeld.below
  have hu2 := (RefS.nil w3 none 0 (by omega)).kp ((Kp.refl _).set2 hR (by decide) (.int .i64 0) (.slice none 0 0))
  have hz0 : x - y = 0 := by first | rfl | assumption | omega
  clear hHeld hq hR c0 c1 f0 f1
  generalize (w3.setCell ⟨w.heap.size + 1 + 1, 0, none⟩ (.int .i64 0)).setCell ⟨w.heap.size + 1 + 1, 1, none⟩ (.slice none 0 0) = W9 at *
  go_wp2
  refine bodyPost_ret (v := .agg #[.int .i64 0, .slice none 0 0]) (by simp [results, Try.results18, go_sem, hq0, hq1]) rfl ⟨⟨none, 0, 0⟩, rfl, (by rw [hz0]; exact hu2), Nat.zero_le _, hq9⟩

set_option maxRecDepth 100000 in
set_option maxHeartbeats 1600000 in
theorem rzadd_pn_gt {w : World} {s t : Sl} {x y : Nat} (h : RefS w s x) (h' : RefS w t y) (hn : s.n ≤ 1000000) (hm : t.n ≤ 1000000) (hx0 : 0 < x) (hy0 : 0 < y) (hc : y < x) :
    Calls Try.prog 18 #[.agg #[.int .i64 1, .slice s.ao s.n s.c], .agg #[.int .i64 (-1), .slice t.ao t.n t.c]] w fun e w' => ∃ u : Sl, e = .returned (.agg #[.int .i64 1, .slice u.ao u.n u.c]) ∧ RefS w' u (x - y) ∧ u.n ≤ max s.n t.n + 1 ∧ Below w.heap.size w w' := by
  obtain ⟨hE1, hE2, hE3, -⟩ := ents3 w (.cells #[.int .i64 1, .slice s.ao s.n s.c] 28) (.cells #[.int .i64 (-1), .slice t.ao t.n t.c] 28) (.cells #[.int .i64 0, .slice none 0 0] 28)
  have hB := (((Grew.refl w).alloc (.cells #[.int .i64 1, .slice s.ao s.n s.c] 28)).alloc (.cells #[.int .i64 (-1), .slice t.ao t.n t.c] 28)).alloc (.cells #[.int .i64 0, .slice none 0 0] 28)
  have hx := h.grew hB
  have hy := h'.grew hB
  have chE1a := box2_c0 hE1
  have chE1b := box2_c1 hE1
  have chE2a := box2_c0 hE2
  have chE2b := box2_c1 hE2
  have chE3a := box2_c0 hE3
  have chE3b := box2_c1 hE3
  have fhE3a := box2_f hE3 0
  have fhE3b := box2_f hE3 1
  have hc0 : cmpN x y = 1 := cmpN_gt hc
  go_enter Try.func18, Try.ntmps18
  go_wp2_with fail
  generalize ((w.alloc (.cells #[.int .i64 1, .slice s.ao s.n s.c] 28)).alloc (.cells #[.int .i64 (-1), .slice t.ao t.n t.c] 28)).alloc (.cells #[.int .i64 0, .slice none 0 0] 28) = W at *
  refine (rcmp_at (1) hc0 hx hy (by omega) (by omega)).mono ?_
  rintro e w1 ⟨rfl, hb1⟩
  have ha1 : Grew w1 (w1) := Grew.refl w1
  have hg1' := (Grew.call (Grew.refl _) hb1).trans ha1
  replace hx := hx.grew hg1'
  replace hy := hy.grew hg1'
  replace hE1 := ent_grew hg1' hE1
  replace hE2 := ent_grew hg1' hE2
  replace hE3 := ent_grew hg1' hE3
  replace hB := hB.trans hg1'
  clear hg1' ha1 hb1 chE1a chE1b chE2a chE2b chE3a chE3b fhE3a fhE3b
  have chE1a := box2_c0 hE1
  have chE1b := box2_c1 hE1
  have chE2a := box2_c0 hE2
  have chE2b := box2_c1 hE2
  have chE3a := box2_c0 hE3
  have chE3b := box2_c1 hE3
  have fhE3a := box2_f hE3 0
  have fhE3b := box2_f hE3 1
  go_wp2
  clear chE1a chE1b chE2a chE2b chE3a chE3b fhE3a fhE3b
  have hF0 := Fr.init hE3 hB
  refine wp_region_held_drew (S := (fun w' => Fr w w1 (w.heap.size + 1 + 1) 28 w')) (by kernel_rfl) ?hSz284 (fun hHeld => ?restz284)
  case hSz284 => (try dsimp only); (first | exact hF0.drew | exact hHeld.call ‹Below _ _ _›)
  refine wpAnyH_take (i := 0) (oi := ?oiz285) (v := ?vz285) ?hiz285 (by kernel_rfl) (by kernel_rfl) (by kernel_rfl) ?hqz285 ?hyz285 hHeld ?restz285
  case hiz285 => simp only [List.getElem?_toArray, List.getElem?_cons_zero]; exact rfl
  case hqz285 => exact fun _ _ _ h => h
  case hyz285 => refine Or.inl ⟨by rfl, ?_⟩; intro w hSw; (try dsimp only at hSw); go_simp; try with_reducible rfl
  (try simp only [Act.put, List.setIfInBounds_toArray, List.set_cons_zero, List.set_cons_succ])
  refine wpAnyH_take (i := 1) (oi := ?oiz286) (v := ?vz286) ?hiz286 (by kernel_rfl) (by kernel_rfl) (by kernel_rfl) ?hqz286 ?hyz286 hHeld ?restz286
  case hiz286 => simp only [List.getElem?_toArray, List.getElem?_cons_succ, List.getElem?_cons_zero]; exact rfl
  case hqz286 => exact fun _ _ _ h => h
  case hyz286 => refine Or.inl ⟨by rfl, ?_⟩; intro w hSw; have phE1 := hSw.ent hE1 (by omega); have qhE1 := box2_c0 phE1; have rhE1 := box2_c1 phE1; have phE2 := hSw.ent hE2 (by omega); have qhE2 := box2_c0 phE2; have rhE2 := box2_c1 phE2; go_simp; try with_reducible rfl
  (try simp only [Act.put, List.setIfInBounds_toArray, List.set_cons_zero, List.set_cons_succ])
  refine wpAnyH_take (i := 2) (oi := ?oiz287) (v := ?vz287) ?hiz287 (by kernel_rfl) (by kernel_rfl) (by kernel_rfl) ?hqz287 ?hyz287 hHeld ?restz287
  case hiz287 => simp only [List.getElem?_toArray, List.getElem?_cons_succ, List.getElem?_cons_zero]; exact rfl
  case hqz287 => exact fun _ _ _ h => h
  case hyz287 => refine Or.inl ⟨by rfl, ?_⟩; intro w hSw; (try dsimp only at hSw); go_simp; try with_reducible rfl
  (try simp only [Act.put, List.setIfInBounds_toArray, List.set_cons_zero, List.set_cons_succ])
  refine wpAnyH_take (i := 3) (oi := ?oiz288) (v := ?vz288) ?hiz288 (by kernel_rfl) (by kernel_rfl) (by kernel_rfl) ?hqz288 ?hyz288 hHeld ?restz288
  case hiz288 => simp only [List.getElem?_toArray, List.getElem?_cons_succ, List.getElem?_cons_zero]; exact rfl
  case hqz288 => exact fun _ _ _ h => h
  case hyz288 => refine Or.inl ⟨by rfl, ?_⟩; intro w hSw; have phE1 := hSw.ent hE1 (by omega); have qhE1 := box2_c0 phE1; have rhE1 := box2_c1 phE1; have phE2 := hSw.ent hE2 (by omega); have qhE2 := box2_c0 phE2; have rhE2 := box2_c1 phE2; go_simp; try with_reducible rfl
  (try simp only [Act.put, List.setIfInBounds_toArray, List.set_cons_zero, List.set_cons_succ])
  refine wpAnyH_take (i := 4) (oi := ?oiz289) (v := ?vz289) ?hiz289 (by kernel_rfl) (by kernel_rfl) (by kernel_rfl) ?hqz289 ?hyz289 hHeld ?restz289
  case hiz289 => simp only [List.getElem?_toArray, List.getElem?_cons_succ, List.getElem?_cons_zero]; exact rfl
  case hqz289 => exact fun _ _ _ h => h
  case hyz289 => refine Or.inl ⟨by rfl, ?_⟩; intro w hSw; (try dsimp only at hSw); go_simp; try with_reducible rfl
  (try simp only [Act.put, List.setIfInBounds_toArray, List.set_cons_zero, List.set_cons_succ])
  refine wpAnyH_take (i := 5) (oi := ?oiz290) (v := ?vz290) ?hiz290 (by kernel_rfl) (by kernel_rfl) (by kernel_rfl) ?hqz290 ?hyz290 hHeld ?restz290
  case hiz290 => simp only [List.getElem?_toArray, List.getElem?_cons_succ, List.getElem?_cons_zero]; exact rfl
  case hqz290 => exact fun _ _ _ h => h
  case hyz290 => refine Or.inl ⟨by rfl, ?_⟩; intro w hSw; have phE1 := hSw.ent hE1 (by omega); have qhE1 := box2_c0 phE1; have rhE1 := box2_c1 phE1; have phE2 := hSw.ent hE2 (by omega); have qhE2 := box2_c0 phE2; have rhE2 := box2_c1 phE2; go_simp; try with_reducible rfl
  (try simp only [Act.put, List.setIfInBounds_toArray, List.set_cons_zero, List.set_cons_succ])
  refine wpAnyH_ready (rs := [6]) (by kernel_rfl) (by simp) ?_
  refine AllReadyH.cons (o := ?oiz291) ?hiz291 (fun K hK => ?stepz291) AllReadyH.nil
  case hiz291 => simp only [List.getElem?_toArray, List.getElem?_cons_succ, List.getElem?_cons_zero]; exact rfl
  go_simp
  (go_at_call 65; refine (rless_spec (hHeld.ref hx) (hHeld.ref hy) (by omega) (by omega)).mono ?_; rintro e w2 ⟨u, rfl, hu, hun, hb1⟩)
  refine hK.out _ _ ?hSz291 (fun hHeld' => ?restz291)
  case hSz291 => (try dsimp only); (first | exact hF0.drew | exact hHeld.call ‹Below _ _ _›)
  clear hK K hHeld
  have hHeld := hHeld'
  clear hHeld'
  (try simp only [Act.put, List.setIfInBounds_toArray, List.set_cons_zero, List.set_cons_succ])
  refine wpAnyH_ready (rs := [7]) (by kernel_rfl) (by simp) ?_
  refine AllReadyH.cons (o := ?oiz292) ?hiz292 (fun K hK => ?stepz292) AllReadyH.nil
  case hiz292 => simp only [List.getElem?_toArray, List.getElem?_cons_succ, List.getElem?_cons_zero]; exact rfl
  go_simp
  (go_at_call 47; refine (rmade_pos hu (by omega) _ (by first | assumption | exact Nat.mul_pos hx0 hy0 | omega)).mono ?_; rintro e w3 ⟨rfl, hb3⟩)
  refine hK.out _ _ ?hSz292 (fun hHeld' => ?restz292)
  case hSz292 => (try dsimp only); (first | exact hF0.drew | exact hHeld.call ‹Below _ _ _›)
  clear hK K hHeld
  have hHeld := hHeld'
  clear hHeld'
  (try simp only [Act.put, List.setIfInBounds_toArray, List.set_cons_zero, List.set_cons_succ])
  refine wpAnyH_ready (rs := [8]) (by kernel_rfl) (by simp) ?_
  refine AllReadyH.cons (o := ?oiz293) ?hiz293 (fun K hK => ?stepz293) AllReadyH.nil
  case hiz293 => simp only [List.getElem?_toArray, List.getElem?_cons_succ, List.getElem?_cons_zero]; exact rfl
  obtain ⟨v0, b0, hR⟩ := hHeld.res; have c0 := box2_c0 hR; have c1 := box2_c1 hR; have f0 := box2_f hR 0; have f1 := box2_f hR 1; go_simp
  refine hK.out _ _ ?hSz293 (fun hHeld' => ?restz293)
  case hSz293 => (try dsimp only); exact hHeld.set2 (by decide) (by omega) _ _
  clear hK K hHeld
  have hHeld := hHeld'
  clear hHeld'
  (try simp only [Act.put, List.setIfInBounds_toArray, List.set_cons_zero, List.set_cons_succ])
  refine wpAnyH_done (by kernel_rfl) ?_ _
  have hq := box2_set hR (.int .i64 1) (.slice u.ao u.n u.c)
  have hq0 := box2_c0 hq
  have hq1 := box2_c1 hq
  have hq9 := hHeld.below
  have hu2 := (hu.up hb3).kp ((Kp.refl _).set2 hR (by decide) (.int .i64 1) (.slice u.ao u.n u.c))
  clear hHeld hq hR c0 c1 f0 f1
  generalize (w3.setCell ⟨w.heap.size + 1 + 1, 0, none⟩ (.int .i64 1)).setCell ⟨w.heap.size + 1 + 1, 1, none⟩ (.slice u.ao u.n u.c) = W9 at *
  go_wp2
  refine bodyPost_ret (v := .agg #[.int .i64 1, .slice u.ao u.n u.c]) (by simp [results, Try.results18, go_sem, hq0, hq1]) rfl ⟨u, rfl, hu2, by omega, hq9⟩

set_option maxRecDepth 100000 in
set_option maxHeartbeats 1600000 in
theorem rzcmp_pn {w : World} (s t : Sl) :
    Calls Try.prog 30 #[.agg #[.int .i64 1, .slice s.ao s.n s.c], .agg #[.int .i64 (-1), .slice t.ao t.n t.c]] w fun e w' => e = .returned (.int .i64 1) ∧ Below w.heap.size w w' := by
  obtain ⟨hE1, hE2, -⟩ := ents2 w (.cells #[.int .i64 1, .slice s.ao s.n s.c] 28) (.cells #[.int .i64 (-1), .slice t.ao t.n t.c] 28)
  have hB := ((Grew.refl w).alloc (.cells #[.int .i64 1, .slice s.ao s.n s.c] 28)).alloc (.cells #[.int .i64 (-1), .slice t.ao t.n t.c] 28)
  have chE1a := box2_c0 hE1
  have chE1b := box2_c1 hE1
  have chE2a := box2_c0 hE2
  have chE2b := box2_c1 hE2
  go_enter Try.func30, Try.ntmps30
  go_wp2
  generalize (w.alloc (.cells #[.int .i64 1, .slice s.ao s.n s.c] 28)).alloc (.cells #[.int .i64 (-1), .slice t.ao t.n t.c] 28) = W at *
  go_ret
  exact ⟨rfl, hB⟩

set_option maxRecDepth 100000 in
set_option maxHeartbeats 1600000 in
theorem rzmul_pz {w : World} {s t : Sl} {x y : Nat} (h : RefS w s x) (h' : RefS w t y) (hn : s.n ≤ 1000000) (hm : t.n ≤ 1000000) (hx0 : 0 < x) (hy0 : y = 0) :
    Calls Try.prog 32 #[.agg #[.int .i64 1, .slice s.ao s.n s.c], .agg #[.int .i64 0, .slice t.ao t.n t.c]] w fun e w' => ∃ u : Sl, e = .returned (.agg #[.int .i64 0, .slice u.ao u.n u.c]) ∧ RefS w' u (x * y) ∧ u.n ≤ s.n + t.n ∧ Below w.heap.size w w' := by
  obtain ⟨hE1, hE2, hE3, -⟩ := ents3 w (.cells #[.int .i64 1, .slice s.ao s.n s.c] 28) (.cells #[.int .i64 0, .slice t.ao t.n t.c] 28) (.cells #[.int .i64 0, .slice none 0 0] 28)
  have hB := (((Grew.refl w).alloc (.cells #[.int .i64 1, .slice s.ao s.n s.c] 28)).alloc (.cells #[.int .i64 0, .slice t.ao t.n t.c] 28)).alloc (.cells #[.int .i64 0, .slice none 0 0] 28)
  have hx := h.grew hB
  have hy := h'.grew hB
  have chE1a := box2_c0 hE1
  have chE1b := box2_c1 hE1
  have chE2a := box2_c0 hE2
  have chE2b := box2_c1 hE2
  have chE3a := box2_c0 hE3
  have chE3b := box2_c1 hE3
  have fhE3a := box2_f hE3 0
  have fhE3b := box2_f hE3 1
  go_enter Try.func32, Try.ntmps32
  go_wp2
  generalize ((w.alloc (.cells #[.int .i64 1, .slice s.ao s.n s.c] 28)).alloc (.cells #[.int .i64 0, .slice t.ao t.n t.c] 28)).alloc (.cells #[.int .i64 0, .slice none 0 0] 28) = W at *
  have hw1 : IntKind.i64.wrap 1 = 1 := by decide
  have hwn : IntKind.i64.wrap (-1) = -1 := by decide
  have hxy : x * y = 0 := by first | (rw [hx0, Nat.zero_mul]; done) | (rw [hy0, Nat.mul_zero]; done)
  clear chE1a chE1b chE2a chE2b chE3a chE3b fhE3a fhE3b
  have hF0 := Fr.init hE3 hB
  refine wp_region_held_drew (S := (fun w' => Fr w W (w.heap.size + 1 + 1) 28 w')) (by kernel_rfl) ?hSz294 (fun hHeld => ?restz294)
  case hSz294 => (try dsimp only); (first | exact hF0.drew | exact hHeld.call ‹Below _ _ _›)
  refine wpAnyH_take (i := 0) (oi := ?oiz295) (v := ?vz295) ?hiz295 (by kernel_rfl) (by kernel_rfl) (by kernel_rfl) ?hqz295 ?hyz295 hHeld ?restz295
  case hiz295 => simp only [List.getElem?_toArray, List.getElem?_cons_zero]; exact rfl
  case hqz295 => exact fun _ _ _ h => h
  case hyz295 => refine Or.inl ⟨by rfl, ?_⟩; intro w hSw; (try dsimp only at hSw); go_simp; try with_reducible rfl
  (try simp only [Act.put, List.setIfInBounds_toArray, List.set_cons_zero, List.set_cons_succ])
  refine wpAnyH_take (i := 1) (oi := ?oiz296) (v := ?vz296) ?hiz296 (by kernel_rfl) (by kernel_rfl) (by kernel_rfl) ?hqz296 ?hyz296 hHeld ?restz296
  case hiz296 => simp only [List.getElem?_toArray, List.getElem?_cons_succ, List.getElem?_cons_zero]; exact rfl
  case hqz296 => exact fun _ _ _ h => h
  case hyz296 => refine Or.inl ⟨by rfl, ?_⟩; intro w hSw; have phE1 := hSw.ent hE1 (by omega); have qhE1 := box2_c0 phE1; have rhE1 := box2_c1 phE1; have phE2 := hSw.ent hE2 (by omega); have qhE2 := box2_c0 phE2; have rhE2 := box2_c1 phE2; go_simp; try with_reducible rfl
  (try simp only [Act.put, List.setIfInBounds_toArray, List.set_cons_zero, List.set_cons_succ])
  refine wpAnyH_take (i := 2) (oi := ?oiz297) (v := ?vz297) ?hiz297 (by kernel_rfl) (by kernel_rfl) (by kernel_rfl) ?hqz297 ?hyz297 hHeld ?restz297
  case hiz297 => simp only [List.getElem?_toArray, List.getElem?_cons_succ, List.getElem?_cons_zero]; exact rfl
  case hqz297 => exact fun _ _ _ h => h
  case hyz297 => refine Or.inl ⟨by rfl, ?_⟩; intro w hSw; (try dsimp only at hSw); go_simp; try with_reducible rfl
  (try simp only [Act.put, List.setIfInBounds_toArray, List.set_cons_zero, List.set_cons_succ])
  refine wpAnyH_take (i := 3) (oi := ?oiz298) (v := ?vz298) ?hiz298 (by kernel_rfl) (by kernel_rfl) (by kernel_rfl) ?hqz298 ?hyz298 hHeld ?restz298
  case hiz298 => simp only [List.getElem?_toArray, List.getElem?_cons_succ, List.getElem?_cons_zero]; exact rfl
  case hqz298 => exact fun _ _ _ h => h
  case hyz298 => refine Or.inl ⟨by rfl, ?_⟩; intro w hSw; have phE1 := hSw.ent hE1 (by omega); have qhE1 := box2_c0 phE1; have rhE1 := box2_c1 phE1; have phE2 := hSw.ent hE2 (by omega); have qhE2 := box2_c0 phE2; have rhE2 := box2_c1 phE2; go_simp; try with_reducible rfl
  (try simp only [Act.put, List.setIfInBounds_toArray, List.set_cons_zero, List.set_cons_succ])
  refine wpAnyH_take (i := 4) (oi := ?oiz299) (v := ?vz299) ?hiz299 (by kernel_rfl) (by kernel_rfl) (by kernel_rfl) ?hqz299 ?hyz299 hHeld ?restz299
  case hiz299 => simp only [List.getElem?_toArray, List.getElem?_cons_succ, List.getElem?_cons_zero]; exact rfl
  case hqz299 => exact fun _ _ _ h => h
  case hyz299 => refine Or.inl ⟨by rfl, ?_⟩; intro w hSw; (try dsimp only at hSw); go_simp; try with_reducible rfl
  (try simp only [Act.put, List.setIfInBounds_toArray, List.set_cons_zero, List.set_cons_succ])
  refine wpAnyH_take (i := 5) (oi := ?oiz300) (v := ?vz300) ?hiz300 (by kernel_rfl) (by kernel_rfl) (by kernel_rfl) ?hqz300 ?hyz300 hHeld ?restz300
  case hiz300 => simp only [List.getElem?_toArray, List.getElem?_cons_succ, List.getElem?_cons_zero]; exact rfl
  case hqz300 => exact fun _ _ _ h => h
  case hyz300 => refine Or.inl ⟨by rfl, ?_⟩; intro w hSw; (try dsimp only at hSw); go_simp; try with_reducible rfl
  (try simp only [Act.put, List.setIfInBounds_toArray, List.set_cons_zero, List.set_cons_succ])
  refine wpAnyH_take (i := 6) (oi := ?oiz301) (v := ?vz301) ?hiz301 (by kernel_rfl) (by kernel_rfl) (by kernel_rfl) ?hqz301 ?hyz301 hHeld ?restz301
  case hiz301 => simp only [List.getElem?_toArray, List.getElem?_cons_succ, List.getElem?_cons_zero]; exact rfl
  case hqz301 => exact fun _ _ _ h => h
  case hyz301 => refine Or.inl ⟨by rfl, ?_⟩; intro w hSw; have phE1 := hSw.ent hE1 (by omega); have qhE1 := box2_c0 phE1; have rhE1 := box2_c1 phE1; have phE2 := hSw.ent hE2 (by omega); have qhE2 := box2_c0 phE2; have rhE2 := box2_c1 phE2; go_simp; try with_reducible rfl
  (try simp only [Act.put, List.setIfInBounds_toArray, List.set_cons_zero, List.set_cons_succ])
  refine wpAnyH_take (i := 7) (oi := ?oiz302) (v := ?vz302) ?hiz302 (by kernel_rfl) (by kernel_rfl) (by kernel_rfl) ?hqz302 ?hyz302 hHeld ?restz302
  case hiz302 => simp only [List.getElem?_toArray, List.getElem?_cons_succ, List.getElem?_cons_zero]; exact rfl
  case hqz302 => exact fun _ _ _ h => h
  case hyz302 => refine Or.inl ⟨by rfl, ?_⟩; intro w hSw; (try dsimp only at hSw); go_simp; try with_reducible rfl
  (try simp only [Act.put, List.setIfInBounds_toArray, List.set_cons_zero, List.set_cons_succ])
  refine wpAnyH_take (i := 8) (oi := ?oiz303) (v := ?vz303) ?hiz303 (by kernel_rfl) (by kernel_rfl) (by kernel_rfl) ?hqz303 ?hyz303 hHeld ?restz303
  case hiz303 => simp only [List.getElem?_toArray, List.getElem?_cons_succ, List.getElem?_cons_zero]; exact rfl
  case hqz303 => exact fun _ _ _ h => h
  case hyz303 => refine Or.inl ⟨by rfl, ?_⟩; intro w hSw; have phE1 := hSw.ent hE1 (by omega); have qhE1 := box2_c0 phE1; have rhE1 := box2_c1 phE1; have phE2 := hSw.ent hE2 (by omega); have qhE2 := box2_c0 phE2; have rhE2 := box2_c1 phE2; go_simp; try with_reducible rfl
  (try simp only [Act.put, List.setIfInBounds_toArray, List.set_cons_zero, List.set_cons_succ])
  refine wpAnyH_ready (rs := [9]) (by kernel_rfl) (by simp) ?_
  refine AllReadyH.cons (o := ?oiz304) ?hiz304 (fun K hK => ?stepz304) AllReadyH.nil
  case hiz304 => simp only [List.getElem?_toArray, List.getElem?_cons_succ, List.getElem?_cons_zero]; exact rfl
  go_simp
  (go_at_call 75; refine (rmul_spec (hHeld.ref hx) (hHeld.ref hy) (by omega) (by omega)).mono ?_; rintro e w1 ⟨u, rfl, hu, hun, hb1⟩)
  refine hK.out _ _ ?hSz304 (fun hHeld' => ?restz304)
  case hSz304 => (try dsimp only); (first | exact hF0.drew | exact hHeld.call ‹Below _ _ _›)
  clear hK K hHeld
  have hHeld := hHeld'
  clear hHeld'
  (try simp only [Act.put, List.setIfInBounds_toArray, List.set_cons_zero, List.set_cons_succ])
  refine wpAnyH_ready (rs := [10]) (by kernel_rfl) (by simp) ?_
  refine AllReadyH.cons (o := ?oiz305) ?hiz305 (fun K hK => ?stepz305) AllReadyH.nil
  case hiz305 => simp only [List.getElem?_toArray, List.getElem?_cons_succ, List.getElem?_cons_zero]; exact rfl
  go_simp
  (go_at_call 47; refine (rmade_zero hu (by omega) _ (by first | rfl | assumption | omega)).mono ?_; rintro e w2 ⟨rfl, hb2⟩)
  refine hK.out _ _ ?hSz305 (fun hHeld' => ?restz305)
  case hSz305 => (try dsimp only); (first | exact hF0.drew | exact hHeld.call ‹Below _ _ _›)
  clear hK K hHeld
  have hHeld := hHeld'
  clear hHeld'
  (try simp only [Act.put, List.setIfInBounds_toArray, List.set_cons_zero, List.set_cons_succ])
  refine wpAnyH_ready (rs := [11]) (by kernel_rfl) (by simp) ?_
  refine AllReadyH.cons (o := ?oiz306) ?hiz306 (fun K hK => ?stepz306) AllReadyH.nil
  case hiz306 => simp only [List.getElem?_toArray, List.getElem?_cons_succ, List.getElem?_cons_zero]; exact rfl
  obtain ⟨v0, b0, hR⟩ := hHeld.res; have c0 := box2_c0 hR; have c1 := box2_c1 hR; have f0 := box2_f hR 0; have f1 := box2_f hR 1; go_simp
  refine hK.out _ _ ?hSz306 (fun hHeld' => ?restz306)
  case hSz306 => (try dsimp only); exact hHeld.set2 (by decide) (by omega) _ _
  clear hK K hHeld
  have hHeld := hHeld'
  clear hHeld'
  (try simp only [Act.put, List.setIfInBounds_toArray, List.set_cons_zero, List.set_cons_succ])
  refine wpAnyH_done (by kernel_rfl) ?_ _
  have hq := box2_set hR (.int .i64 0) (.slice none 0 0)
  have hq0 := box2_c0 hq
  have hq1 := box2_c1 hq
  have hq9 := hHeld.below
  have hu2 := (RefS.nil w2 none 0 (by omega)).kp ((Kp.refl _).set2 hR (by decide) (.int .i64 0) (.slice none 0 0))
  have hz0 : x * y = 0 := by first | rfl | assumption | omega
  clear hHeld hq hR c0 c1 f0 f1
  generalize (w2.setCell ⟨w.heap.size + 1 + 1, 0, none⟩ (.int .i64 0)).setCell ⟨w.heap.size + 1 + 1, 1, none⟩ (.slice none 0 0) = W9 at *
  go_wp2
  refine bodyPost_ret (v := .agg #[.int .i64 0, .slice none 0 0]) (by simp [results, Try.results32, go_sem, hq0, hq1]) rfl ⟨⟨none, 0, 0⟩, rfl, (by rw [hz0]; exact hu2), Nat.zero_le _, hq9⟩

set_option maxRecDepth 100000 in
set_option maxHeartbeats 1600000 in
theorem rzadd_pz {w : World} {s t : Sl} {x y : Nat} (h : RefS w s x) (h' : RefS w t y) (hn : s.n ≤ 1000000) (hm : t.n ≤ 1000000) (hx0 : 0 < x) (hy0 : y = 0) :
    Calls Try.prog 18 #[.agg #[.int .i64 1, .slice s.ao s.n s.c], .agg #[.int .i64 0, .slice t.ao t.n t.c]] w fun e w' => ∃ u : Sl, e = .returned (.agg #[.int .i64 1, .slice u.ao u.n u.c]) ∧ RefS w' u (x) ∧ u.n ≤ max s.n t.n + 1 ∧ Below w.heap.size w w' := by
  obtain ⟨hE1, hE2, hE3, -⟩ := ents3 w (.cells #[.int .i64 1, .slice s.ao s.n s.c] 28) (.cells #[.int .i64 0, .slice t.ao t.n t.c] 28) (.cells #[.int .i64 0, .slice none 0 0] 28)
  have hB := (((Grew.refl w).alloc (.cells #[.int .i64 1, .slice s.ao s.n s.c] 28)).alloc (.cells #[.int .i64 0, .slice t.ao t.n t.c] 28)).alloc (.cells #[.int .i64 0, .slice none 0 0] 28)
  have hx := h.grew hB
  have hy := h'.grew hB
  have chE1a := box2_c0 hE1
  have chE1b := box2_c1 hE1
  have chE2a := box2_c0 hE2
  have chE2b := box2_c1 hE2
  have chE3a := box2_c0 hE3
  have chE3b := box2_c1 hE3
  have fhE3a := box2_f hE3 0
  have fhE3b := box2_f hE3 1
  go_enter Try.func18, Try.ntmps18
  go_wp2
  have hq9 := hB
  have hR9 := hx
  exact bodyPost_ret (v := .agg #[.int .i64 1, .slice s.ao s.n s.c]) (by simp [results, Try.results18, go_sem]) rfl ⟨s, rfl, RefS.kp (h) (((((Kp.refl w).alloc _).alloc _).alloc _)), by omega, ((((Grew.refl w).alloc _).alloc _).alloc _)⟩

set_option maxRecDepth 100000 in
set_option maxHeartbeats 1600000 in
theorem rzcmp_pz {w : World} (s t : Sl) :
    Calls Try.prog 30 #[.agg #[.int .i64 1, .slice s.ao s.n s.c], .agg #[.int .i64 0, .slice t.ao t.n t.c]] w fun e w' => e = .returned (.int .i64 1) ∧ Below w.heap.size w w' := by
  obtain ⟨hE1, hE2, -⟩ := ents2 w (.cells #[.int .i64 1, .slice s.ao s.n s.c] 28) (.cells #[.int .i64 0, .slice t.ao t.n t.c] 28)
  have hB := ((Grew.refl w).alloc (.cells #[.int .i64 1, .slice s.ao s.n s.c] 28)).alloc (.cells #[.int .i64 0, .slice t.ao t.n t.c] 28)
  have chE1a := box2_c0 hE1
  have chE1b := box2_c1 hE1
  have chE2a := box2_c0 hE2
  have chE2b := box2_c1 hE2
  go_enter Try.func30, Try.ntmps30
  go_wp2
  generalize (w.alloc (.cells #[.int .i64 1, .slice s.ao s.n s.c] 28)).alloc (.cells #[.int .i64 0, .slice t.ao t.n t.c] 28) = W at *
  go_ret
  exact ⟨rfl, hB⟩

set_option maxRecDepth 100000 in
set_option maxHeartbeats 1600000 in
theorem rzmul_pp {w : World} {s t : Sl} {x y : Nat} (h : RefS w s x) (h' : RefS w t y) (hn : s.n ≤ 1000000) (hm : t.n ≤ 1000000) (hx0 : 0 < x) (hy0 : 0 < y) :
    Calls Try.prog 32 #[.agg #[.int .i64 1, .slice s.ao s.n s.c], .agg #[.int .i64 1, .slice t.ao t.n t.c]] w fun e w' => ∃ u : Sl, e = .returned (.agg #[.int .i64 1, .slice u.ao u.n u.c]) ∧ RefS w' u (x * y) ∧ u.n ≤ s.n + t.n ∧ Below w.heap.size w w' := by
  obtain ⟨hE1, hE2, hE3, -⟩ := ents3 w (.cells #[.int .i64 1, .slice s.ao s.n s.c] 28) (.cells #[.int .i64 1, .slice t.ao t.n t.c] 28) (.cells #[.int .i64 0, .slice none 0 0] 28)
  have hB := (((Grew.refl w).alloc (.cells #[.int .i64 1, .slice s.ao s.n s.c] 28)).alloc (.cells #[.int .i64 1, .slice t.ao t.n t.c] 28)).alloc (.cells #[.int .i64 0, .slice none 0 0] 28)
  have hx := h.grew hB
  have hy := h'.grew hB
  have chE1a := box2_c0 hE1
  have chE1b := box2_c1 hE1
  have chE2a := box2_c0 hE2
  have chE2b := box2_c1 hE2
  have chE3a := box2_c0 hE3
  have chE3b := box2_c1 hE3
  have fhE3a := box2_f hE3 0
  have fhE3b := box2_f hE3 1
  go_enter Try.func32, Try.ntmps32
  go_wp2
  generalize ((w.alloc (.cells #[.int .i64 1, .slice s.ao s.n s.c] 28)).alloc (.cells #[.int .i64 1, .slice t.ao t.n t.c] 28)).alloc (.cells #[.int .i64 0, .slice none 0 0] 28) = W at *
  have hw1 : IntKind.i64.wrap 1 = 1 := by decide
  have hwn : IntKind.i64.wrap (-1) = -1 := by decide
  clear chE1a chE1b chE2a chE2b chE3a chE3b fhE3a fhE3b
  have hF0 := Fr.init hE3 hB
  refine wp_region_held_drew (S := (fun w' => Fr w W (w.heap.size + 1 + 1) 28 w')) (by kernel_rfl) ?hSz307 (fun hHeld => ?restz307)
  case hSz307 => (try dsimp only); (first | exact hF0.drew | exact hHeld.call ‹Below _ _ _›)
  refine wpAnyH_take (i := 0) (oi := ?oiz308) (v := ?vz308) ?hiz308 (by kernel_rfl) (by kernel_rfl) (by kernel_rfl) ?hqz308 ?hyz308 hHeld ?restz308
  case hiz308 => simp only [List.getElem?_toArray, List.getElem?_cons_zero]; exact rfl
  case hqz308 => exact fun _ _ _ h => h
  case hyz308 => refine Or.inl ⟨by rfl, ?_⟩; intro w hSw; (try dsimp only at hSw); go_simp; try with_reducible rfl
  (try simp only [Act.put, List.setIfInBounds_toArray, List.set_cons_zero, List.set_cons_succ])
  refine wpAnyH_take (i := 1) (oi := ?oiz309) (v := ?vz309) ?hiz309 (by kernel_rfl) (by kernel_rfl) (by kernel_rfl) ?hqz309 ?hyz309 hHeld ?restz309
  case hiz309 => simp only [List.getElem?_toArray, List.getElem?_cons_succ, List.getElem?_cons_zero]; exact rfl
  case hqz309 => exact fun _ _ _ h => h
  case hyz309 => refine Or.inl ⟨by rfl, ?_⟩; intro w hSw; have phE1 := hSw.ent hE1 (by omega); have qhE1 := box2_c0 phE1; have rhE1 := box2_c1 phE1; have phE2 := hSw.ent hE2 (by omega); have qhE2 := box2_c0 phE2; have rhE2 := box2_c1 phE2; go_simp; try with_reducible rfl
  (try simp only [Act.put, List.setIfInBounds_toArray, List.set_cons_zero, List.set_cons_succ])
  refine wpAnyH_take (i := 2) (oi := ?oiz310) (v := ?vz310) ?hiz310 (by kernel_rfl) (by kernel_rfl) (by kernel_rfl) ?hqz310 ?hyz310 hHeld ?restz310
  case hiz310 => simp only [List.getElem?_toArray, List.getElem?_cons_succ, List.getElem?_cons_zero]; exact rfl
  case hqz310 => exact fun _ _ _ h => h
  case hyz310 => refine Or.inl ⟨by rfl, ?_⟩; intro w hSw; (try dsimp only at hSw); go_simp; try with_reducible rfl
  (try simp only [Act.put, List.setIfInBounds_toArray, List.set_cons_zero, List.set_cons_succ])
  refine wpAnyH_take (i := 3) (oi := ?oiz311) (v := ?vz311) ?hiz311 (by kernel_rfl) (by kernel_rfl) (by kernel_rfl) ?hqz311 ?hyz311 hHeld ?restz311
  case hiz311 => simp only [List.getElem?_toArray, List.getElem?_cons_succ, List.getElem?_cons_zero]; exact rfl
  case hqz311 => exact fun _ _ _ h => h
  case hyz311 => refine Or.inl ⟨by rfl, ?_⟩; intro w hSw; have phE1 := hSw.ent hE1 (by omega); have qhE1 := box2_c0 phE1; have rhE1 := box2_c1 phE1; have phE2 := hSw.ent hE2 (by omega); have qhE2 := box2_c0 phE2; have rhE2 := box2_c1 phE2; go_simp; try with_reducible rfl
  (try simp only [Act.put, List.setIfInBounds_toArray, List.set_cons_zero, List.set_cons_succ])
  refine wpAnyH_take (i := 4) (oi := ?oiz312) (v := ?vz312) ?hiz312 (by kernel_rfl) (by kernel_rfl) (by kernel_rfl) ?hqz312 ?hyz312 hHeld ?restz312
  case hiz312 => simp only [List.getElem?_toArray, List.getElem?_cons_succ, List.getElem?_cons_zero]; exact rfl
  case hqz312 => exact fun _ _ _ h => h
  case hyz312 => refine Or.inl ⟨by rfl, ?_⟩; intro w hSw; (try dsimp only at hSw); go_simp; try with_reducible rfl
  (try simp only [Act.put, List.setIfInBounds_toArray, List.set_cons_zero, List.set_cons_succ])
  refine wpAnyH_take (i := 5) (oi := ?oiz313) (v := ?vz313) ?hiz313 (by kernel_rfl) (by kernel_rfl) (by kernel_rfl) ?hqz313 ?hyz313 hHeld ?restz313
  case hiz313 => simp only [List.getElem?_toArray, List.getElem?_cons_succ, List.getElem?_cons_zero]; exact rfl
  case hqz313 => exact fun _ _ _ h => h
  case hyz313 => refine Or.inl ⟨by rfl, ?_⟩; intro w hSw; (try dsimp only at hSw); go_simp; try with_reducible rfl
  (try simp only [Act.put, List.setIfInBounds_toArray, List.set_cons_zero, List.set_cons_succ])
  refine wpAnyH_take (i := 6) (oi := ?oiz314) (v := ?vz314) ?hiz314 (by kernel_rfl) (by kernel_rfl) (by kernel_rfl) ?hqz314 ?hyz314 hHeld ?restz314
  case hiz314 => simp only [List.getElem?_toArray, List.getElem?_cons_succ, List.getElem?_cons_zero]; exact rfl
  case hqz314 => exact fun _ _ _ h => h
  case hyz314 => refine Or.inl ⟨by rfl, ?_⟩; intro w hSw; have phE1 := hSw.ent hE1 (by omega); have qhE1 := box2_c0 phE1; have rhE1 := box2_c1 phE1; have phE2 := hSw.ent hE2 (by omega); have qhE2 := box2_c0 phE2; have rhE2 := box2_c1 phE2; go_simp; try with_reducible rfl
  (try simp only [Act.put, List.setIfInBounds_toArray, List.set_cons_zero, List.set_cons_succ])
  refine wpAnyH_take (i := 7) (oi := ?oiz315) (v := ?vz315) ?hiz315 (by kernel_rfl) (by kernel_rfl) (by kernel_rfl) ?hqz315 ?hyz315 hHeld ?restz315
  case hiz315 => simp only [List.getElem?_toArray, List.getElem?_cons_succ, List.getElem?_cons_zero]; exact rfl
  case hqz315 => exact fun _ _ _ h => h
  case hyz315 => refine Or.inl ⟨by rfl, ?_⟩; intro w hSw; (try dsimp only at hSw); go_simp; try with_reducible rfl
  (try simp only [Act.put, List.setIfInBounds_toArray, List.set_cons_zero, List.set_cons_succ])
  refine wpAnyH_take (i := 8) (oi := ?oiz316) (v := ?vz316) ?hiz316 (by kernel_rfl) (by kernel_rfl) (by kernel_rfl) ?hqz316 ?hyz316 hHeld ?restz316
  case hiz316 => simp only [List.getElem?_toArray, List.getElem?_cons_succ, List.getElem?_cons_zero]; exact rfl
  case hqz316 => exact fun _ _ _ h => h
  case hyz316 => refine Or.inl ⟨by rfl, ?_⟩; intro w hSw; have phE1 := hSw.ent hE1 (by omega); have qhE1 := box2_c0 phE1; have rhE1 := box2_c1 phE1; have phE2 := hSw.ent hE2 (by omega); have qhE2 := box2_c0 phE2; have rhE2 := box2_c1 phE2; go_simp; try with_reducible rfl
  (try simp only [Act.put, List.setIfInBounds_toArray, List.set_cons_zero, List.set_cons_succ])
  refine wpAnyH_ready (rs := [9]) (by kernel_rfl) (by simp) ?_
  refine AllReadyH.cons (o := ?oiz317) ?hiz317 (fun K hK => ?stepz317) AllReadyH.nil
  case hiz317 => simp only [List.getElem?_toArray, List.getElem?_cons_succ, List.getElem?_cons_zero]; exact rfl
  go_simp
  (go_at_call 75; refine (rmul_spec (hHeld.ref hx) (hHeld.ref hy) (by omega) (by omega)).mono ?_; rintro e w1 ⟨u, rfl, hu, hun, hb1⟩)
  refine hK.out _ _ ?hSz317 (fun hHeld' => ?restz317)
  case hSz317 => (try dsimp only); (first | exact hF0.drew | exact hHeld.call ‹Below _ _ _›)
  clear hK K hHeld
  have hHeld := hHeld'
  clear hHeld'
  (try simp only [Act.put, List.setIfInBounds_toArray, List.set_cons_zero, List.set_cons_succ])
  refine wpAnyH_ready (rs := [10]) (by kernel_rfl) (by simp) ?_
  refine AllReadyH.cons (o := ?oiz318) ?hiz318 (fun K hK => ?stepz318) AllReadyH.nil
  case hiz318 => simp only [List.getElem?_toArray, List.getElem?_cons_succ, List.getElem?_cons_zero]; exact rfl
  go_simp
  (go_at_call 47; refine (rmade_pos hu (by omega) _ (by first | assumption | exact Nat.mul_pos hx0 hy0 | omega)).mono ?_; rintro e w2 ⟨rfl, hb2⟩)
  refine hK.out _ _ ?hSz318 (fun hHeld' => ?restz318)
  case hSz318 => (try dsimp only); (first | exact hF0.drew | exact hHeld.call ‹Below _ _ _›)
  clear hK K hHeld
  have hHeld := hHeld'
  clear hHeld'
  (try simp only [Act.put, List.setIfInBounds_toArray, List.set_cons_zero, List.set_cons_succ])
  refine wpAnyH_ready (rs := [11]) (by kernel_rfl) (by simp) ?_
  refine AllReadyH.cons (o := ?oiz319) ?hiz319 (fun K hK => ?stepz319) AllReadyH.nil
  case hiz319 => simp only [List.getElem?_toArray, List.getElem?_cons_succ, List.getElem?_cons_zero]; exact rfl
  obtain ⟨v0, b0, hR⟩ := hHeld.res; have c0 := box2_c0 hR; have c1 := box2_c1 hR; have f0 := box2_f hR 0; have f1 := box2_f hR 1; go_simp
  refine hK.out _ _ ?hSz319 (fun hHeld' => ?restz319)
  case hSz319 => (try dsimp only); exact hHeld.set2 (by decide) (by omega) _ _
  clear hK K hHeld
  have hHeld := hHeld'
  clear hHeld'
  (try simp only [Act.put, List.setIfInBounds_toArray, List.set_cons_zero, List.set_cons_succ])
  refine wpAnyH_done (by kernel_rfl) ?_ _
  have hq := box2_set hR (.int .i64 1) (.slice u.ao u.n u.c)
  have hq0 := box2_c0 hq
  have hq1 := box2_c1 hq
  have hq9 := hHeld.below
  have hu2 := (hu.up hb2).kp ((Kp.refl _).set2 hR (by decide) (.int .i64 1) (.slice u.ao u.n u.c))
  clear hHeld hq hR c0 c1 f0 f1
  generalize (w2.setCell ⟨w.heap.size + 1 + 1, 0, none⟩ (.int .i64 1)).setCell ⟨w.heap.size + 1 + 1, 1, none⟩ (.slice u.ao u.n u.c) = W9 at *
  go_wp2
  refine bodyPost_ret (v := .agg #[.int .i64 1, .slice u.ao u.n u.c]) (by simp [results, Try.results32, go_sem, hq0, hq1]) rfl ⟨u, rfl, hu2, hun, hq9⟩

set_option maxRecDepth 100000 in
set_option maxHeartbeats 1600000 in
theorem rzadd_pp {w : World} {s t : Sl} {x y : Nat} (h : RefS w s x) (h' : RefS w t y) (hn : s.n ≤ 1000000) (hm : t.n ≤ 1000000) (hx0 : 0 < x) (hy0 : 0 < y) :
    Calls Try.prog 18 #[.agg #[.int .i64 1, .slice s.ao s.n s.c], .agg #[.int .i64 1, .slice t.ao t.n t.c]] w fun e w' => ∃ u : Sl, e = .returned (.agg #[.int .i64 1, .slice u.ao u.n u.c]) ∧ RefS w' u (x + y) ∧ u.n ≤ max s.n t.n + 1 ∧ Below w.heap.size w w' := by
  obtain ⟨hE1, hE2, hE3, -⟩ := ents3 w (.cells #[.int .i64 1, .slice s.ao s.n s.c] 28) (.cells #[.int .i64 1, .slice t.ao t.n t.c] 28) (.cells #[.int .i64 0, .slice none 0 0] 28)
  have hB := (((Grew.refl w).alloc (.cells #[.int .i64 1, .slice s.ao s.n s.c] 28)).alloc (.cells #[.int .i64 1, .slice t.ao t.n t.c] 28)).alloc (.cells #[.int .i64 0, .slice none 0 0] 28)
  have hx := h.grew hB
  have hy := h'.grew hB
  have chE1a := box2_c0 hE1
  have chE1b := box2_c1 hE1
  have chE2a := box2_c0 hE2
  have chE2b := box2_c1 hE2
  have chE3a := box2_c0 hE3
  have chE3b := box2_c1 hE3
  have fhE3a := box2_f hE3 0
  have fhE3b := box2_f hE3 1
  go_enter Try.func18, Try.ntmps18
  go_wp2
  generalize ((w.alloc (.cells #[.int .i64 1, .slice s.ao s.n s.c] 28)).alloc (.cells #[.int .i64 1, .slice t.ao t.n t.c] 28)).alloc (.cells #[.int .i64 0, .slice none 0 0] 28) = W at *
  clear chE1a chE1b chE2a chE2b chE3a chE3b fhE3a fhE3b
  have hF0 := Fr.init hE3 hB
  refine wp_region_held_drew (S := (fun w' => Fr w W (w.heap.size + 1 + 1) 28 w')) (by kernel_rfl) ?hSz320 (fun hHeld => ?restz320)
  case hSz320 => (try dsimp only); (first | exact hF0.drew | exact hHeld.call ‹Below _ _ _›)
  refine wpAnyH_take (i := 0) (oi := ?oiz321) (v := ?vz321) ?hiz321 (by kernel_rfl) (by kernel_rfl) (by kernel_rfl) ?hqz321 ?hyz321 hHeld ?restz321
  case hiz321 => simp only [List.getElem?_toArray, List.getElem?_cons_zero]; exact rfl
  case hqz321 => exact fun _ _ _ h => h
  case hyz321 => refine Or.inl ⟨by rfl, ?_⟩; intro w hSw; (try dsimp only at hSw); go_simp; try with_reducible rfl
  (try simp only [Act.put, List.setIfInBounds_toArray, List.set_cons_zero, List.set_cons_succ])
  refine wpAnyH_take (i := 1) (oi := ?oiz322) (v := ?vz322) ?hiz322 (by kernel_rfl) (by kernel_rfl) (by kernel_rfl) ?hqz322 ?hyz322 hHeld ?restz322
  case hiz322 => simp only [List.getElem?_toArray, List.getElem?_cons_succ, List.getElem?_cons_zero]; exact rfl
  case hqz322 => exact fun _ _ _ h => h
  case hyz322 => refine Or.inl ⟨by rfl, ?_⟩; intro w hSw; have phE1 := hSw.ent hE1 (by omega); have qhE1 := box2_c0 phE1; have rhE1 := box2_c1 phE1; have phE2 := hSw.ent hE2 (by omega); have qhE2 := box2_c0 phE2; have rhE2 := box2_c1 phE2; go_simp; try with_reducible rfl
  (try simp only [Act.put, List.setIfInBounds_toArray, List.set_cons_zero, List.set_cons_succ])
  refine wpAnyH_take (i := 2) (oi := ?oiz323) (v := ?vz323) ?hiz323 (by kernel_rfl) (by kernel_rfl) (by kernel_rfl) ?hqz323 ?hyz323 hHeld ?restz323
  case hiz323 => simp only [List.getElem?_toArray, List.getElem?_cons_succ, List.getElem?_cons_zero]; exact rfl
  case hqz323 => exact fun _ _ _ h => h
  case hyz323 => refine Or.inl ⟨by rfl, ?_⟩; intro w hSw; (try dsimp only at hSw); go_simp; try with_reducible rfl
  (try simp only [Act.put, List.setIfInBounds_toArray, List.set_cons_zero, List.set_cons_succ])
  refine wpAnyH_take (i := 3) (oi := ?oiz324) (v := ?vz324) ?hiz324 (by kernel_rfl) (by kernel_rfl) (by kernel_rfl) ?hqz324 ?hyz324 hHeld ?restz324
  case hiz324 => simp only [List.getElem?_toArray, List.getElem?_cons_succ, List.getElem?_cons_zero]; exact rfl
  case hqz324 => exact fun _ _ _ h => h
  case hyz324 => refine Or.inl ⟨by rfl, ?_⟩; intro w hSw; have phE1 := hSw.ent hE1 (by omega); have qhE1 := box2_c0 phE1; have rhE1 := box2_c1 phE1; have phE2 := hSw.ent hE2 (by omega); have qhE2 := box2_c0 phE2; have rhE2 := box2_c1 phE2; go_simp; try with_reducible rfl
  (try simp only [Act.put, List.setIfInBounds_toArray, List.set_cons_zero, List.set_cons_succ])
  refine wpAnyH_take (i := 4) (oi := ?oiz325) (v := ?vz325) ?hiz325 (by kernel_rfl) (by kernel_rfl) (by kernel_rfl) ?hqz325 ?hyz325 hHeld ?restz325
  case hiz325 => simp only [List.getElem?_toArray, List.getElem?_cons_succ, List.getElem?_cons_zero]; exact rfl
  case hqz325 => exact fun _ _ _ h => h
  case hyz325 => refine Or.inl ⟨by rfl, ?_⟩; intro w hSw; (try dsimp only at hSw); go_simp; try with_reducible rfl
  (try simp only [Act.put, List.setIfInBounds_toArray, List.set_cons_zero, List.set_cons_succ])
  refine wpAnyH_take (i := 5) (oi := ?oiz326) (v := ?vz326) ?hiz326 (by kernel_rfl) (by kernel_rfl) (by kernel_rfl) ?hqz326 ?hyz326 hHeld ?restz326
  case hiz326 => simp only [List.getElem?_toArray, List.getElem?_cons_succ, List.getElem?_cons_zero]; exact rfl
  case hqz326 => exact fun _ _ _ h => h
  case hyz326 => refine Or.inl ⟨by rfl, ?_⟩; intro w hSw; have phE1 := hSw.ent hE1 (by omega); have qhE1 := box2_c0 phE1; have rhE1 := box2_c1 phE1; have phE2 := hSw.ent hE2 (by omega); have qhE2 := box2_c0 phE2; have rhE2 := box2_c1 phE2; go_simp; try with_reducible rfl
  (try simp only [Act.put, List.setIfInBounds_toArray, List.set_cons_zero, List.set_cons_succ])
  refine wpAnyH_ready (rs := [6]) (by kernel_rfl) (by simp) ?_
  refine AllReadyH.cons (o := ?oiz327) ?hiz327 (fun K hK => ?stepz327) AllReadyH.nil
  case hiz327 => simp only [List.getElem?_toArray, List.getElem?_cons_succ, List.getElem?_cons_zero]; exact rfl
  go_simp
  (go_at_call 63; refine (radd_spec (hHeld.ref hx) (hHeld.ref hy) (by omega) (by omega)).mono ?_; rintro e w1 ⟨u, rfl, hu, hun, hb1⟩)
  refine hK.out _ _ ?hSz327 (fun hHeld' => ?restz327)
  case hSz327 => (try dsimp only); (first | exact hF0.drew | exact hHeld.call ‹Below _ _ _›)
  clear hK K hHeld
  have hHeld := hHeld'
  clear hHeld'
  (try simp only [Act.put, List.setIfInBounds_toArray, List.set_cons_zero, List.set_cons_succ])
  refine wpAnyH_ready (rs := [7]) (by kernel_rfl) (by simp) ?_
  refine AllReadyH.cons (o := ?oiz328) ?hiz328 (fun K hK => ?stepz328) AllReadyH.nil
  case hiz328 => simp only [List.getElem?_toArray, List.getElem?_cons_succ, List.getElem?_cons_zero]; exact rfl
  go_simp
  (go_at_call 47; refine (rmade_pos hu (by omega) _ (by first | assumption | exact Nat.mul_pos hx0 hy0 | omega)).mono ?_; rintro e w2 ⟨rfl, hb2⟩)
  refine hK.out _ _ ?hSz328 (fun hHeld' => ?restz328)
  case hSz328 => (try dsimp only); (first | exact hF0.drew | exact hHeld.call ‹Below _ _ _›)
  clear hK K hHeld
  have hHeld := hHeld'
  clear hHeld'
  (try simp only [Act.put, List.setIfInBounds_toArray, List.set_cons_zero, List.set_cons_succ])
  refine wpAnyH_ready (rs := [8]) (by kernel_rfl) (by simp) ?_
  refine AllReadyH.cons (o := ?oiz329) ?hiz329 (fun K hK => ?stepz329) AllReadyH.nil
  case hiz329 => simp only [List.getElem?_toArray, List.getElem?_cons_succ, List.getElem?_cons_zero]; exact rfl
  obtain ⟨v0, b0, hR⟩ := hHeld.res; have c0 := box2_c0 hR; have c1 := box2_c1 hR; have f0 := box2_f hR 0; have f1 := box2_f hR 1; go_simp
  refine hK.out _ _ ?hSz329 (fun hHeld' => ?restz329)
  case hSz329 => (try dsimp only); exact hHeld.set2 (by decide) (by omega) _ _
  clear hK K hHeld
  have hHeld := hHeld'
  clear hHeld'
  (try simp only [Act.put, List.setIfInBounds_toArray, List.set_cons_zero, List.set_cons_succ])
  refine wpAnyH_done (by kernel_rfl) ?_ _
  have hq := box2_set hR (.int .i64 1) (.slice u.ao u.n u.c)
  have hq0 := box2_c0 hq
  have hq1 := box2_c1 hq
  have hq9 := hHeld.below
  have hu2 := (hu.up hb2).kp ((Kp.refl _).set2 hR (by decide) (.int .i64 1) (.slice u.ao u.n u.c))
  clear hHeld hq hR c0 c1 f0 f1
  generalize (w2.setCell ⟨w.heap.size + 1 + 1, 0, none⟩ (.int .i64 1)).setCell ⟨w.heap.size + 1 + 1, 1, none⟩ (.slice u.ao u.n u.c) = W9 at *
  go_wp2
  refine bodyPost_ret (v := .agg #[.int .i64 1, .slice u.ao u.n u.c]) (by simp [results, Try.results18, go_sem, hq0, hq1]) rfl ⟨u, rfl, hu2, hun, hq9⟩

set_option maxRecDepth 100000 in
set_option maxHeartbeats 1600000 in
theorem rzcmp_pp_lt {w : World} {s t : Sl} {x y : Nat} (h : RefS w s x) (h' : RefS w t y) (hn : s.n ≤ 1000000) (hm : t.n ≤ 1000000) (hc : x < y) :
    Calls Try.prog 30 #[.agg #[.int .i64 1, .slice s.ao s.n s.c], .agg #[.int .i64 1, .slice t.ao t.n t.c]] w fun e w' => e = .returned (.int .i64 (-1)) ∧ Below w.heap.size w w' := by
  obtain ⟨hE1, hE2, -⟩ := ents2 w (.cells #[.int .i64 1, .slice s.ao s.n s.c] 28) (.cells #[.int .i64 1, .slice t.ao t.n t.c] 28)
  have hB := ((Grew.refl w).alloc (.cells #[.int .i64 1, .slice s.ao s.n s.c] 28)).alloc (.cells #[.int .i64 1, .slice t.ao t.n t.c] 28)
  have hx := h.grew hB
  have hy := h'.grew hB
  have chE1a := box2_c0 hE1
  have chE1b := box2_c1 hE1
  have chE2a := box2_c0 hE2
  have chE2b := box2_c1 hE2
  have hc0 : cmpN x y = -1 := cmpN_lt hc
  go_enter Try.func30, Try.ntmps30
  go_wp2
  generalize (w.alloc (.cells #[.int .i64 1, .slice s.ao s.n s.c] 28)).alloc (.cells #[.int .i64 1, .slice t.ao t.n t.c] 28) = W at *
  clear chE1a chE1b chE2a chE2b
  refine wp_region_held_drew (S := (fun w' => Grew W w')) (by kernel_rfl) ?hSz330 (fun hHeld => ?restz330)
  case hSz330 => (try dsimp only); (first | exact (Grew.refl _).drew | exact Grew.call hHeld ‹Below _ _ _›)
  refine wpAnyH_take (i := 0) (oi := ?oiz331) (v := ?vz331) ?hiz331 (by kernel_rfl) (by kernel_rfl) (by kernel_rfl) ?hqz331 ?hyz331 hHeld ?restz331
  case hiz331 => simp only [List.getElem?_toArray, List.getElem?_cons_zero]; exact rfl
  case hqz331 => exact fun _ _ _ h => h
  case hyz331 => refine Or.inl ⟨by rfl, ?_⟩; intro w hSw; (try dsimp only at hSw); go_simp; try with_reducible rfl
  (try simp only [Act.put, List.setIfInBounds_toArray, List.set_cons_zero, List.set_cons_succ])
  refine wpAnyH_take (i := 1) (oi := ?oiz332) (v := ?vz332) ?hiz332 (by kernel_rfl) (by kernel_rfl) (by kernel_rfl) ?hqz332 ?hyz332 hHeld ?restz332
  case hiz332 => simp only [List.getElem?_toArray, List.getElem?_cons_succ, List.getElem?_cons_zero]; exact rfl
  case hqz332 => exact fun _ _ _ h => h
  case hyz332 => refine Or.inl ⟨by rfl, ?_⟩; intro w hSw; have phE1 := ent_grew hSw hE1; have qhE1 := box2_c0 phE1; have rhE1 := box2_c1 phE1; have phE2 := ent_grew hSw hE2; have qhE2 := box2_c0 phE2; have rhE2 := box2_c1 phE2; go_simp; try with_reducible rfl
  (try simp only [Act.put, List.setIfInBounds_toArray, List.set_cons_zero, List.set_cons_succ])
  refine wpAnyH_take (i := 2) (oi := ?oiz333) (v := ?vz333) ?hiz333 (by kernel_rfl) (by kernel_rfl) (by kernel_rfl) ?hqz333 ?hyz333 hHeld ?restz333
  case hiz333 => simp only [List.getElem?_toArray, List.getElem?_cons_succ, List.getElem?_cons_zero]; exact rfl
  case hqz333 => exact fun _ _ _ h => h
  case hyz333 => refine Or.inl ⟨by rfl, ?_⟩; intro w hSw; (try dsimp only at hSw); go_simp; try with_reducible rfl
  (try simp only [Act.put, List.setIfInBounds_toArray, List.set_cons_zero, List.set_cons_succ])
  refine wpAnyH_take (i := 3) (oi := ?oiz334) (v := ?vz334) ?hiz334 (by kernel_rfl) (by kernel_rfl) (by kernel_rfl) ?hqz334 ?hyz334 hHeld ?restz334
  case hiz334 => simp only [List.getElem?_toArray, List.getElem?_cons_succ, List.getElem?_cons_zero]; exact rfl
  case hqz334 => exact fun _ _ _ h => h
  case hyz334 => refine Or.inl ⟨by rfl, ?_⟩; intro w hSw; have phE1 := ent_grew hSw hE1; have qhE1 := box2_c0 phE1; have rhE1 := box2_c1 phE1; have phE2 := ent_grew hSw hE2; have qhE2 := box2_c0 phE2; have rhE2 := box2_c1 phE2; go_simp; try with_reducible rfl
  (try simp only [Act.put, List.setIfInBounds_toArray, List.set_cons_zero, List.set_cons_succ])
  refine wpAnyH_take (i := 4) (oi := ?oiz335) (v := ?vz335) ?hiz335 (by kernel_rfl) (by kernel_rfl) (by kernel_rfl) ?hqz335 ?hyz335 hHeld ?restz335
  case hiz335 => simp only [List.getElem?_toArray, List.getElem?_cons_succ, List.getElem?_cons_zero]; exact rfl
  case hqz335 => exact fun _ _ _ h => h
  case hyz335 => refine Or.inl ⟨by rfl, ?_⟩; intro w hSw; (try dsimp only at hSw); go_simp; try with_reducible rfl
  (try simp only [Act.put, List.setIfInBounds_toArray, List.set_cons_zero, List.set_cons_succ])
  refine wpAnyH_take (i := 5) (oi := ?oiz336) (v := ?vz336) ?hiz336 (by kernel_rfl) (by kernel_rfl) (by kernel_rfl) ?hqz336 ?hyz336 hHeld ?restz336
  case hiz336 => simp only [List.getElem?_toArray, List.getElem?_cons_succ, List.getElem?_cons_zero]; exact rfl
  case hqz336 => exact fun _ _ _ h => h
  case hyz336 => refine Or.inl ⟨by rfl, ?_⟩; intro w hSw; have phE1 := ent_grew hSw hE1; have qhE1 := box2_c0 phE1; have rhE1 := box2_c1 phE1; have phE2 := ent_grew hSw hE2; have qhE2 := box2_c0 phE2; have rhE2 := box2_c1 phE2; go_simp; try with_reducible rfl
  (try simp only [Act.put, List.setIfInBounds_toArray, List.set_cons_zero, List.set_cons_succ])
  refine wpAnyH_ready (rs := [6]) (by kernel_rfl) (by simp) ?_
  refine AllReadyH.cons (o := ?oiz337) ?hiz337 (fun K hK => ?stepz337) AllReadyH.nil
  case hiz337 => simp only [List.getElem?_toArray, List.getElem?_cons_succ, List.getElem?_cons_zero]; exact rfl
  go_simp
  (go_at_call 64; refine (rcmp_at (-1) hc0 (hx.grew hHeld) (hy.grew hHeld) (by omega) (by omega)).mono ?_; rintro e w1 ⟨rfl, hb1⟩)
  refine hK.out _ _ ?hSz337 (fun hHeld' => ?restz337)
  case hSz337 => (try dsimp only); (first | exact (Grew.refl _).drew | exact Grew.call hHeld ‹Below _ _ _›)
  clear hK K hHeld
  have hHeld := hHeld'
  clear hHeld'
  (try simp only [Act.put, List.setIfInBounds_toArray, List.set_cons_zero, List.set_cons_succ])
  refine wpAnyH_take (i := 7) (oi := ?oiz338) (v := ?vz338) ?hiz338 (by kernel_rfl) (by kernel_rfl) (by kernel_rfl) ?hqz338 ?hyz338 hHeld ?restz338
  case hiz338 => simp only [List.getElem?_toArray, List.getElem?_cons_succ, List.getElem?_cons_zero]; exact rfl
  case hqz338 => exact fun _ _ _ h => h
  case hyz338 => refine Or.inl ⟨by rfl, ?_⟩; intro w hSw; (try dsimp only at hSw); go_simp; try with_reducible rfl
  (try simp only [Act.put, List.setIfInBounds_toArray, List.set_cons_zero, List.set_cons_succ])
  refine wpAnyH_take (i := 8) (oi := ?oiz339) (v := ?vz339) ?hiz339 (by kernel_rfl) (by kernel_rfl) (by kernel_rfl) ?hqz339 ?hyz339 hHeld ?restz339
  case hiz339 => simp only [List.getElem?_toArray, List.getElem?_cons_succ, List.getElem?_cons_zero]; exact rfl
  case hqz339 => exact fun _ _ _ h => h
  case hyz339 => refine Or.inl ⟨by rfl, ?_⟩; intro w hSw; (try dsimp only at hSw); go_simp; try with_reducible rfl
  (try simp only [Act.put, List.setIfInBounds_toArray, List.set_cons_zero, List.set_cons_succ])
  refine wpAnyH_done (by kernel_rfl) ?_ _
  have hq9 := hB.trans hHeld
  clear hHeld
  go_wp2
  go_ret
  exact ⟨rfl, hq9⟩

set_option maxRecDepth 100000 in
set_option maxHeartbeats 1600000 in
theorem rzcmp_pp_eq {w : World} {s t : Sl} {x y : Nat} (h : RefS w s x) (h' : RefS w t y) (hn : s.n ≤ 1000000) (hm : t.n ≤ 1000000) (hc : x = y) :
    Calls Try.prog 30 #[.agg #[.int .i64 1, .slice s.ao s.n s.c], .agg #[.int .i64 1, .slice t.ao t.n t.c]] w fun e w' => e = .returned (.int .i64 (0)) ∧ Below w.heap.size w w' := by
  obtain ⟨hE1, hE2, -⟩ := ents2 w (.cells #[.int .i64 1, .slice s.ao s.n s.c] 28) (.cells #[.int .i64 1, .slice t.ao t.n t.c] 28)
  have hB := ((Grew.refl w).alloc (.cells #[.int .i64 1, .slice s.ao s.n s.c] 28)).alloc (.cells #[.int .i64 1, .slice t.ao t.n t.c] 28)
  have hx := h.grew hB
  have hy := h'.grew hB
  have chE1a := box2_c0 hE1
  have chE1b := box2_c1 hE1
  have chE2a := box2_c0 hE2
  have chE2b := box2_c1 hE2
  have hc0 : cmpN x y = 0 := by rw [hc]; exact cmpN_eq y
  go_enter Try.func30, Try.ntmps30
  go_wp2
  generalize (w.alloc (.cells #[.int .i64 1, .slice s.ao s.n s.c] 28)).alloc (.cells #[.int .i64 1, .slice t.ao t.n t.c] 28) = W at *
  clear chE1a chE1b chE2a chE2b
  refine wp_region_held_drew (S := (fun w' => Grew W w')) (by kernel_rfl) ?hSz340 (fun hHeld => ?restz340)
  case hSz340 => (try dsimp only); (first | exact (Grew.refl _).drew | exact Grew.call hHeld ‹Below _ _ _›)
  refine wpAnyH_take (i := 0) (oi := ?oiz341) (v := ?vz341) ?hiz341 (by kernel_rfl) (by kernel_rfl) (by kernel_rfl) ?hqz341 ?hyz341 hHeld ?restz341
  case hiz341 => simp only [List.getElem?_toArray, List.getElem?_cons_zero]; exact rfl
  case hqz341 => exact fun _ _ _ h => h
  case hyz341 => refine Or.inl ⟨by rfl, ?_⟩; intro w hSw; (try dsimp only at hSw); go_simp; try with_reducible rfl
  (try simp only [Act.put, List.setIfInBounds_toArray, List.set_cons_zero, List.set_cons_succ])
  refine wpAnyH_take (i := 1) (oi := ?oiz342) (v := ?vz342) ?hiz342 (by kernel_rfl) (by kernel_rfl) (by kernel_rfl) ?hqz342 ?hyz342 hHeld ?restz342
  case hiz342 => simp only [List.getElem?_toArray, List.getElem?_cons_succ, List.getElem?_cons_zero]; exact rfl
  case hqz342 => exact fun _ _ _ h => h
  case hyz342 => refine Or.inl ⟨by rfl, ?_⟩; intro w hSw; have phE1 := ent_grew hSw hE1; have qhE1 := box2_c0 phE1; have rhE1 := box2_c1 phE1; have phE2 := ent_grew hSw hE2; have qhE2 := box2_c0 phE2; have rhE2 := box2_c1 phE2; go_simp; try with_reducible rfl
  (try simp only [Act.put, List.setIfInBounds_toArray, List.set_cons_zero, List.set_cons_succ])
  refine wpAnyH_take (i := 2) (oi := ?oiz343) (v := ?vz343) ?hiz343 (by kernel_rfl) (by kernel_rfl) (by kernel_rfl) ?hqz343 ?hyz343 hHeld ?restz343
  case hiz343 => simp only [List.getElem?_toArray, List.getElem?_cons_succ, List.getElem?_cons_zero]; exact rfl
  case hqz343 => exact fun _ _ _ h => h
  case hyz343 => refine Or.inl ⟨by rfl, ?_⟩; intro w hSw; (try dsimp only at hSw); go_simp; try with_reducible rfl
  (try simp only [Act.put, List.setIfInBounds_toArray, List.set_cons_zero, List.set_cons_succ])
  refine wpAnyH_take (i := 3) (oi := ?oiz344) (v := ?vz344) ?hiz344 (by kernel_rfl) (by kernel_rfl) (by kernel_rfl) ?hqz344 ?hyz344 hHeld ?restz344
  case hiz344 => simp only [List.getElem?_toArray, List.getElem?_cons_succ, List.getElem?_cons_zero]; exact rfl
  case hqz344 => exact fun _ _ _ h => h
  case hyz344 => refine Or.inl ⟨by rfl, ?_⟩; intro w hSw; have phE1 := ent_grew hSw hE1; have qhE1 := box2_c0 phE1; have rhE1 := box2_c1 phE1; have phE2 := ent_grew hSw hE2; have qhE2 := box2_c0 phE2; have rhE2 := box2_c1 phE2; go_simp; try with_reducible rfl
  (try simp only [Act.put, List.setIfInBounds_toArray, List.set_cons_zero, List.set_cons_succ])
  refine wpAnyH_take (i := 4) (oi := ?oiz345) (v := ?vz345) ?hiz345 (by kernel_rfl) (by kernel_rfl) (by kernel_rfl) ?hqz345 ?hyz345 hHeld ?restz345
  case hiz345 => simp only [List.getElem?_toArray, List.getElem?_cons_succ, List.getElem?_cons_zero]; exact rfl
  case hqz345 => exact fun _ _ _ h => h
  case hyz345 => refine Or.inl ⟨by rfl, ?_⟩; intro w hSw; (try dsimp only at hSw); go_simp; try with_reducible rfl
  (try simp only [Act.put, List.setIfInBounds_toArray, List.set_cons_zero, List.set_cons_succ])
  refine wpAnyH_take (i := 5) (oi := ?oiz346) (v := ?vz346) ?hiz346 (by kernel_rfl) (by kernel_rfl) (by kernel_rfl) ?hqz346 ?hyz346 hHeld ?restz346
  case hiz346 => simp only [List.getElem?_toArray, List.getElem?_cons_succ, List.getElem?_cons_zero]; exact rfl
  case hqz346 => exact fun _ _ _ h => h
  case hyz346 => refine Or.inl ⟨by rfl, ?_⟩; intro w hSw; have phE1 := ent_grew hSw hE1; have qhE1 := box2_c0 phE1; have rhE1 := box2_c1 phE1; have phE2 := ent_grew hSw hE2; have qhE2 := box2_c0 phE2; have rhE2 := box2_c1 phE2; go_simp; try with_reducible rfl
  (try simp only [Act.put, List.setIfInBounds_toArray, List.set_cons_zero, List.set_cons_succ])
  refine wpAnyH_ready (rs := [6]) (by kernel_rfl) (by simp) ?_
  refine AllReadyH.cons (o := ?oiz347) ?hiz347 (fun K hK => ?stepz347) AllReadyH.nil
  case hiz347 => simp only [List.getElem?_toArray, List.getElem?_cons_succ, List.getElem?_cons_zero]; exact rfl
  go_simp
  (go_at_call 64; refine (rcmp_at (0) hc0 (hx.grew hHeld) (hy.grew hHeld) (by omega) (by omega)).mono ?_; rintro e w1 ⟨rfl, hb1⟩)
  refine hK.out _ _ ?hSz347 (fun hHeld' => ?restz347)
  case hSz347 => (try dsimp only); (first | exact (Grew.refl _).drew | exact Grew.call hHeld ‹Below _ _ _›)
  clear hK K hHeld
  have hHeld := hHeld'
  clear hHeld'
  (try simp only [Act.put, List.setIfInBounds_toArray, List.set_cons_zero, List.set_cons_succ])
  refine wpAnyH_take (i := 7) (oi := ?oiz348) (v := ?vz348) ?hiz348 (by kernel_rfl) (by kernel_rfl) (by kernel_rfl) ?hqz348 ?hyz348 hHeld ?restz348
  case hiz348 => simp only [List.getElem?_toArray, List.getElem?_cons_succ, List.getElem?_cons_zero]; exact rfl
  case hqz348 => exact fun _ _ _ h => h
  case hyz348 => refine Or.inl ⟨by rfl, ?_⟩; intro w hSw; (try dsimp only at hSw); go_simp; try with_reducible rfl
  (try simp only [Act.put, List.setIfInBounds_toArray, List.set_cons_zero, List.set_cons_succ])
  refine wpAnyH_take (i := 8) (oi := ?oiz349) (v := ?vz349) ?hiz349 (by kernel_rfl) (by kernel_rfl) (by kernel_rfl) ?hqz349 ?hyz349 hHeld ?restz349
  case hiz349 => simp only [List.getElem?_toArray, List.getElem?_cons_succ, List.getElem?_cons_zero]; exact rfl
  case hqz349 => exact fun _ _ _ h => h
  case hyz349 => refine Or.inl ⟨by rfl, ?_⟩; intro w hSw; (try dsimp only at hSw); go_simp; try with_reducible rfl
  (try simp only [Act.put, List.setIfInBounds_toArray, List.set_cons_zero, List.set_cons_succ])
  refine wpAnyH_done (by kernel_rfl) ?_ _
  have hq9 := hB.trans hHeld
  clear hHeld
  go_wp2
  go_ret
  exact ⟨rfl, hq9⟩

set_option maxRecDepth 100000 in
set_option maxHeartbeats 1600000 in
theorem rzcmp_pp_gt {w : World} {s t : Sl} {x y : Nat} (h : RefS w s x) (h' : RefS w t y) (hn : s.n ≤ 1000000) (hm : t.n ≤ 1000000) (hc : y < x) :
    Calls Try.prog 30 #[.agg #[.int .i64 1, .slice s.ao s.n s.c], .agg #[.int .i64 1, .slice t.ao t.n t.c]] w fun e w' => e = .returned (.int .i64 (1)) ∧ Below w.heap.size w w' := by
  obtain ⟨hE1, hE2, -⟩ := ents2 w (.cells #[.int .i64 1, .slice s.ao s.n s.c] 28) (.cells #[.int .i64 1, .slice t.ao t.n t.c] 28)
  have hB := ((Grew.refl w).alloc (.cells #[.int .i64 1, .slice s.ao s.n s.c] 28)).alloc (.cells #[.int .i64 1, .slice t.ao t.n t.c] 28)
  have hx := h.grew hB
  have hy := h'.grew hB
  have chE1a := box2_c0 hE1
  have chE1b := box2_c1 hE1
  have chE2a := box2_c0 hE2
  have chE2b := box2_c1 hE2
  have hc0 : cmpN x y = 1 := cmpN_gt hc
  go_enter Try.func30, Try.ntmps30
  go_wp2
  generalize (w.alloc (.cells #[.int .i64 1, .slice s.ao s.n s.c] 28)).alloc (.cells #[.int .i64 1, .slice t.ao t.n t.c] 28) = W at *
  clear chE1a chE1b chE2a chE2b
  refine wp_region_held_drew (S := (fun w' => Grew W w')) (by kernel_rfl) ?hSz350 (fun hHeld => ?restz350)
  case hSz350 => (try dsimp only); (first | exact (Grew.refl _).drew | exact Grew.call hHeld ‹Below _ _ _›)
  refine wpAnyH_take (i := 0) (oi := ?oiz351) (v := ?vz351) ?hiz351 (by kernel_rfl) (by kernel_rfl) (by kernel_rfl) ?hqz351 ?hyz351 hHeld ?restz351
  case hiz351 => simp only [List.getElem?_toArray, List.getElem?_cons_zero]; exact rfl
  case hqz351 => exact fun _ _ _ h => h
  case hyz351 => refine Or.inl ⟨by rfl, ?_⟩; intro w hSw; (try dsimp only at hSw); go_simp; try with_reducible rfl
  (try simp only [Act.put, List.setIfInBounds_toArray, List.set_cons_zero, List.set_cons_succ])
  refine wpAnyH_take (i := 1) (oi := ?oiz352) (v := ?vz352) ?hiz352 (by kernel_rfl) (by kernel_rfl) (by kernel_rfl) ?hqz352 ?hyz352 hHeld ?restz352
  case hiz352 => simp only [List.getElem?_toArray, List.getElem?_cons_succ, List.getElem?_cons_zero]; exact rfl
  case hqz352 => exact fun _ _ _ h => h
  case hyz352 => refine Or.inl ⟨by rfl, ?_⟩; intro w hSw; have phE1 := ent_grew hSw hE1; have qhE1 := box2_c0 phE1; have rhE1 := box2_c1 phE1; have phE2 := ent_grew hSw hE2; have qhE2 := box2_c0 phE2; have rhE2 := box2_c1 phE2; go_simp; try with_reducible rfl
  (try simp only [Act.put, List.setIfInBounds_toArray, List.set_cons_zero, List.set_cons_succ])
  refine wpAnyH_take (i := 2) (oi := ?oiz353) (v := ?vz353) ?hiz353 (by kernel_rfl) (by kernel_rfl) (by kernel_rfl) ?hqz353 ?hyz353 hHeld ?restz353
  case hiz353 => simp only [List.getElem?_toArray, List.getElem?_cons_succ, List.getElem?_cons_zero]; exact rfl
  case hqz353 => exact fun _ _ _ h => h
  case hyz353 => refine Or.inl ⟨by rfl, ?_⟩; intro w hSw; (try dsimp only at hSw); go_simp; try with_reducible rfl
  (try simp only [Act.put, List.setIfInBounds_toArray, List.set_cons_zero, List.set_cons_succ])
  refine wpAnyH_take (i := 3) (oi := ?oiz354) (v := ?vz354) ?hiz354 (by kernel_rfl) (by kernel_rfl) (by kernel_rfl) ?hqz354 ?hyz354 hHeld ?restz354
  case hiz354 => simp only [List.getElem?_toArray, List.getElem?_cons_succ, List.getElem?_cons_zero]; exact rfl
  case hqz354 => exact fun _ _ _ h => h
  case hyz354 => refine Or.inl ⟨by rfl, ?_⟩; intro w hSw; have phE1 := ent_grew hSw hE1; have qhE1 := box2_c0 phE1; have rhE1 := box2_c1 phE1; have phE2 := ent_grew hSw hE2; have qhE2 := box2_c0 phE2; have rhE2 := box2_c1 phE2; go_simp; try with_reducible rfl
  (try simp only [Act.put, List.setIfInBounds_toArray, List.set_cons_zero, List.set_cons_succ])
  refine wpAnyH_take (i := 4) (oi := ?oiz355) (v := ?vz355) ?hiz355 (by kernel_rfl) (by kernel_rfl) (by kernel_rfl) ?hqz355 ?hyz355 hHeld ?restz355
  case hiz355 => simp only [List.getElem?_toArray, List.getElem?_cons_succ, List.getElem?_cons_zero]; exact rfl
  case hqz355 => exact fun _ _ _ h => h
  case hyz355 => refine Or.inl ⟨by rfl, ?_⟩; intro w hSw; (try dsimp only at hSw); go_simp; try with_reducible rfl
  (try simp only [Act.put, List.setIfInBounds_toArray, List.set_cons_zero, List.set_cons_succ])
  refine wpAnyH_take (i := 5) (oi := ?oiz356) (v := ?vz356) ?hiz356 (by kernel_rfl) (by kernel_rfl) (by kernel_rfl) ?hqz356 ?hyz356 hHeld ?restz356
  case hiz356 => simp only [List.getElem?_toArray, List.getElem?_cons_succ, List.getElem?_cons_zero]; exact rfl
  case hqz356 => exact fun _ _ _ h => h
  case hyz356 => refine Or.inl ⟨by rfl, ?_⟩; intro w hSw; have phE1 := ent_grew hSw hE1; have qhE1 := box2_c0 phE1; have rhE1 := box2_c1 phE1; have phE2 := ent_grew hSw hE2; have qhE2 := box2_c0 phE2; have rhE2 := box2_c1 phE2; go_simp; try with_reducible rfl
  (try simp only [Act.put, List.setIfInBounds_toArray, List.set_cons_zero, List.set_cons_succ])
  refine wpAnyH_ready (rs := [6]) (by kernel_rfl) (by simp) ?_
  refine AllReadyH.cons (o := ?oiz357) ?hiz357 (fun K hK => ?stepz357) AllReadyH.nil
  case hiz357 => simp only [List.getElem?_toArray, List.getElem?_cons_succ, List.getElem?_cons_zero]; exact rfl
  go_simp
  (go_at_call 64; refine (rcmp_at (1) hc0 (hx.grew hHeld) (hy.grew hHeld) (by omega) (by omega)).mono ?_; rintro e w1 ⟨rfl, hb1⟩)
  refine hK.out _ _ ?hSz357 (fun hHeld' => ?restz357)
  case hSz357 => (try dsimp only); (first | exact (Grew.refl _).drew | exact Grew.call hHeld ‹Below _ _ _›)
  clear hK K hHeld
  have hHeld := hHeld'
  clear hHeld'
  (try simp only [Act.put, List.setIfInBounds_toArray, List.set_cons_zero, List.set_cons_succ])
  refine wpAnyH_take (i := 7) (oi := ?oiz358) (v := ?vz358) ?hiz358 (by kernel_rfl) (by kernel_rfl) (by kernel_rfl) ?hqz358 ?hyz358 hHeld ?restz358
  case hiz358 => simp only [List.getElem?_toArray, List.getElem?_cons_succ, List.getElem?_cons_zero]; exact rfl
  case hqz358 => exact fun _ _ _ h => h
  case hyz358 => refine Or.inl ⟨by rfl, ?_⟩; intro w hSw; (try dsimp only at hSw); go_simp; try with_reducible rfl
  (try simp only [Act.put, List.setIfInBounds_toArray, List.set_cons_zero, List.set_cons_succ])
  refine wpAnyH_take (i := 8) (oi := ?oiz359) (v := ?vz359) ?hiz359 (by kernel_rfl) (by kernel_rfl) (by kernel_rfl) ?hqz359 ?hyz359 hHeld ?restz359
  case hiz359 => simp only [List.getElem?_toArray, List.getElem?_cons_succ, List.getElem?_cons_zero]; exact rfl
  case hqz359 => exact fun _ _ _ h => h
  case hyz359 => refine Or.inl ⟨by rfl, ?_⟩; intro w hSw; (try dsimp only at hSw); go_simp; try with_reducible rfl
  (try simp only [Act.put, List.setIfInBounds_toArray, List.set_cons_zero, List.set_cons_succ])
  refine wpAnyH_done (by kernel_rfl) ?_ _
  have hq9 := hB.trans hHeld
  clear hHeld
  go_wp2
  go_ret
  exact ⟨rfl, hq9⟩


end Go.Proofs.Ytnjohlimjbmkgaa
