/- Sub, Of: both sides. -/
import Derived.Test.YtnjohlimjbmkgaaProg
import Derived.Test.YtnjohlimjbmkgaaZedJ
import Derived.Test.YtnjohlimjbmkgaaNatG
namespace Go.Proofs.Ytnjohlimjbmkgaa
open Go.RowKit

set_option maxRecDepth 100000 in
set_option maxHeartbeats 1600000 in
theorem zsub {w : World} {s t : Sl} {b c : Bool} {x y : Int} (h : ZS w s b x) (h' : ZS w t c y) (hn : s.n ≤ 100000000000) (hm : t.n ≤ 100000000000) :
    Calls Try.prog 25 #[.agg #[.slice s.ao s.n s.c, .bool b], .agg #[.slice t.ao t.n t.c, .bool c]] w fun e w' => ∃ (u : Sl) (d : Bool), e = .returned (.agg #[.slice u.ao u.n u.c, .bool d]) ∧ ZS w' u d (x - y) ∧ u.n ≤ max s.n t.n + 1 ∧ Below w.heap.size w w' := by
  obtain ⟨hE1, hE2, hE3, -⟩ := ents3 w (.cells #[.slice s.ao s.n s.c, .bool b] 33) (.cells #[.slice t.ao t.n t.c, .bool c] 33) (.cells #[.slice none 0 0, .bool false] 33)
  have hB := (((Grew.refl w).alloc (.cells #[.slice s.ao s.n s.c, .bool b] 33)).alloc (.cells #[.slice t.ao t.n t.c, .bool c] 33)).alloc (.cells #[.slice none 0 0, .bool false] 33)
  have hx := h.grew hB
  have hy := h'.grew hB
  have chE1a := box2_c0 hE1
  have chE1b := box2_c1 hE1
  have chE2a := box2_c0 hE2
  have chE2b := box2_c1 hE2
  have chE3a := box2_c0 hE3
  have chE3b := box2_c1 hE3
  have fhE3a := box2_f hE3 0
  have fhE3b := box2_f hE3 1
  go_enter Try.func25, Try.ntmps25
  go_wp2
  generalize ((w.alloc (.cells #[.slice s.ao s.n s.c, .bool b] 33)).alloc (.cells #[.slice t.ao t.n t.c, .bool c] 33)).alloc (.cells #[.slice none 0 0, .bool false] 33) = W at *
  clear chE1a chE1b chE2a chE2b chE3a chE3b fhE3a fhE3b
  have hF0 := Fr.init hE3 hB
  refine wp_region_held_drew (S := (fun w' => Fr w W (w.heap.size + 1 + 1) 33 w')) (by kernel_rfl) ?hSz360 (fun hHeld => ?restz360)
  case hSz360 => (try dsimp only); (first | exact hF0.drew | exact hHeld.call ‹Below _ _ _›)
  refine wpAnyH_take (i := 0) (oi := ?oiz361) (v := ?vz361) ?hiz361 (by kernel_rfl) (by kernel_rfl) (by kernel_rfl) ?hqz361 ?hyz361 hHeld ?restz361
  case hiz361 => simp only [List.getElem?_toArray, List.getElem?_cons_zero]; exact rfl
  case hqz361 => exact fun _ _ _ h => h
  case hyz361 => refine Or.inl ⟨by rfl, ?_⟩; intro w hSw; have phE1 := hSw.ent hE1 (by omega); have qhE1 := box2_c0 phE1; have rhE1 := box2_c1 phE1; have phE2 := hSw.ent hE2 (by omega); have qhE2 := box2_c0 phE2; have rhE2 := box2_c1 phE2; go_simp; try with_reducible rfl
  (try simp only [Act.put, List.setIfInBounds_toArray, List.set_cons_zero, List.set_cons_succ])
  refine wpAnyH_take (i := 1) (oi := ?oiz362) (v := ?vz362) ?hiz362 (by kernel_rfl) (by kernel_rfl) (by kernel_rfl) ?hqz362 ?hyz362 hHeld ?restz362
  case hiz362 => simp only [List.getElem?_toArray, List.getElem?_cons_succ, List.getElem?_cons_zero]; exact rfl
  case hqz362 => exact fun _ _ _ h => h
  case hyz362 => refine Or.inl ⟨by rfl, ?_⟩; intro w hSw; have phE1 := hSw.ent hE1 (by omega); have qhE1 := box2_c0 phE1; have rhE1 := box2_c1 phE1; have phE2 := hSw.ent hE2 (by omega); have qhE2 := box2_c0 phE2; have rhE2 := box2_c1 phE2; go_simp; try with_reducible rfl
  (try simp only [Act.put, List.setIfInBounds_toArray, List.set_cons_zero, List.set_cons_succ])
  refine wpAnyH_ready (rs := [2]) (by kernel_rfl) (by simp) ?_
  refine AllReadyH.cons (o := ?oiz363) ?hiz363 (fun K hK => ?stepz363) AllReadyH.nil
  case hiz363 => simp only [List.getElem?_toArray, List.getElem?_cons_succ, List.getElem?_cons_zero]; exact rfl
  go_simp
  (go_at_call 27; refine (zneg (hy.kp hHeld.1) (by omega)).mono ?_; rintro e w1 ⟨u, d, rfl, hu, hun, hb1⟩)
  refine hK.out _ _ ?hSz363 (fun hHeld' => ?restz363)
  case hSz363 => (try dsimp only); (first | exact hF0.drew | exact hHeld.call ‹Below _ _ _›)
  clear hK K hHeld
  have hHeld := hHeld'
  clear hHeld'
  (try simp only [Act.put, List.setIfInBounds_toArray, List.set_cons_zero, List.set_cons_succ])
  refine wpAnyH_ready (rs := [3]) (by kernel_rfl) (by simp) ?_
  refine AllReadyH.cons (o := ?oiz364) ?hiz364 (fun K hK => ?stepz364) AllReadyH.nil
  case hiz364 => simp only [List.getElem?_toArray, List.getElem?_cons_succ, List.getElem?_cons_zero]; exact rfl
  go_simp
  (go_at_call 24; refine (zadd (hx.kp hHeld.1) hu (by omega) (by omega)).mono ?_; rintro e w2 ⟨v, d2, rfl, hv, hvn, hb2⟩)
  refine hK.out _ _ ?hSz364 (fun hHeld' => ?restz364)
  case hSz364 => (try dsimp only); (first | exact hF0.drew | exact hHeld.call ‹Below _ _ _›)
  clear hK K hHeld
  have hHeld := hHeld'
  clear hHeld'
  (try simp only [Act.put, List.setIfInBounds_toArray, List.set_cons_zero, List.set_cons_succ])
  refine wpAnyH_ready (rs := [4]) (by kernel_rfl) (by simp) ?_
  refine AllReadyH.cons (o := ?oiz365) ?hiz365 (fun K hK => ?stepz365) AllReadyH.nil
  case hiz365 => simp only [List.getElem?_toArray, List.getElem?_cons_succ, List.getElem?_cons_zero]; exact rfl
  obtain ⟨v0, b0, hR⟩ := hHeld.res; have c0 := box2_c0 hR; have c1 := box2_c1 hR; have f0 := box2_f hR 0; have f1 := box2_f hR 1; go_simp
  refine hK.out _ _ ?hSz365 (fun hHeld' => ?restz365)
  case hSz365 => (try dsimp only); exact hHeld.set2 (by decide) (by omega) _ _
  clear hK K hHeld
  have hHeld := hHeld'
  clear hHeld'
  (try simp only [Act.put, List.setIfInBounds_toArray, List.set_cons_zero, List.set_cons_succ])
  refine wpAnyH_done (by kernel_rfl) ?_ _
  have hq := box2_set hR (.slice v.ao v.n v.c) (.bool d2)
  have hq0 := box2_c0 hq
  have hq1 := box2_c1 hq
  have hq9 := hHeld.below
  have hv2 := (hv).kp ((Kp.refl _).set2 hR (by decide) (.slice v.ao v.n v.c) (.bool d2))
  clear hHeld hq hR c0 c1 f0 f1
  generalize (w2.setCell ⟨w.heap.size + 1 + 1, 0, none⟩ (.slice v.ao v.n v.c)).setCell ⟨w.heap.size + 1 + 1, 1, none⟩ (.bool d2) = W9 at *
  go_wp2
  refine bodyPost_ret (v := .agg #[.slice v.ao v.n v.c, .bool d2]) (by simp [results, Try.results25, go_sem, hq0, hq1]) rfl ⟨v, d2, rfl, by rw [Int.sub_eq_add_neg]; exact hv2, by omega, hq9⟩

set_option maxRecDepth 100000 in
set_option maxHeartbeats 1600000 in
theorem rzsub {w : World} {s t : Sl} {S T : Int} {x y : Int} (h : RS w s S x) (h' : RS w t T y) (hn : s.n ≤ 1000000) (hm : t.n ≤ 1000000) :
    Calls Try.prog 26 #[.agg #[.int .i64 S, .slice s.ao s.n s.c], .agg #[.int .i64 T, .slice t.ao t.n t.c]] w fun e w' => ∃ (u : Sl) (d : Int), e = .returned (.agg #[.int .i64 d, .slice u.ao u.n u.c]) ∧ RS w' u d (x - y) ∧ u.n ≤ max s.n t.n + 1 ∧ Below w.heap.size w w' := by
  obtain ⟨hE1, hE2, hE3, -⟩ := ents3 w (.cells #[.int .i64 S, .slice s.ao s.n s.c] 28) (.cells #[.int .i64 T, .slice t.ao t.n t.c] 28) (.cells #[.int .i64 0, .slice none 0 0] 28)
  have hB := (((Grew.refl w).alloc (.cells #[.int .i64 S, .slice s.ao s.n s.c] 28)).alloc (.cells #[.int .i64 T, .slice t.ao t.n t.c] 28)).alloc (.cells #[.int .i64 0, .slice none 0 0] 28)
  have hx := h.grew hB
  have hy := h'.grew hB
  have chE1a := box2_c0 hE1
  have chE1b := box2_c1 hE1
  have chE2a := box2_c0 hE2
  have chE2b := box2_c1 hE2
  have chE3a := box2_c0 hE3
  have chE3b := box2_c1 hE3
  have fhE3a := box2_f hE3 0
  have fhE3b := box2_f hE3 1
  go_enter Try.func26, Try.ntmps26
  go_wp2
  generalize ((w.alloc (.cells #[.int .i64 S, .slice s.ao s.n s.c] 28)).alloc (.cells #[.int .i64 T, .slice t.ao t.n t.c] 28)).alloc (.cells #[.int .i64 0, .slice none 0 0] 28) = W at *
  clear chE1a chE1b chE2a chE2b chE3a chE3b fhE3a fhE3b
  have hF0 := Fr.init hE3 hB
  refine wp_region_held_drew (S := (fun w' => Fr w W (w.heap.size + 1 + 1) 28 w')) (by kernel_rfl) ?hSz366 (fun hHeld => ?restz366)
  case hSz366 => (try dsimp only); (first | exact hF0.drew | exact hHeld.call ‹Below _ _ _›)
  refine wpAnyH_take (i := 0) (oi := ?oiz367) (v := ?vz367) ?hiz367 (by kernel_rfl) (by kernel_rfl) (by kernel_rfl) ?hqz367 ?hyz367 hHeld ?restz367
  case hiz367 => simp only [List.getElem?_toArray, List.getElem?_cons_zero]; exact rfl
  case hqz367 => exact fun _ _ _ h => h
  case hyz367 => refine Or.inl ⟨by rfl, ?_⟩; intro w hSw; have phE1 := hSw.ent hE1 (by omega); have qhE1 := box2_c0 phE1; have rhE1 := box2_c1 phE1; have phE2 := hSw.ent hE2 (by omega); have qhE2 := box2_c0 phE2; have rhE2 := box2_c1 phE2; go_simp; try with_reducible rfl
  (try simp only [Act.put, List.setIfInBounds_toArray, List.set_cons_zero, List.set_cons_succ])
  refine wpAnyH_take (i := 1) (oi := ?oiz368) (v := ?vz368) ?hiz368 (by kernel_rfl) (by kernel_rfl) (by kernel_rfl) ?hqz368 ?hyz368 hHeld ?restz368
  case hiz368 => simp only [List.getElem?_toArray, List.getElem?_cons_succ, List.getElem?_cons_zero]; exact rfl
  case hqz368 => exact fun _ _ _ h => h
  case hyz368 => refine Or.inl ⟨by rfl, ?_⟩; intro w hSw; have phE1 := hSw.ent hE1 (by omega); have qhE1 := box2_c0 phE1; have rhE1 := box2_c1 phE1; have phE2 := hSw.ent hE2 (by omega); have qhE2 := box2_c0 phE2; have rhE2 := box2_c1 phE2; go_simp; try with_reducible rfl
  (try simp only [Act.put, List.setIfInBounds_toArray, List.set_cons_zero, List.set_cons_succ])
  refine wpAnyH_ready (rs := [2]) (by kernel_rfl) (by simp) ?_
  refine AllReadyH.cons (o := ?oiz369) ?hiz369 (fun K hK => ?stepz369) AllReadyH.nil
  case hiz369 => simp only [List.getElem?_toArray, List.getElem?_cons_succ, List.getElem?_cons_zero]; exact rfl
  go_simp
  (go_at_call 28; refine (rzneg (hy.kp hHeld.1) (by omega)).mono ?_; rintro e w1 ⟨u, d, rfl, hu, hun, hb1⟩)
  refine hK.out _ _ ?hSz369 (fun hHeld' => ?restz369)
  case hSz369 => (try dsimp only); (first | exact hF0.drew | exact hHeld.call ‹Below _ _ _›)
  clear hK K hHeld
  have hHeld := hHeld'
  clear hHeld'
  (try simp only [Act.put, List.setIfInBounds_toArray, List.set_cons_zero, List.set_cons_succ])
  refine wpAnyH_ready (rs := [3]) (by kernel_rfl) (by simp) ?_
  refine AllReadyH.cons (o := ?oiz370) ?hiz370 (fun K hK => ?stepz370) AllReadyH.nil
  case hiz370 => simp only [List.getElem?_toArray, List.getElem?_cons_succ, List.getElem?_cons_zero]; exact rfl
  go_simp
  (go_at_call 18; refine (rzadd (hx.kp hHeld.1) hu (by omega) (by omega)).mono ?_; rintro e w2 ⟨v, d2, rfl, hv, hvn, hb2⟩)
  refine hK.out _ _ ?hSz370 (fun hHeld' => ?restz370)
  case hSz370 => (try dsimp only); (first | exact hF0.drew | exact hHeld.call ‹Below _ _ _›)
  clear hK K hHeld
  have hHeld := hHeld'
  clear hHeld'
  (try simp only [Act.put, List.setIfInBounds_toArray, List.set_cons_zero, List.set_cons_succ])
  refine wpAnyH_ready (rs := [4]) (by kernel_rfl) (by simp) ?_
  refine AllReadyH.cons (o := ?oiz371) ?hiz371 (fun K hK => ?stepz371) AllReadyH.nil
  case hiz371 => simp only [List.getElem?_toArray, List.getElem?_cons_succ, List.getElem?_cons_zero]; exact rfl
  obtain ⟨v0, b0, hR⟩ := hHeld.res; have c0 := box2_c0 hR; have c1 := box2_c1 hR; have f0 := box2_f hR 0; have f1 := box2_f hR 1; go_simp
  refine hK.out _ _ ?hSz371 (fun hHeld' => ?restz371)
  case hSz371 => (try dsimp only); exact hHeld.set2 (by decide) (by omega) _ _
  clear hK K hHeld
  have hHeld := hHeld'
  clear hHeld'
  (try simp only [Act.put, List.setIfInBounds_toArray, List.set_cons_zero, List.set_cons_succ])
  refine wpAnyH_done (by kernel_rfl) ?_ _
  have hq := box2_set hR (.int .i64 d2) (.slice v.ao v.n v.c)
  have hq0 := box2_c0 hq
  have hq1 := box2_c1 hq
  have hq9 := hHeld.below
  have hv2 := (hv).kp ((Kp.refl _).set2 hR (by decide) (.int .i64 d2) (.slice v.ao v.n v.c))
  clear hHeld hq hR c0 c1 f0 f1
  generalize (w2.setCell ⟨w.heap.size + 1 + 1, 0, none⟩ (.int .i64 d2)).setCell ⟨w.heap.size + 1 + 1, 1, none⟩ (.slice v.ao v.n v.c) = W9 at *
  go_wp2
  refine bodyPost_ret (v := .agg #[.int .i64 d2, .slice v.ao v.n v.c]) (by simp [results, Try.results26, go_sem, hq0, hq1]) rfl ⟨v, d2, rfl, by rw [Int.sub_eq_add_neg]; exact hv2, by omega, hq9⟩

theorem of_v (k : Nat) (v : Int) (w : World) (hv : v = (k : Int)) (hk : k < 18446744073709551616) :
    Calls Try.prog 45 #[.int .u64 v] w fun e w' =>
      ∃ u : Sl, e = .returned (.agg #[.slice u.ao u.n u.c]) ∧ NatS w' u k ∧ u.n ≤ 2 ∧ Below w.heap.size w w' := by
  subst hv
  exact of_spec k w hk
theorem rofv (k : Nat) (v : Int) (w : World) (hv : v = (k : Int)) (hk : k < 18446744073709551616) :
    Calls Try.prog 71 #[.int .u64 v] w fun e w' =>
      ∃ u : Sl, e = .returned (.agg #[.slice u.ao u.n u.c]) ∧ RefS w' u k ∧ u.n ≤ 5 ∧ Below w.heap.size w w' := by
  subst hv
  exact rof_spec k w hk
set_option maxRecDepth 100000 in
set_option maxHeartbeats 1600000 in
theorem zof_p {w : World} (n : Nat) (hn : n < 9223372036854775808) :
    Calls Try.prog 33 #[.int .i64 (n : Int)] w fun e w' => ∃ (u : Sl) (d : Bool), e = .returned (.agg #[.slice u.ao u.n u.c, .bool d]) ∧ ZS w' u d ((n : Int)) ∧ u.n ≤ 2 ∧ Below w.heap.size w w' := by
  have hn0 : decide ((n : Int) < 0) = false := by simp
  have hE1 := ent_new w (.cells #[.slice none 0 0, .bool false] 33)
  have hB := (Grew.refl w).alloc (.cells #[.slice none 0 0, .bool false] 33)
  have chE1a := box2_c0 hE1
  have chE1b := box2_c1 hE1
  have fhE1a := box2_f hE1 0
  have fhE1b := box2_f hE1 1
  go_enter Try.func33, Try.ntmps33
  go_wp2_with fail
  generalize w.alloc (.cells #[.slice none 0 0, .bool false] 33) = W at *
  refine (of_v n _ _ rfl (by omega)).mono ?_
  rintro e w1 ⟨u, rfl, hu, hun, hb1⟩
  have ha1 : Grew w1 (w1) := Grew.refl w1
  have hg1' := (Grew.call (Grew.refl _) hb1).trans ha1
  replace hE1 := ent_grew hg1' hE1
  replace hu := hu.grew ha1
  replace hB := hB.trans hg1'
  clear hg1' ha1 hb1 chE1a chE1b fhE1a fhE1b
  have chE1a := box2_c0 hE1
  have chE1b := box2_c1 hE1
  have fhE1a := box2_f hE1 0
  have fhE1b := box2_f hE1 1
  go_wp2_with fail
  refine (zmade_spec _ hu (by omega)).mono ?_
  rintro e w2 ⟨rfl, hb2⟩
  have ha2 : Grew w2 (w2) := Grew.refl w2
  have hg2' := (Grew.call (Grew.refl _) hb2).trans ha2
  replace hu := hu.grew hg2'
  replace hE1 := ent_grew hg2' hE1
  replace hB := hB.trans hg2'
  clear hg2' ha2 hb2 chE1a chE1b fhE1a fhE1b
  have chE1a := box2_c0 hE1
  have chE1b := box2_c1 hE1
  have fhE1a := box2_f hE1 0
  have fhE1b := box2_f hE1 1
  go_wp2
  have hq := box2_set hE1 (.slice u.ao u.n u.c) (.bool false)
  have hq0 := box2_c0 hq
  have hq1 := box2_c1 hq
  have hq9 := hB.set2 (k := w.heap.size) (by omega) (.slice u.ao u.n u.c) (.bool false)
  have hu2 := (hu).kp ((Kp.refl _).set2 hE1 (by decide) (.slice u.ao u.n u.c) (.bool false))
  clear hq
  clear chE1a chE1b fhE1a fhE1b
  generalize (w2.setCell ⟨w.heap.size, 0, none⟩ (.slice u.ao u.n u.c)).setCell ⟨w.heap.size, 1, none⟩ (.bool false) = W9 at *
  refine bodyPost_ret (v := .agg #[.slice u.ao u.n u.c, .bool false]) (by simp [results, Try.results33, go_sem, hq0, hq1]) rfl ⟨u, false, rfl, ⟨hu2, (decide_eq_false (by omega)).symm⟩, hun, hq9⟩

set_option maxRecDepth 100000 in
set_option maxHeartbeats 1600000 in
theorem zof_n {w : World} (n : Nat) (hn : n ≤ 9223372036854775808) (hp : 0 < n) :
    Calls Try.prog 33 #[.int .i64 (-(n : Int))] w fun e w' => ∃ (u : Sl) (d : Bool), e = .returned (.agg #[.slice u.ao u.n u.c, .bool d]) ∧ ZS w' u d (-(n : Int)) ∧ u.n ≤ 2 ∧ Below w.heap.size w w' := by
  have hn0 : (-(n : Int) < 0) := by omega
  have hE1 := ent_new w (.cells #[.slice none 0 0, .bool false] 33)
  have hB := (Grew.refl w).alloc (.cells #[.slice none 0 0, .bool false] 33)
  have chE1a := box2_c0 hE1
  have chE1b := box2_c1 hE1
  have fhE1a := box2_f hE1 0
  have fhE1b := box2_f hE1 1
  go_enter Try.func33, Try.ntmps33
  go_wp2_with fail
  generalize w.alloc (.cells #[.slice none 0 0, .bool false] 33) = W at *
  refine (of_v n _ _ (by omega) (by omega)).mono ?_
  rintro e w1 ⟨u, rfl, hu, hun, hb1⟩
  have ha1 : Grew w1 (w1) := Grew.refl w1
  have hg1' := (Grew.call (Grew.refl _) hb1).trans ha1
  replace hE1 := ent_grew hg1' hE1
  replace hu := hu.grew ha1
  replace hB := hB.trans hg1'
  clear hg1' ha1 hb1 chE1a chE1b fhE1a fhE1b
  have chE1a := box2_c0 hE1
  have chE1b := box2_c1 hE1
  have fhE1a := box2_f hE1 0
  have fhE1b := box2_f hE1 1
  go_wp2_with fail
  refine (zmade_spec _ hu (by omega)).mono ?_
  rintro e w2 ⟨rfl, hb2⟩
  have ha2 : Grew w2 (w2) := Grew.refl w2
  have hg2' := (Grew.call (Grew.refl _) hb2).trans ha2
  replace hu := hu.grew hg2'
  replace hE1 := ent_grew hg2' hE1
  replace hB := hB.trans hg2'
  clear hg2' ha2 hb2 chE1a chE1b fhE1a fhE1b
  have chE1a := box2_c0 hE1
  have chE1b := box2_c1 hE1
  have fhE1a := box2_f hE1 0
  have fhE1b := box2_f hE1 1
  go_wp2
  have hq := box2_set hE1 (.slice u.ao u.n u.c) (.bool true)
  have hq0 := box2_c0 hq
  have hq1 := box2_c1 hq
  have hq9 := hB.set2 (k := w.heap.size) (by omega) (.slice u.ao u.n u.c) (.bool true)
  have hu2 := (hu).kp ((Kp.refl _).set2 hE1 (by decide) (.slice u.ao u.n u.c) (.bool true))
  clear hq
  clear chE1a chE1b fhE1a fhE1b
  generalize (w2.setCell ⟨w.heap.size, 0, none⟩ (.slice u.ao u.n u.c)).setCell ⟨w.heap.size, 1, none⟩ (.bool true) = W9 at *
  refine bodyPost_ret (v := .agg #[.slice u.ao u.n u.c, .bool true]) (by simp [results, Try.results33, go_sem, hq0, hq1]) rfl ⟨u, true, rfl, ⟨by rw [Int.natAbs_neg]; exact hu2, (decide_eq_true (by omega)).symm⟩, hun, hq9⟩

theorem zof (n : Int) (w : World) (hlo : -9223372036854775808 ≤ n) (hhi : n < 9223372036854775808) :
    Calls Try.prog 33 #[.int .i64 n] w fun e w' => ∃ (u : Sl) (d : Bool), e = .returned (.agg #[.slice u.ao u.n u.c, .bool d]) ∧ ZS w' u d (n) ∧ u.n ≤ 2 ∧ Below w.heap.size w w' := by
  rcases Int.lt_or_le n 0 with h | h
  · obtain ⟨m, rfl⟩ : ∃ m : Nat, n = -(m : Int) := ⟨n.natAbs, by omega⟩
    exact zof_n m (by omega) (by omega)
  · obtain ⟨m, rfl⟩ := Int.eq_ofNat_of_zero_le h
    exact zof_p m (by omega)

set_option maxRecDepth 100000 in
set_option maxHeartbeats 1600000 in
theorem rzof_z {w : World}  :
    Calls Try.prog 35 #[.int .i64 0] w fun e w' => ∃ (u : Sl) (d : Int), e = .returned (.agg #[.int .i64 d, .slice u.ao u.n u.c]) ∧ RS w' u d (0) ∧ u.n ≤ 7 ∧ Below w.heap.size w w' := by
  have hE1 := ent_new w (.cells #[.int .i64 0, .slice none 0 0] 28)
  have hB := (Grew.refl w).alloc (.cells #[.int .i64 0, .slice none 0 0] 28)
  have chE1a := box2_c0 hE1
  have chE1b := box2_c1 hE1
  have fhE1a := box2_f hE1 0
  have fhE1b := box2_f hE1 1
  go_enter Try.func35, Try.ntmps35
  go_wp2_with fail
  generalize w.alloc (.cells #[.int .i64 0, .slice none 0 0] 28) = W at *
  refine (rofv 0 _ _ rfl (by omega)).mono ?_
  rintro e w1 ⟨u, rfl, hu, hun, hb1⟩
  have ha1 : Grew w1 (w1) := Grew.refl w1
  have hg1' := (Grew.call (Grew.refl _) hb1).trans ha1
  replace hE1 := ent_grew hg1' hE1
  replace hu := hu.grew ha1
  replace hB := hB.trans hg1'
  clear hg1' ha1 hb1 chE1a chE1b fhE1a fhE1b
  have chE1a := box2_c0 hE1
  have chE1b := box2_c1 hE1
  have fhE1a := box2_f hE1 0
  have fhE1b := box2_f hE1 1
  go_wp2_with fail
  refine (rmade_zero hu (by omega) _ rfl).mono ?_
  rintro e w2 ⟨rfl, hb2⟩
  have ha2 : Grew w2 (w2) := Grew.refl w2
  have hg2' := (Grew.call (Grew.refl _) hb2).trans ha2
  replace hu := hu.grew hg2'
  replace hE1 := ent_grew hg2' hE1
  replace hB := hB.trans hg2'
  clear hg2' ha2 hb2 chE1a chE1b fhE1a fhE1b
  have chE1a := box2_c0 hE1
  have chE1b := box2_c1 hE1
  have fhE1a := box2_f hE1 0
  have fhE1b := box2_f hE1 1
  go_wp2
  have hq := box2_set hE1 (.int .i64 0) (.slice none 0 0)
  have hq0 := box2_c0 hq
  have hq1 := box2_c1 hq
  have hq9 := hB.set2 (k := w.heap.size) (by omega) (.int .i64 0) (.slice none 0 0)
  have hu2 := (RefS.nil w2 none 0 (by omega)).kp ((Kp.refl _).set2 hE1 (by decide) (.int .i64 0) (.slice none 0 0))
  clear hq
  clear chE1a chE1b fhE1a fhE1b
  generalize (w2.setCell ⟨w.heap.size, 0, none⟩ (.int .i64 0)).setCell ⟨w.heap.size, 1, none⟩ (.slice none 0 0) = W9 at *
  refine bodyPost_ret (v := .agg #[.int .i64 0, .slice none 0 0]) (by simp [results, Try.results35, go_sem, hq0, hq1]) rfl ⟨⟨none, 0, 0⟩, 0, rfl, ⟨hu2, rfl⟩, Nat.zero_le _, hq9⟩

set_option maxRecDepth 100000 in
set_option maxHeartbeats 1600000 in
theorem rzof_p {w : World} (n : Nat) (hn : n < 9223372036854775808) (hx0 : 0 < n) :
    Calls Try.prog 35 #[.int .i64 (n : Int)] w fun e w' => ∃ (u : Sl) (d : Int), e = .returned (.agg #[.int .i64 d, .slice u.ao u.n u.c]) ∧ RS w' u d ((n : Int)) ∧ u.n ≤ 7 ∧ Below w.heap.size w w' := by
  have hn0 : decide ((n : Int) < 0) = false := by simp
  have hE1 := ent_new w (.cells #[.int .i64 0, .slice none 0 0] 28)
  have hB := (Grew.refl w).alloc (.cells #[.int .i64 0, .slice none 0 0] 28)
  have chE1a := box2_c0 hE1
  have chE1b := box2_c1 hE1
  have fhE1a := box2_f hE1 0
  have fhE1b := box2_f hE1 1
  go_enter Try.func35, Try.ntmps35
  go_wp2_with fail
  generalize w.alloc (.cells #[.int .i64 0, .slice none 0 0] 28) = W at *
  refine (rofv n _ _ rfl (by omega)).mono ?_
  rintro e w1 ⟨u, rfl, hu, hun, hb1⟩
  have ha1 : Grew w1 (w1) := Grew.refl w1
  have hg1' := (Grew.call (Grew.refl _) hb1).trans ha1
  replace hE1 := ent_grew hg1' hE1
  replace hu := hu.grew ha1
  replace hB := hB.trans hg1'
  clear hg1' ha1 hb1 chE1a chE1b fhE1a fhE1b
  have chE1a := box2_c0 hE1
  have chE1b := box2_c1 hE1
  have fhE1a := box2_f hE1 0
  have fhE1b := box2_f hE1 1
  go_wp2_with fail
  refine (rmade_pos hu (by omega) _ hx0).mono ?_
  rintro e w2 ⟨rfl, hb2⟩
  have ha2 : Grew w2 (w2) := Grew.refl w2
  have hg2' := (Grew.call (Grew.refl _) hb2).trans ha2
  replace hu := hu.grew hg2'
  replace hE1 := ent_grew hg2' hE1
  replace hB := hB.trans hg2'
  clear hg2' ha2 hb2 chE1a chE1b fhE1a fhE1b
  have chE1a := box2_c0 hE1
  have chE1b := box2_c1 hE1
  have fhE1a := box2_f hE1 0
  have fhE1b := box2_f hE1 1
  go_wp2
  have hq := box2_set hE1 (.int .i64 1) (.slice u.ao u.n u.c)
  have hq0 := box2_c0 hq
  have hq1 := box2_c1 hq
  have hq9 := hB.set2 (k := w.heap.size) (by omega) (.int .i64 1) (.slice u.ao u.n u.c)
  have hu2 := (hu).kp ((Kp.refl _).set2 hE1 (by decide) (.int .i64 1) (.slice u.ao u.n u.c))
  clear hq
  clear chE1a chE1b fhE1a fhE1b
  generalize (w2.setCell ⟨w.heap.size, 0, none⟩ (.int .i64 1)).setCell ⟨w.heap.size, 1, none⟩ (.slice u.ao u.n u.c) = W9 at *
  refine bodyPost_ret (v := .agg #[.int .i64 1, .slice u.ao u.n u.c]) (by simp [results, Try.results35, go_sem, hq0, hq1]) rfl ⟨u, 1, rfl, ⟨hu2, (sgn_p (by omega)).symm⟩, by omega, hq9⟩

set_option maxRecDepth 100000 in
set_option maxHeartbeats 1600000 in
theorem rzof_n {w : World} (n : Nat) (hn : n ≤ 9223372036854775808) (hp : 0 < n) :
    Calls Try.prog 35 #[.int .i64 (-(n : Int))] w fun e w' => ∃ (u : Sl) (d : Int), e = .returned (.agg #[.int .i64 d, .slice u.ao u.n u.c]) ∧ RS w' u d (-(n : Int)) ∧ u.n ≤ 7 ∧ Below w.heap.size w w' := by
  have hn0 : (-(n : Int) < 0) := by omega
  have hE1 := ent_new w (.cells #[.int .i64 0, .slice none 0 0] 28)
  have hB := (Grew.refl w).alloc (.cells #[.int .i64 0, .slice none 0 0] 28)
  have chE1a := box2_c0 hE1
  have chE1b := box2_c1 hE1
  have fhE1a := box2_f hE1 0
  have fhE1b := box2_f hE1 1
  go_enter Try.func35, Try.ntmps35
  go_wp2_with fail
  generalize w.alloc (.cells #[.int .i64 0, .slice none 0 0] 28) = W at *
  refine (rofv (n - 1) _ _ (by omega) (by omega)).mono ?_
  rintro e w1 ⟨u, rfl, hu, hun, hb1⟩
  have ha1 : Grew w1 (w1) := Grew.refl w1
  have hg1' := (Grew.call (Grew.refl _) hb1).trans ha1
  replace hE1 := ent_grew hg1' hE1
  replace hu := hu.grew ha1
  replace hB := hB.trans hg1'
  clear hg1' ha1 hb1 chE1a chE1b fhE1a fhE1b
  have chE1a := box2_c0 hE1
  have chE1b := box2_c1 hE1
  have fhE1a := box2_f hE1 0
  have fhE1b := box2_f hE1 1
  go_wp2_with fail
  refine (rofv 1 _ _ rfl (by omega)).mono ?_
  rintro e w2 ⟨v, rfl, hv, hvn, hb2⟩
  have ha2 : Grew w2 (w2) := Grew.refl w2
  have hg2' := (Grew.call (Grew.refl _) hb2).trans ha2
  replace hu := hu.grew hg2'
  replace hE1 := ent_grew hg2' hE1
  replace hv := hv.grew ha2
  replace hB := hB.trans hg2'
  clear hg2' ha2 hb2 chE1a chE1b fhE1a fhE1b
  have chE1a := box2_c0 hE1
  have chE1b := box2_c1 hE1
  have fhE1a := box2_f hE1 0
  have fhE1b := box2_f hE1 1
  go_wp2_with fail
  refine (radd_spec hu hv (by omega) (by omega)).mono ?_
  rintro e w3 ⟨p, rfl, hp9, hpn, hb3⟩
  have ha3 : Grew w3 (w3) := Grew.refl w3
  have hg3' := (Grew.call (Grew.refl _) hb3).trans ha3
  replace hu := hu.grew hg3'
  replace hv := hv.grew hg3'
  replace hE1 := ent_grew hg3' hE1
  replace hp9 := hp9.grew ha3
  replace hB := hB.trans hg3'
  clear hg3' ha3 hb3 chE1a chE1b fhE1a fhE1b
  have chE1a := box2_c0 hE1
  have chE1b := box2_c1 hE1
  have fhE1a := box2_f hE1 0
  have fhE1b := box2_f hE1 1
  go_wp2_with fail
  refine (rmade_pos hp9 (by omega) _ (by omega)).mono ?_
  rintro e w4 ⟨rfl, hb4⟩
  have ha4 : Grew w4 (w4) := Grew.refl w4
  have hg4' := (Grew.call (Grew.refl _) hb4).trans ha4
  replace hu := hu.grew hg4'
  replace hv := hv.grew hg4'
  replace hp9 := hp9.grew hg4'
  replace hE1 := ent_grew hg4' hE1
  replace hB := hB.trans hg4'
  clear hg4' ha4 hb4 chE1a chE1b fhE1a fhE1b
  have chE1a := box2_c0 hE1
  have chE1b := box2_c1 hE1
  have fhE1a := box2_f hE1 0
  have fhE1b := box2_f hE1 1
  go_wp2
  have hq := box2_set hE1 (.int .i64 (-1)) (.slice p.ao p.n p.c)
  have hq0 := box2_c0 hq
  have hq1 := box2_c1 hq
  have hq9 := hB.set2 (k := w.heap.size) (by omega) (.int .i64 (-1)) (.slice p.ao p.n p.c)
  have hu2 := (hp9).kp ((Kp.refl _).set2 hE1 (by decide) (.int .i64 (-1)) (.slice p.ao p.n p.c))
  clear hq
  clear chE1a chE1b fhE1a fhE1b
  generalize (w4.setCell ⟨w.heap.size, 0, none⟩ (.int .i64 (-1))).setCell ⟨w.heap.size, 1, none⟩ (.slice p.ao p.n p.c) = W9 at *
  refine bodyPost_ret (v := .agg #[.int .i64 (-1), .slice p.ao p.n p.c]) (by simp [results, Try.results35, go_sem, hq0, hq1]) rfl ⟨p, -1, rfl, ⟨by rw [Int.natAbs_neg]; exact (show n - 1 + 1 = n by omega) ▸ hu2, (sgn_n (by omega)).symm⟩, by omega, hq9⟩

theorem rzof (n : Int) (w : World) (hlo : -9223372036854775808 ≤ n) (hhi : n < 9223372036854775808) :
    Calls Try.prog 35 #[.int .i64 n] w fun e w' => ∃ (u : Sl) (d : Int), e = .returned (.agg #[.int .i64 d, .slice u.ao u.n u.c]) ∧ RS w' u d (n) ∧ u.n ≤ 7 ∧ Below w.heap.size w w' := by
  rcases Int.lt_or_le n 0 with h | h
  · obtain ⟨m, rfl⟩ : ∃ m : Nat, n = -(m : Int) := ⟨n.natAbs, by omega⟩
    exact rzof_n m (by omega) (by omega)
  · obtain ⟨m, rfl⟩ := Int.eq_ofNat_of_zero_le h
    rcases Nat.eq_zero_or_pos m with h0 | h0
    · subst h0; exact rzof_z
    · exact rzof_p m (by omega) h0

end Go.Proofs.Ytnjohlimjbmkgaa
