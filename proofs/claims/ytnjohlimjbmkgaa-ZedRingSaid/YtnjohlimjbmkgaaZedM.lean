/- The laws of zed: few, one, apart, same. -/
import Derived.Test.YtnjohlimjbmkgaaProg
import Derived.Test.YtnjohlimjbmkgaaZedT
import Derived.Test.YtnjohlimjbmkgaaZedF
namespace Go.Proofs.Ytnjohlimjbmkgaa
open Go.RowKit

theorem zfew (s : ByteArray) (w : World) :
    Calls Try.prog 62 #[.string s] w fun e w' => e = .returned (.string (fewS s 150)) ∧ Below w.heap.size w w' := by
  by_cases hc : 150 < s.size
  · have hcI : (150 : Int) < (s.size : Int) := by omega
    have he : fewS s 150 = s.extract 0 150 := by unfold fewS; rw [if_pos hc]
    have HE := Lib.hid he; clear he
    go_enter Try.func62, Try.ntmps62
    go_wp2
    go_ret
    exact ⟨by rw [HE.out]; rfl, Below.refl _ _⟩
  · have hcI : decide ((150 : Int) < (s.size : Int)) = false := by simp; omega
    have he : fewS s 150 = s := by unfold fewS; rw [if_neg hc]
    have HE := Lib.hid he; clear he
    go_enter Try.func62, Try.ntmps62
    go_wp2
    go_ret
    exact ⟨by rw [HE.out]; rfl, Below.refl _ _⟩
/-- The number of a text's first signs. -/
def zfv (s : ByteArray) : Int := zval (fewS s 150)
/-- Are they a number? -/
def zok (s : ByteArray) : Bool := zperr (fewS s 150) == 0
theorem zp150 (s : ByteArray) (w : World) : Calls Try.prog 36 #[.string (fewS s 150)] w fun e w' => ∃ (u : Sl) (d : Bool), e = .returned (.tuple #[.agg #[.slice u.ao u.n u.c, .bool d], .int .i64 (zperr (fewS s 150))]) ∧ ZS w' u d (zfv s) ∧ u.n ≤ 150 ∧ Below w.heap.size w w' := by
  have h := fewS_le s 150
  refine (zparse_spec (fewS s 150) w (by omega)).mono ?_
  rintro e w' ⟨u, d, h1, h2, h3, h4⟩
  exact ⟨u, d, h1, h2, by omega, h4⟩
theorem rzp150 (s : ByteArray) (w : World) : Calls Try.prog 37 #[.string (fewS s 150)] w fun e w' => ∃ (u : Sl) (d : Int), e = .returned (.tuple #[.agg #[.int .i64 d, .slice u.ao u.n u.c], .int .i64 (zperr (fewS s 150))]) ∧ RS w' u d (zfv s) ∧ u.n ≤ 4096 ∧ Below w.heap.size w w' := by
  have h := fewS_le s 150
  exact rzparse_spec (fewS s 150) w (by omega)
theorem zperr_two (s : ByteArray) : zperr s = 0 ∨ zperr s = 3 := by
  unfold zperr
  split
  · exact .inl rfl
  · exact .inr rfl

set_option maxRecDepth 100000 in
set_option maxHeartbeats 1600000 in
theorem zsame {w : World} {s t : Sl} {b : Bool} {S : Int} {x : Int} (h : ZS w s b x) (h' : RS w t S x) (hn : s.n ≤ 100000000000) (hm : t.n ≤ 1000000) :
    Calls Try.prog 19 #[.agg #[.slice s.ao s.n s.c, .bool b], .agg #[.int .i64 S, .slice t.ao t.n t.c]] w fun e w' => e = .returned (.bool true) ∧ Below w.heap.size w w' := by
  obtain ⟨hE1, hE2, -⟩ := ents2 w (.cells #[.slice s.ao s.n s.c, .bool b] 33) (.cells #[.int .i64 S, .slice t.ao t.n t.c] 28)
  have hB := ((Grew.refl w).alloc (.cells #[.slice s.ao s.n s.c, .bool b] 33)).alloc (.cells #[.int .i64 S, .slice t.ao t.n t.c] 28)
  have hx := h.grew hB
  have hy := h'.grew hB
  have chE1a := box2_c0 hE1
  have chE1b := box2_c1 hE1
  have chE2a := box2_c0 hE2
  have chE2b := box2_c1 hE2
  go_enter Try.func19, Try.ntmps19
  go_wp2
  generalize (w.alloc (.cells #[.slice s.ao s.n s.c, .bool b] 33)).alloc (.cells #[.int .i64 S, .slice t.ao t.n t.c] 28) = W at *
  clear chE1a chE1b chE2a chE2b
  refine wp_region_held_drew (S := (fun w' => Grew W w')) (by kernel_rfl) ?hSz372 (fun hHeld => ?restz372)
  case hSz372 => (try dsimp only); (first | exact (Grew.refl _).drew | exact Grew.call hHeld ‹Below _ _ _›)
  refine wpAnyH_take (i := 0) (oi := ?oiz373) (v := ?vz373) ?hiz373 (by kernel_rfl) (by kernel_rfl) (by kernel_rfl) ?hqz373 ?hyz373 hHeld ?restz373
  case hiz373 => simp only [List.getElem?_toArray, List.getElem?_cons_zero]; exact rfl
  case hqz373 => exact fun _ _ _ h => h
  case hyz373 => refine Or.inl ⟨by rfl, ?_⟩; intro w hSw; have phE1 := ent_grew hSw hE1; have qhE1 := box2_c0 phE1; have rhE1 := box2_c1 phE1; have phE2 := ent_grew hSw hE2; have qhE2 := box2_c0 phE2; have rhE2 := box2_c1 phE2; go_simp; try with_reducible rfl
  (try simp only [Act.put, List.setIfInBounds_toArray, List.set_cons_zero, List.set_cons_succ])
  refine wpAnyH_take (i := 2) (oi := ?oiz374) (v := ?vz374) ?hiz374 (by kernel_rfl) (by kernel_rfl) (by kernel_rfl) ?hqz374 ?hyz374 hHeld ?restz374
  case hiz374 => simp only [List.getElem?_toArray, List.getElem?_cons_succ, List.getElem?_cons_zero]; exact rfl
  case hqz374 => exact fun _ _ _ h => h
  case hyz374 => refine Or.inl ⟨by rfl, ?_⟩; intro w hSw; have phE1 := ent_grew hSw hE1; have qhE1 := box2_c0 phE1; have rhE1 := box2_c1 phE1; have phE2 := ent_grew hSw hE2; have qhE2 := box2_c0 phE2; have rhE2 := box2_c1 phE2; go_simp; try with_reducible rfl
  (try simp only [Act.put, List.setIfInBounds_toArray, List.set_cons_zero, List.set_cons_succ])
  refine wpAnyH_ready (rs := [1]) (by kernel_rfl) (by simp) ?_
  refine AllReadyH.cons (o := ?oiz375) ?hiz375 (fun K hK => ?stepz375) AllReadyH.nil
  case hiz375 => simp only [List.getElem?_toArray, List.getElem?_cons_succ, List.getElem?_cons_zero]; exact rfl
  go_simp
  (go_at_call 38; refine (ztext (hx.grew hHeld) (by omega)).mono ?_; rintro e w1 ⟨rfl, hb1⟩)
  refine hK.out _ _ ?hSz375 (fun hHeld' => ?restz375)
  case hSz375 => (try dsimp only); (first | exact (Grew.refl _).drew | exact Grew.call hHeld ‹Below _ _ _›)
  clear hK K hHeld
  have hHeld := hHeld'
  clear hHeld'
  (try simp only [Act.put, List.setIfInBounds_toArray, List.set_cons_zero, List.set_cons_succ])
  refine wpAnyH_ready (rs := [3]) (by kernel_rfl) (by simp) ?_
  refine AllReadyH.cons (o := ?oiz376) ?hiz376 (fun K hK => ?stepz376) AllReadyH.nil
  case hiz376 => simp only [List.getElem?_toArray, List.getElem?_cons_succ, List.getElem?_cons_zero]; exact rfl
  go_simp
  (go_at_call 66; refine (rztext (hy.grew hHeld) (by omega)).mono ?_; rintro e w2 ⟨rfl, hb2⟩)
  refine hK.out _ _ ?hSz376 (fun hHeld' => ?restz376)
  case hSz376 => (try dsimp only); (first | exact (Grew.refl _).drew | exact Grew.call hHeld ‹Below _ _ _›)
  clear hK K hHeld
  have hHeld := hHeld'
  clear hHeld'
  (try simp only [Act.put, List.setIfInBounds_toArray, List.set_cons_zero, List.set_cons_succ])
  refine wpAnyH_take (i := 4) (oi := ?oiz377) (v := ?vz377) ?hiz377 (by kernel_rfl) (by kernel_rfl) (by kernel_rfl) ?hqz377 ?hyz377 hHeld ?restz377
  case hiz377 => simp only [List.getElem?_toArray, List.getElem?_cons_succ, List.getElem?_cons_zero]; exact rfl
  case hqz377 => exact fun _ _ _ h => h
  case hyz377 => refine Or.inl ⟨by rfl, ?_⟩; intro w hSw; (try dsimp only at hSw); go_simp; try with_reducible rfl
  (try simp only [Act.put, List.setIfInBounds_toArray, List.set_cons_zero, List.set_cons_succ])
  refine wpAnyH_take (i := 5) (oi := ?oiz378) (v := ?vz378) ?hiz378 (by kernel_rfl) (by kernel_rfl) (by kernel_rfl) ?hqz378 ?hyz378 hHeld ?restz378
  case hiz378 => simp only [List.getElem?_toArray, List.getElem?_cons_succ, List.getElem?_cons_zero]; exact rfl
  case hqz378 => exact fun _ _ _ h => h
  case hyz378 => refine Or.inl ⟨by rfl, ?_⟩; intro w hSw; (try dsimp only at hSw); go_simp; try with_reducible rfl
  (try simp only [Act.put, List.setIfInBounds_toArray, List.set_cons_zero, List.set_cons_succ])
  refine wpAnyH_done (by kernel_rfl) ?_ _
  have hq9 := hB.trans hHeld
  clear hHeld
  go_wp2
  go_ret
  exact ⟨rfl, hq9⟩

set_option maxRecDepth 100000 in
set_option maxHeartbeats 1600000 in
theorem zapart_0 {w : World} (s : ByteArray) (hp : zperr (fewS s 150) = 0) :
    Calls Try.prog 17 #[.string s] w fun e w' => e = .returned (.bool false) ∧ Below w.heap.size w w' := by
  have hB := Grew.refl w
  go_enter Try.func17, Try.ntmps17
  go_wp2_with fail
  refine (zfew s _).mono ?_
  rintro e w1 ⟨rfl, hb1⟩
  have ha1 : Grew w1 (w1) := Grew.refl w1
  have hg1' := (Grew.call (Grew.refl _) hb1).trans ha1
  replace hB := hB.trans hg1'
  clear hg1' ha1 hb1
  go_wp2_with fail
  refine (zp150 s _).mono ?_
  rintro e w2 ⟨a, d, rfl, ha, -, hb2⟩
  rw [hp]
  have ha2 : Grew w2 ((w2.alloc (.cells #[.slice a.ao a.n a.c, .bool d] 33))) := (Grew.refl w2).alloc (.cells #[.slice a.ao a.n a.c, .bool d] 33)
  have hg2' := (Grew.call (Grew.refl _) hb2).trans ha2
  have hEa := ent_new w2 (.cells #[.slice a.ao a.n a.c, .bool d] 33)
  replace hB := hB.trans hg2'
  clear hg2' ha2 hb2
  have chEaa := box2_c0 hEa
  have chEab := box2_c1 hEa
  go_wp2_with fail
  generalize (w2.alloc (.cells #[.slice a.ao a.n a.c, .bool d] 33)) = W2 at *
  refine (zfew s _).mono ?_
  rintro e w3 ⟨rfl, hb3⟩
  have ha3 : Grew w3 (w3) := Grew.refl w3
  have hg3' := (Grew.call (Grew.refl _) hb3).trans ha3
  replace hEa := ent_grew hg3' hEa
  replace hB := hB.trans hg3'
  clear hg3' ha3 hb3 chEaa chEab
  have chEaa := box2_c0 hEa
  have chEab := box2_c1 hEa
  go_wp2_with fail
  refine (rzp150 s _).mono ?_
  rintro e w4 ⟨x, S, rfl, hx, -, hb4⟩
  rw [hp]
  have ha4 : Grew w4 (w4) := Grew.refl w4
  have hg4' := (Grew.call (Grew.refl _) hb4).trans ha4
  replace hEa := ent_grew hg4' hEa
  replace hB := hB.trans hg4'
  clear hg4' ha4 hb4 chEaa chEab
  have chEaa := box2_c0 hEa
  have chEab := box2_c1 hEa
  go_wp2
  go_ret
  exact ⟨rfl, by first | exact hB | exact hB.alloc _⟩

set_option maxRecDepth 100000 in
set_option maxHeartbeats 1600000 in
theorem zone_0 {w : World} (s : ByteArray) (hp : zperr (fewS s 150) = 0) :
    Calls Try.prog 15 #[.string s] w fun e w' => ∃ (a : Sl) (d : Bool) (x : Sl) (S : Int), e = .returned (.tuple #[.agg #[.slice a.ao a.n a.c, .bool d], .agg #[.int .i64 S, .slice x.ao x.n x.c], .bool true]) ∧ ZS w' a d (zfv s) ∧ RS w' x S (zfv s) ∧ a.n ≤ 150 ∧ x.n ≤ 4096 ∧ Below w.heap.size w w' := by
  obtain ⟨hE1, hE2, -⟩ := ents2 w (.cells #[.slice none 0 0, .bool false] 33) (.cells #[.int .i64 0, .slice none 0 0] 28)
  have hB := ((Grew.refl w).alloc (.cells #[.slice none 0 0, .bool false] 33)).alloc (.cells #[.int .i64 0, .slice none 0 0] 28)
  have chE1a := box2_c0 hE1
  have chE1b := box2_c1 hE1
  have fhE1a := box2_f hE1 0
  have fhE1b := box2_f hE1 1
  have chE2a := box2_c0 hE2
  have chE2b := box2_c1 hE2
  have fhE2a := box2_f hE2 0
  have fhE2b := box2_f hE2 1
  go_enter Try.func15, Try.ntmps15
  go_wp2_with fail
  generalize (w.alloc (.cells #[.slice none 0 0, .bool false] 33)).alloc (.cells #[.int .i64 0, .slice none 0 0] 28) = W at *
  refine (zfew s _).mono ?_
  rintro e w1 ⟨rfl, hb1⟩
  have ha1 : Grew w1 (w1) := Grew.refl w1
  have hg1' := (Grew.call (Grew.refl _) hb1).trans ha1
  replace hE1 := ent_grew hg1' hE1
  replace hE2 := ent_grew hg1' hE2
  replace hB := hB.trans hg1'
  clear hg1' ha1 hb1 chE1a chE1b fhE1a fhE1b chE2a chE2b fhE2a fhE2b
  have chE1a := box2_c0 hE1
  have chE1b := box2_c1 hE1
  have fhE1a := box2_f hE1 0
  have fhE1b := box2_f hE1 1
  have chE2a := box2_c0 hE2
  have chE2b := box2_c1 hE2
  have fhE2a := box2_f hE2 0
  have fhE2b := box2_f hE2 1
  have hl1 := ent_lt hE2
  go_wp2_with fail
  refine (zp150 s _).mono ?_
  rintro e w2 ⟨a, d, rfl, ha, han, hb2⟩
  rw [hp]
  have hs2 := Below.size hb2
  have ha2 : Grew w2 ((w2.alloc (.cells #[.slice a.ao a.n a.c, .bool d] 33))) := (Grew.refl w2).alloc (.cells #[.slice a.ao a.n a.c, .bool d] 33)
  have hg2' := (Grew.call (Grew.refl _) hb2).trans ha2
  replace hE1 := ent_grew hg2' hE1
  replace hE2 := ent_grew hg2' hE2
  replace ha := ha.grew ha2
  have hEa := ent_new w2 (.cells #[.slice a.ao a.n a.c, .bool d] 33)
  replace hB := hB.trans hg2'
  clear hg2' ha2 hb2 chE1a chE1b fhE1a fhE1b chE2a chE2b fhE2a fhE2b
  have chE1a := box2_c0 hE1
  have chE1b := box2_c1 hE1
  have fhE1a := box2_f hE1 0
  have fhE1b := box2_f hE1 1
  have chE2a := box2_c0 hE2
  have chE2b := box2_c1 hE2
  have fhE2a := box2_f hE2 0
  have fhE2b := box2_f hE2 1
  have chEaa := box2_c0 hEa
  have chEab := box2_c1 hEa
  go_wp2_with fail
  generalize (w2.alloc (.cells #[.slice a.ao a.n a.c, .bool d] 33)) = W2 at *
  refine (zfew s _).mono ?_
  rintro e w3 ⟨rfl, hb3⟩
  have ha3 : Grew w3 (w3) := Grew.refl w3
  have hg3' := (Grew.call (Grew.refl _) hb3).trans ha3
  replace ha := ha.grew hg3'
  replace hE1 := ent_grew hg3' hE1
  replace hE2 := ent_grew hg3' hE2
  replace hEa := ent_grew hg3' hEa
  replace hB := hB.trans hg3'
  clear hg3' ha3 hb3 chE1a chE1b fhE1a fhE1b chE2a chE2b fhE2a fhE2b chEaa chEab
  have chE1a := box2_c0 hE1
  have chE1b := box2_c1 hE1
  have fhE1a := box2_f hE1 0
  have fhE1b := box2_f hE1 1
  have chE2a := box2_c0 hE2
  have chE2b := box2_c1 hE2
  have fhE2a := box2_f hE2 0
  have fhE2b := box2_f hE2 1
  have chEaa := box2_c0 hEa
  have chEab := box2_c1 hEa
  have hl3 := ent_lt hE2
  go_wp2_with fail
  refine (rzp150 s _).mono ?_
  rintro e w4 ⟨x, S, rfl, hx, hxn, hb4⟩
  rw [hp]
  have hs4 := Below.size hb4
  have ha4 : Grew w4 ((w4.alloc (.cells #[.int .i64 S, .slice x.ao x.n x.c] 28))) := (Grew.refl w4).alloc (.cells #[.int .i64 S, .slice x.ao x.n x.c] 28)
  have hg4' := (Grew.call (Grew.refl _) hb4).trans ha4
  replace ha := ha.grew hg4'
  replace hE1 := ent_grew hg4' hE1
  replace hE2 := ent_grew hg4' hE2
  replace hEa := ent_grew hg4' hEa
  replace hx := hx.grew ha4
  have hEx := ent_new w4 (.cells #[.int .i64 S, .slice x.ao x.n x.c] 28)
  replace hB := hB.trans hg4'
  clear hg4' ha4 hb4 chE1a chE1b fhE1a fhE1b chE2a chE2b fhE2a fhE2b chEaa chEab
  have chE1a := box2_c0 hE1
  have chE1b := box2_c1 hE1
  have fhE1a := box2_f hE1 0
  have fhE1b := box2_f hE1 1
  have chE2a := box2_c0 hE2
  have chE2b := box2_c1 hE2
  have fhE2a := box2_f hE2 0
  have fhE2b := box2_f hE2 1
  have chEaa := box2_c0 hEa
  have chEab := box2_c1 hEa
  have chExa := box2_c0 hEx
  have chExb := box2_c1 hEx
  go_wp2
  generalize (w4.alloc (.cells #[.int .i64 S, .slice x.ao x.n x.c] 28)) = W4 at *
  have hn105 : ¬ (w.heap.size = w2.heap.size) := by omega
  have hm105 : ¬ (w2.heap.size = w.heap.size) := by omega
  have hn107 : ¬ (w.heap.size + 1 = w2.heap.size) := by omega
  have hm107 : ¬ (w2.heap.size = w.heap.size + 1) := by omega
  have hn109 : ¬ (w.heap.size = w4.heap.size) := by omega
  have hm109 : ¬ (w4.heap.size = w.heap.size) := by omega
  have hn111 : ¬ (w.heap.size + 1 = w4.heap.size) := by omega
  have hm111 : ¬ (w4.heap.size = w.heap.size + 1) := by omega
  go_region
  all_goals go_wp2
  have h3 := box2_keep (j := w.heap.size + 1) (box2_set hE1 (.slice a.ao a.n a.c) (.bool d)) (by omega) (.int .i64 S) (.slice x.ao x.n x.c)
  have h4k := box2_keep (j := w.heap.size) hE2 (by omega) (.slice a.ao a.n a.c) (.bool d)
  have h4 := box2_set h4k (.int .i64 S) (.slice x.ao x.n x.c)
  have hk9 := ((Kp.refl W4).set2 hE1 (by decide) (.slice a.ao a.n a.c) (.bool d)).set2 h4k (by decide) (.int .i64 S) (.slice x.ao x.n x.c)
  have hq9 := (hB.set2 (k := w.heap.size) (by omega) (.slice a.ao a.n a.c) (.bool d)).set2 (k := w.heap.size + 1) (by omega) (.int .i64 S) (.slice x.ao x.n x.c)
  clear h4k
  clear chE1a chE1b fhE1a fhE1b chE2a chE2b fhE2a fhE2b chEaa chEab chExa chExb
  replace ha := ha.kp hk9
  replace hx := hx.kp hk9
  have s0 := box2_c0 h3
  have s1 := box2_c1 h3
  have s2 := box2_c0 h4
  have s3 := box2_c1 h4
  clear h3 h4 hk9
  generalize (((W4.setCell ⟨w.heap.size, 0, none⟩ (.slice a.ao a.n a.c)).setCell ⟨w.heap.size, 1, none⟩ (.bool d)).setCell ⟨w.heap.size + 1, 0, none⟩ (.int .i64 S)).setCell ⟨w.heap.size + 1, 1, none⟩ (.slice x.ao x.n x.c) = W9 at *
  exact bodyPost_ret (v := .tuple #[.agg #[.slice a.ao a.n a.c, .bool d], .agg #[.int .i64 S, .slice x.ao x.n x.c], .bool true]) (by simp [results, Try.results15, go_sem, s0, s1, s2, s3]) rfl (by first | exact ⟨a, d, x, S, rfl, ha, hx, han, hxn, hq9⟩ | (have hq9 := Grew.drew hq9; exact ⟨a, d, x, S, rfl, ha, hx, han, hxn, hq9⟩))

set_option maxRecDepth 100000 in
set_option maxHeartbeats 1600000 in
theorem zapart_3 {w : World} (s : ByteArray) (hp : zperr (fewS s 150) = 3) :
    Calls Try.prog 17 #[.string s] w fun e w' => e = .returned (.bool false) ∧ Below w.heap.size w w' := by
  have hB := Grew.refl w
  go_enter Try.func17, Try.ntmps17
  go_wp2_with fail
  refine (zfew s _).mono ?_
  rintro e w1 ⟨rfl, hb1⟩
  have ha1 : Grew w1 (w1) := Grew.refl w1
  have hg1' := (Grew.call (Grew.refl _) hb1).trans ha1
  replace hB := hB.trans hg1'
  clear hg1' ha1 hb1
  go_wp2_with fail
  refine (zp150 s _).mono ?_
  rintro e w2 ⟨a, d, rfl, ha, -, hb2⟩
  rw [hp]
  have ha2 : Grew w2 ((w2.alloc (.cells #[.slice a.ao a.n a.c, .bool d] 33))) := (Grew.refl w2).alloc (.cells #[.slice a.ao a.n a.c, .bool d] 33)
  have hg2' := (Grew.call (Grew.refl _) hb2).trans ha2
  have hEa := ent_new w2 (.cells #[.slice a.ao a.n a.c, .bool d] 33)
  replace hB := hB.trans hg2'
  clear hg2' ha2 hb2
  have chEaa := box2_c0 hEa
  have chEab := box2_c1 hEa
  go_wp2_with fail
  generalize (w2.alloc (.cells #[.slice a.ao a.n a.c, .bool d] 33)) = W2 at *
  refine (zfew s _).mono ?_
  rintro e w3 ⟨rfl, hb3⟩
  have ha3 : Grew w3 (w3) := Grew.refl w3
  have hg3' := (Grew.call (Grew.refl _) hb3).trans ha3
  replace hEa := ent_grew hg3' hEa
  replace hB := hB.trans hg3'
  clear hg3' ha3 hb3 chEaa chEab
  have chEaa := box2_c0 hEa
  have chEab := box2_c1 hEa
  go_wp2_with fail
  refine (rzp150 s _).mono ?_
  rintro e w4 ⟨x, S, rfl, hx, -, hb4⟩
  rw [hp]
  have ha4 : Grew w4 (w4) := Grew.refl w4
  have hg4' := (Grew.call (Grew.refl _) hb4).trans ha4
  replace hEa := ent_grew hg4' hEa
  replace hB := hB.trans hg4'
  clear hg4' ha4 hb4 chEaa chEab
  have chEaa := box2_c0 hEa
  have chEab := box2_c1 hEa
  go_wp2
  go_ret
  exact ⟨rfl, by first | exact hB | exact hB.alloc _⟩

set_option maxRecDepth 100000 in
set_option maxHeartbeats 1600000 in
theorem zone_3 {w : World} (s : ByteArray) (hp : zperr (fewS s 150) = 3) :
    Calls Try.prog 15 #[.string s] w fun e w' => ∃ (a : Sl) (d : Bool) (x : Sl) (S : Int), e = .returned (.tuple #[.agg #[.slice a.ao a.n a.c, .bool d], .agg #[.int .i64 S, .slice x.ao x.n x.c], .bool false]) ∧ ZS w' a d (zfv s) ∧ RS w' x S (zfv s) ∧ a.n ≤ 150 ∧ x.n ≤ 4096 ∧ Below w.heap.size w w' := by
  obtain ⟨hE1, hE2, -⟩ := ents2 w (.cells #[.slice none 0 0, .bool false] 33) (.cells #[.int .i64 0, .slice none 0 0] 28)
  have hB := ((Grew.refl w).alloc (.cells #[.slice none 0 0, .bool false] 33)).alloc (.cells #[.int .i64 0, .slice none 0 0] 28)
  have chE1a := box2_c0 hE1
  have chE1b := box2_c1 hE1
  have fhE1a := box2_f hE1 0
  have fhE1b := box2_f hE1 1
  have chE2a := box2_c0 hE2
  have chE2b := box2_c1 hE2
  have fhE2a := box2_f hE2 0
  have fhE2b := box2_f hE2 1
  go_enter Try.func15, Try.ntmps15
  go_wp2_with fail
  generalize (w.alloc (.cells #[.slice none 0 0, .bool false] 33)).alloc (.cells #[.int .i64 0, .slice none 0 0] 28) = W at *
  refine (zfew s _).mono ?_
  rintro e w1 ⟨rfl, hb1⟩
  have ha1 : Grew w1 (w1) := Grew.refl w1
  have hg1' := (Grew.call (Grew.refl _) hb1).trans ha1
  replace hE1 := ent_grew hg1' hE1
  replace hE2 := ent_grew hg1' hE2
  replace hB := hB.trans hg1'
  clear hg1' ha1 hb1 chE1a chE1b fhE1a fhE1b chE2a chE2b fhE2a fhE2b
  have chE1a := box2_c0 hE1
  have chE1b := box2_c1 hE1
  have fhE1a := box2_f hE1 0
  have fhE1b := box2_f hE1 1
  have chE2a := box2_c0 hE2
  have chE2b := box2_c1 hE2
  have fhE2a := box2_f hE2 0
  have fhE2b := box2_f hE2 1
  have hl1 := ent_lt hE2
  go_wp2_with fail
  refine (zp150 s _).mono ?_
  rintro e w2 ⟨a, d, rfl, ha, han, hb2⟩
  rw [hp]
  have hs2 := Below.size hb2
  have ha2 : Grew w2 ((w2.alloc (.cells #[.slice a.ao a.n a.c, .bool d] 33))) := (Grew.refl w2).alloc (.cells #[.slice a.ao a.n a.c, .bool d] 33)
  have hg2' := (Grew.call (Grew.refl _) hb2).trans ha2
  replace hE1 := ent_grew hg2' hE1
  replace hE2 := ent_grew hg2' hE2
  replace ha := ha.grew ha2
  have hEa := ent_new w2 (.cells #[.slice a.ao a.n a.c, .bool d] 33)
  replace hB := hB.trans hg2'
  clear hg2' ha2 hb2 chE1a chE1b fhE1a fhE1b chE2a chE2b fhE2a fhE2b
  have chE1a := box2_c0 hE1
  have chE1b := box2_c1 hE1
  have fhE1a := box2_f hE1 0
  have fhE1b := box2_f hE1 1
  have chE2a := box2_c0 hE2
  have chE2b := box2_c1 hE2
  have fhE2a := box2_f hE2 0
  have fhE2b := box2_f hE2 1
  have chEaa := box2_c0 hEa
  have chEab := box2_c1 hEa
  go_wp2_with fail
  generalize (w2.alloc (.cells #[.slice a.ao a.n a.c, .bool d] 33)) = W2 at *
  refine (zfew s _).mono ?_
  rintro e w3 ⟨rfl, hb3⟩
  have ha3 : Grew w3 (w3) := Grew.refl w3
  have hg3' := (Grew.call (Grew.refl _) hb3).trans ha3
  replace ha := ha.grew hg3'
  replace hE1 := ent_grew hg3' hE1
  replace hE2 := ent_grew hg3' hE2
  replace hEa := ent_grew hg3' hEa
  replace hB := hB.trans hg3'
  clear hg3' ha3 hb3 chE1a chE1b fhE1a fhE1b chE2a chE2b fhE2a fhE2b chEaa chEab
  have chE1a := box2_c0 hE1
  have chE1b := box2_c1 hE1
  have fhE1a := box2_f hE1 0
  have fhE1b := box2_f hE1 1
  have chE2a := box2_c0 hE2
  have chE2b := box2_c1 hE2
  have fhE2a := box2_f hE2 0
  have fhE2b := box2_f hE2 1
  have chEaa := box2_c0 hEa
  have chEab := box2_c1 hEa
  have hl3 := ent_lt hE2
  go_wp2_with fail
  refine (rzp150 s _).mono ?_
  rintro e w4 ⟨x, S, rfl, hx, hxn, hb4⟩
  rw [hp]
  have hs4 := Below.size hb4
  have ha4 : Grew w4 ((w4.alloc (.cells #[.int .i64 S, .slice x.ao x.n x.c] 28))) := (Grew.refl w4).alloc (.cells #[.int .i64 S, .slice x.ao x.n x.c] 28)
  have hg4' := (Grew.call (Grew.refl _) hb4).trans ha4
  replace ha := ha.grew hg4'
  replace hE1 := ent_grew hg4' hE1
  replace hE2 := ent_grew hg4' hE2
  replace hEa := ent_grew hg4' hEa
  replace hx := hx.grew ha4
  have hEx := ent_new w4 (.cells #[.int .i64 S, .slice x.ao x.n x.c] 28)
  replace hB := hB.trans hg4'
  clear hg4' ha4 hb4 chE1a chE1b fhE1a fhE1b chE2a chE2b fhE2a fhE2b chEaa chEab
  have chE1a := box2_c0 hE1
  have chE1b := box2_c1 hE1
  have fhE1a := box2_f hE1 0
  have fhE1b := box2_f hE1 1
  have chE2a := box2_c0 hE2
  have chE2b := box2_c1 hE2
  have fhE2a := box2_f hE2 0
  have fhE2b := box2_f hE2 1
  have chEaa := box2_c0 hEa
  have chEab := box2_c1 hEa
  have chExa := box2_c0 hEx
  have chExb := box2_c1 hEx
  go_wp2
  generalize (w4.alloc (.cells #[.int .i64 S, .slice x.ao x.n x.c] 28)) = W4 at *
  have hn105 : ¬ (w.heap.size = w2.heap.size) := by omega
  have hm105 : ¬ (w2.heap.size = w.heap.size) := by omega
  have hn107 : ¬ (w.heap.size + 1 = w2.heap.size) := by omega
  have hm107 : ¬ (w2.heap.size = w.heap.size + 1) := by omega
  have hn109 : ¬ (w.heap.size = w4.heap.size) := by omega
  have hm109 : ¬ (w4.heap.size = w.heap.size) := by omega
  have hn111 : ¬ (w.heap.size + 1 = w4.heap.size) := by omega
  have hm111 : ¬ (w4.heap.size = w.heap.size + 1) := by omega
  go_region
  all_goals go_wp2
  have h3 := box2_keep (j := w.heap.size + 1) (box2_set hE1 (.slice a.ao a.n a.c) (.bool d)) (by omega) (.int .i64 S) (.slice x.ao x.n x.c)
  have h4k := box2_keep (j := w.heap.size) hE2 (by omega) (.slice a.ao a.n a.c) (.bool d)
  have h4 := box2_set h4k (.int .i64 S) (.slice x.ao x.n x.c)
  have hk9 := ((Kp.refl W4).set2 hE1 (by decide) (.slice a.ao a.n a.c) (.bool d)).set2 h4k (by decide) (.int .i64 S) (.slice x.ao x.n x.c)
  have hq9 := (hB.set2 (k := w.heap.size) (by omega) (.slice a.ao a.n a.c) (.bool d)).set2 (k := w.heap.size + 1) (by omega) (.int .i64 S) (.slice x.ao x.n x.c)
  clear h4k
  clear chE1a chE1b fhE1a fhE1b chE2a chE2b fhE2a fhE2b chEaa chEab chExa chExb
  replace ha := ha.kp hk9
  replace hx := hx.kp hk9
  have s0 := box2_c0 h3
  have s1 := box2_c1 h3
  have s2 := box2_c0 h4
  have s3 := box2_c1 h4
  clear h3 h4 hk9
  generalize (((W4.setCell ⟨w.heap.size, 0, none⟩ (.slice a.ao a.n a.c)).setCell ⟨w.heap.size, 1, none⟩ (.bool d)).setCell ⟨w.heap.size + 1, 0, none⟩ (.int .i64 S)).setCell ⟨w.heap.size + 1, 1, none⟩ (.slice x.ao x.n x.c) = W9 at *
  exact bodyPost_ret (v := .tuple #[.agg #[.slice a.ao a.n a.c, .bool d], .agg #[.int .i64 S, .slice x.ao x.n x.c], .bool false]) (by simp [results, Try.results15, go_sem, s0, s1, s2, s3]) rfl (by first | exact ⟨a, d, x, S, rfl, ha, hx, han, hxn, hq9⟩ | (have hq9 := Grew.drew hq9; exact ⟨a, d, x, S, rfl, ha, hx, han, hxn, hq9⟩))

theorem zapart (s : ByteArray) (w : World) : Calls Try.prog 17 #[.string s] w fun e w' => e = .returned (.bool false) ∧ Below w.heap.size w w' := by
  rcases zperr_two (fewS s 150) with hp | hp
  · exact zapart_0 s hp
  · exact zapart_3 s hp
theorem zone (s : ByteArray) (w : World) : Calls Try.prog 15 #[.string s] w fun e w' => ∃ (a : Sl) (d : Bool) (x : Sl) (S : Int), e = .returned (.tuple #[.agg #[.slice a.ao a.n a.c, .bool d], .agg #[.int .i64 S, .slice x.ao x.n x.c], .bool (zok s)]) ∧ ZS w' a d (zfv s) ∧ RS w' x S (zfv s) ∧ a.n ≤ 150 ∧ x.n ≤ 4096 ∧ Below w.heap.size w w' := by
  unfold zok
  rcases zperr_two (fewS s 150) with hp | hp
  · rw [hp]; exact zone_0 s hp
  · rw [hp]; exact zone_3 s hp

end Go.Proofs.Ytnjohlimjbmkgaa
