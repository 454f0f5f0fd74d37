/- ZedSmall returns true at every input: an int is the number that it is; no condition. -/
import Derived.Test.YtnjohlimjbmkgaaRows
import Derived.Test.YtnjohlimjbmkgaaProg
import Derived.Test.YtnjohlimjbmkgaaZedN
import Derived.Deep.CutBlock
import Derived.Test.YtnjohlimjbmkgaaLawZ
namespace Go.Proofs.Ytnjohlimjbmkgaa
open Go.RowKit

set_option maxRecDepth 100000 in
set_option maxHeartbeats 1600000 in
theorem zsmall_n {w : World} {s : Sl} {m : Nat} (h : NatS w s m) (hm : m ≤ 9223372036854775808) (hp : 0 < m) :
    Calls Try.prog 34 #[.agg #[.slice s.ao s.n s.c, .bool true]] w fun e w' => e = .returned (.tuple #[.int .i64 (-(m : Int)), .bool true]) ∧ Below w.heap.size w w' := by
  have hle : ((m : Int) ≤ 9223372036854775808) := by omega
  have hm1 : ((1 : Int) ≤ (m : Int)) := by omega
  have hE1 := ent_new w (.cells #[.slice s.ao s.n s.c, .bool true] 33)
  have hB := (Grew.refl w).alloc (.cells #[.slice s.ao s.n s.c, .bool true] 33)
  have hx := h.grew hB
  have chE1a := box2_c0 hE1
  have chE1b := box2_c1 hE1
  go_enter Try.func34, Try.ntmps34
  go_wp2_with fail
  generalize w.alloc (.cells #[.slice s.ao s.n s.c, .bool true] 33) = W at *
  refine (word_small hx (by omega)).mono ?_
  rintro e w1 ⟨rfl, hb1⟩
  have ha1 : Grew w1 (w1) := Grew.refl w1
  have hg1' := (Grew.call (Grew.refl _) hb1).trans ha1
  replace hx := hx.grew hg1'
  replace hE1 := ent_grew hg1' hE1
  replace hB := hB.trans hg1'
  clear hg1' ha1 hb1 chE1a chE1b
  have chE1a := box2_c0 hE1
  have chE1b := box2_c1 hE1
  go_wp2
  exact bodyPost_ret (v := .tuple #[.int .i64 (-((m : Int) - 1) - 1), .bool true]) (by simp [results, Try.results34, go_sem]) rfl ⟨by rw [show -((m : Int) - 1) - 1 = -(m : Int) by omega], hB⟩

set_option maxRecDepth 100000 in
set_option maxHeartbeats 1600000 in
theorem zsmall_p {w : World} {s : Sl} {m : Nat} (h : NatS w s m) (hm : m < 9223372036854775808) :
    Calls Try.prog 34 #[.agg #[.slice s.ao s.n s.c, .bool false]] w fun e w' => e = .returned (.tuple #[.int .i64 (m : Int), .bool true]) ∧ Below w.heap.size w w' := by
  have hle : ((m : Int) < 9223372036854775808) := by omega
  have hE1 := ent_new w (.cells #[.slice s.ao s.n s.c, .bool false] 33)
  have hB := (Grew.refl w).alloc (.cells #[.slice s.ao s.n s.c, .bool false] 33)
  have hx := h.grew hB
  have chE1a := box2_c0 hE1
  have chE1b := box2_c1 hE1
  go_enter Try.func34, Try.ntmps34
  go_wp2_with fail
  generalize w.alloc (.cells #[.slice s.ao s.n s.c, .bool false] 33) = W at *
  refine (word_small hx (by omega)).mono ?_
  rintro e w1 ⟨rfl, hb1⟩
  have ha1 : Grew w1 (w1) := Grew.refl w1
  have hg1' := (Grew.call (Grew.refl _) hb1).trans ha1
  replace hx := hx.grew hg1'
  replace hE1 := ent_grew hg1' hE1
  replace hB := hB.trans hg1'
  clear hg1' ha1 hb1 chE1a chE1b
  have chE1a := box2_c0 hE1
  have chE1b := box2_c1 hE1
  go_wp2
  exact bodyPost_ret (v := .tuple #[.int .i64 (m : Int), .bool true]) (by simp [results, Try.results34, go_sem]) rfl ⟨rfl, hB⟩

theorem zsmall_in {w : World} {s : Sl} {b : Bool} {x : Int} (h : ZS w s b x) (hlo : -9223372036854775808 ≤ x) (hhi : x < 9223372036854775808) :
    Calls Try.prog 34 #[.agg #[.slice s.ao s.n s.c, .bool b]] w fun e w' => e = .returned (.tuple #[.int .i64 x, .bool true]) ∧ Below w.heap.size w w' := by
  obtain ⟨h, rfl⟩ := h
  by_cases hx : x < 0
  · rw [show decide (x < 0) = true from decide_eq_true (by omega)]
    have := zsmall_n h (by omega) (by omega)
    rwa [show -((x.natAbs : Nat) : Int) = x by omega] at this
  · rw [show decide (x < 0) = false from decide_eq_false (by omega)]
    have := zsmall_p h (by omega)
    rwa [show ((x.natAbs : Nat) : Int) = x by omega] at this

set_option maxRecDepth 100000 in
set_option maxHeartbeats 1600000 in
theorem zedSmall_lt {w : World} (n m : Int) (hn : -9223372036854775808 ≤ n ∧ n < 9223372036854775808) (hm : -9223372036854775808 ≤ m ∧ m < 9223372036854775808) (hc : n < m) :
    Calls Try.prog 7 #[.int .i64 n, .int .i64 m] w fun e w' => e = .returned (.bool true) ∧ Below w.heap.size w w' := by
  have hcz : cmpZ n m = -1 := by unfold cmpZ; rw [if_pos hc]
  have HCZ := Lib.hid hcz
  clear hcz
  have h1 : n < m := hc
  have hB := Grew.refl w
  go_enter Try.func7, Try.ntmps7
  go_wp2_with fail
  refine (zof n _ hn.1 hn.2).mono ?_
  rintro e w1 ⟨a, da, rfl, ha, han, hb1⟩
  have ha1 : Grew w1 (w1) := Grew.refl w1
  have hg1' := (Grew.call (Grew.refl _) hb1).trans ha1
  replace ha := ha.grew ha1
  replace hB := hB.trans hg1'
  clear hg1' ha1 hb1
  go_wp2_with fail
  refine (zof m _ hm.1 hm.2).mono ?_
  rintro e w2 ⟨b, db, rfl, hbz, hbn, hb2⟩
  have ha2 : Grew w2 (((w2.alloc (.cells #[.slice a.ao a.n a.c, .bool da] 33)).alloc (.cells #[.slice b.ao b.n b.c, .bool db] 33))) := ((Grew.refl w2).alloc (.cells #[.slice a.ao a.n a.c, .bool da] 33)).alloc (.cells #[.slice b.ao b.n b.c, .bool db] 33)
  have hg2' := (Grew.call (Grew.refl _) hb2).trans ha2
  replace ha := ha.grew hg2'
  replace hbz := hbz.grew ha2
  obtain ⟨hEa, hEb, -⟩ := ents2 w2 (.cells #[.slice a.ao a.n a.c, .bool da] 33) (.cells #[.slice b.ao b.n b.c, .bool db] 33)
  replace hB := hB.trans hg2'
  clear hg2' ha2 hb2
  have chEaa := box2_c0 hEa
  have chEab := box2_c1 hEa
  have chEba := box2_c0 hEb
  have chEbb := box2_c1 hEb
  go_wp2_with fail
  generalize ((w2.alloc (.cells #[.slice a.ao a.n a.c, .bool da] 33)).alloc (.cells #[.slice b.ao b.n b.c, .bool db] 33)) = W2 at *
  refine (zsmall_in ha hn.1 hn.2).mono ?_
  rintro e w3 ⟨rfl, hb3⟩
  have ha3 : Grew w3 (w3) := Grew.refl w3
  have hg3' := (Grew.call (Grew.refl _) hb3).trans ha3
  replace ha := ha.grew hg3'
  replace hbz := hbz.grew hg3'
  replace hEa := ent_grew hg3' hEa
  replace hEb := ent_grew hg3' hEb
  replace hB := hB.trans hg3'
  clear hg3' ha3 hb3 chEaa chEab chEba chEbb
  have chEaa := box2_c0 hEa
  have chEab := box2_c1 hEa
  have chEba := box2_c0 hEb
  have chEbb := box2_c1 hEb
  go_upto_region 8 with fail
  clear chEaa chEab chEba chEbb
  refine wp_region_held_drew (S := (fun w' => Grew w3 w')) (by kernel_rfl) ?hSz422 (fun hHeld => ?restz422)
  case hSz422 => (try dsimp only); (first | exact (Grew.refl _).drew | exact Grew.call hHeld ‹Below _ _ _›)
  refine wpAnyH_ready (rs := [0]) (by kernel_rfl) (by simp) ?_
  refine AllReadyH.cons (o := ?oiz423) ?hiz423 (fun K hK => ?stepz423) AllReadyH.nil
  case hiz423 => simp only [List.getElem?_toArray, List.getElem?_cons_zero]; exact rfl
  go_simp
  (go_at_call 16; refine zknown.mono ?_; rintro e v1 ⟨rfl, hv1⟩)
  refine hK.out _ _ ?hSz423 (fun hHeld' => ?restz423)
  case hSz423 => (try dsimp only); (first | exact (Grew.refl _).drew | exact Grew.call hHeld ‹Below _ _ _›)
  clear hK K hHeld
  have hHeld := hHeld'
  clear hHeld'
  (try simp only [Act.put, List.setIfInBounds_toArray, List.set_cons_zero, List.set_cons_succ])
  refine wpAnyH_take (i := 1) (oi := ?oiz424) (v := ?vz424) ?hiz424 (by kernel_rfl) (by kernel_rfl) (by kernel_rfl) ?hqz424 ?hyz424 hHeld ?restz424
  case hiz424 => simp only [List.getElem?_toArray, List.getElem?_cons_succ, List.getElem?_cons_zero]; exact rfl
  case hqz424 => exact fun _ _ _ h => h
  case hyz424 => refine Or.inl ⟨by rfl, ?_⟩; intro w hSw; (try dsimp only at hSw); go_simp; try with_reducible rfl
  (try simp only [Act.put, List.setIfInBounds_toArray, List.set_cons_zero, List.set_cons_succ])
  refine wpAnyH_take (i := 2) (oi := ?oiz425) (v := ?vz425) ?hiz425 (by kernel_rfl) (by kernel_rfl) (by kernel_rfl) ?hqz425 ?hyz425 hHeld ?restz425
  case hiz425 => simp only [List.getElem?_toArray, List.getElem?_cons_succ, List.getElem?_cons_zero]; exact rfl
  case hqz425 => exact fun _ _ _ h => h
  case hyz425 => refine Or.inl ⟨by rfl, ?_⟩; intro w hSw; have phEa := ent_grew hSw hEa; have qhEa := box2_c0 phEa; have rhEa := box2_c1 phEa; have phEb := ent_grew hSw hEb; have qhEb := box2_c0 phEb; have rhEb := box2_c1 phEb; go_simp; try with_reducible rfl
  (try simp only [Act.put, List.setIfInBounds_toArray, List.set_cons_zero, List.set_cons_succ])
  refine wpAnyH_take (i := 3) (oi := ?oiz426) (v := ?vz426) ?hiz426 (by kernel_rfl) (by kernel_rfl) (by kernel_rfl) ?hqz426 ?hyz426 hHeld ?restz426
  case hiz426 => simp only [List.getElem?_toArray, List.getElem?_cons_succ, List.getElem?_cons_zero]; exact rfl
  case hqz426 => exact fun _ _ _ h => h
  case hyz426 => refine Or.inl ⟨by rfl, ?_⟩; intro w hSw; (try dsimp only at hSw); go_simp; try with_reducible rfl
  (try simp only [Act.put, List.setIfInBounds_toArray, List.set_cons_zero, List.set_cons_succ])
  refine wpAnyH_ready (rs := [4]) (by kernel_rfl) (by simp) ?_
  refine AllReadyH.cons (o := ?oiz427) ?hiz427 (fun K hK => ?stepz427) AllReadyH.nil
  case hiz427 => simp only [List.getElem?_toArray, List.getElem?_cons_succ, List.getElem?_cons_zero]; exact rfl
  go_simp
  (go_at_call 35; refine (rzof n _ hn.1 hn.2).mono ?_; rintro e v2 ⟨x, S, rfl, hx, hxn, hv2⟩)
  refine hK.out _ _ ?hSz427 (fun hHeld' => ?restz427)
  case hSz427 => (try dsimp only); (first | exact (Grew.refl _).drew | exact Grew.call hHeld ‹Below _ _ _›)
  clear hK K hHeld
  have hHeld := hHeld'
  clear hHeld'
  (try simp only [Act.put, List.setIfInBounds_toArray, List.set_cons_zero, List.set_cons_succ])
  refine wpAnyH_ready (rs := [5]) (by kernel_rfl) (by simp) ?_
  refine AllReadyH.cons (o := ?oiz428) ?hiz428 (fun K hK => ?stepz428) AllReadyH.nil
  case hiz428 => simp only [List.getElem?_toArray, List.getElem?_cons_succ, List.getElem?_cons_zero]; exact rfl
  go_simp
  (go_at_call 19; refine (zsame (ha.grew hHeld) hx (by omega) (by omega)).mono ?_; rintro e v3 ⟨rfl, hv3⟩)
  refine hK.out _ _ ?hSz428 (fun hHeld' => ?restz428)
  case hSz428 => (try dsimp only); (first | exact (Grew.refl _).drew | exact Grew.call hHeld ‹Below _ _ _›)
  clear hK K hHeld
  have hHeld := hHeld'
  clear hHeld'
  (try simp only [Act.put, List.setIfInBounds_toArray, List.set_cons_zero, List.set_cons_succ])
  refine wpAnyH_take (i := 6) (oi := ?oiz429) (v := ?vz429) ?hiz429 (by kernel_rfl) (by kernel_rfl) (by kernel_rfl) ?hqz429 ?hyz429 hHeld ?restz429
  case hiz429 => simp only [List.getElem?_toArray, List.getElem?_cons_succ, List.getElem?_cons_zero]; exact rfl
  case hqz429 => exact fun _ _ _ h => h
  case hyz429 => refine Or.inl ⟨by rfl, ?_⟩; intro w hSw; (try dsimp only at hSw); go_simp; try with_reducible rfl
  (try simp only [Act.put, List.setIfInBounds_toArray, List.set_cons_zero, List.set_cons_succ])
  refine wpAnyH_take (i := 7) (oi := ?oiz430) (v := ?vz430) ?hiz430 (by kernel_rfl) (by kernel_rfl) (by kernel_rfl) ?hqz430 ?hyz430 hHeld ?restz430
  case hiz430 => simp only [List.getElem?_toArray, List.getElem?_cons_succ, List.getElem?_cons_zero]; exact rfl
  case hqz430 => exact fun _ _ _ h => h
  case hyz430 => refine Or.inl ⟨by rfl, ?_⟩; intro w hSw; (try dsimp only at hSw); go_simp; try with_reducible rfl
  (try simp only [Act.put, List.setIfInBounds_toArray, List.set_cons_zero, List.set_cons_succ])
  refine wpAnyH_take (i := 8) (oi := ?oiz431) (v := ?vz431) ?hiz431 (by kernel_rfl) (by kernel_rfl) (by kernel_rfl) ?hqz431 ?hyz431 hHeld ?restz431
  case hiz431 => simp only [List.getElem?_toArray, List.getElem?_cons_succ, List.getElem?_cons_zero]; exact rfl
  case hqz431 => exact fun _ _ _ h => h
  case hyz431 => refine Or.inl ⟨by rfl, ?_⟩; intro w hSw; (try dsimp only at hSw); go_simp; try with_reducible rfl
  (try simp only [Act.put, List.setIfInBounds_toArray, List.set_cons_zero, List.set_cons_succ])
  refine wpAnyH_take (i := 9) (oi := ?oiz432) (v := ?vz432) ?hiz432 (by kernel_rfl) (by kernel_rfl) (by kernel_rfl) ?hqz432 ?hyz432 hHeld ?restz432
  case hiz432 => simp only [List.getElem?_toArray, List.getElem?_cons_succ, List.getElem?_cons_zero]; exact rfl
  case hqz432 => exact fun _ _ _ h => h
  case hyz432 => refine Or.inl ⟨by rfl, ?_⟩; intro w hSw; (try dsimp only at hSw); go_simp; try with_reducible rfl
  (try simp only [Act.put, List.setIfInBounds_toArray, List.set_cons_zero, List.set_cons_succ])
  refine wpAnyH_take (i := 10) (oi := ?oiz433) (v := ?vz433) ?hiz433 (by kernel_rfl) (by kernel_rfl) (by kernel_rfl) ?hqz433 ?hyz433 hHeld ?restz433
  case hiz433 => simp only [List.getElem?_toArray, List.getElem?_cons_succ, List.getElem?_cons_zero]; exact rfl
  case hqz433 => exact fun _ _ _ h => h
  case hyz433 => refine Or.inl ⟨by rfl, ?_⟩; intro w hSw; (try dsimp only at hSw); go_simp; try with_reducible rfl
  (try simp only [Act.put, List.setIfInBounds_toArray, List.set_cons_zero, List.set_cons_succ])
  refine wpAnyH_take (i := 11) (oi := ?oiz434) (v := ?vz434) ?hiz434 (by kernel_rfl) (by kernel_rfl) (by kernel_rfl) ?hqz434 ?hyz434 hHeld ?restz434
  case hiz434 => simp only [List.getElem?_toArray, List.getElem?_cons_succ, List.getElem?_cons_zero]; exact rfl
  case hqz434 => exact fun _ _ _ h => h
  case hyz434 => refine Or.inl ⟨by rfl, ?_⟩; intro w hSw; (try dsimp only at hSw); go_simp; try with_reducible rfl
  (try simp only [Act.put, List.setIfInBounds_toArray, List.set_cons_zero, List.set_cons_succ])
  refine wpAnyH_take (i := 12) (oi := ?oiz435) (v := ?vz435) ?hiz435 (by kernel_rfl) (by kernel_rfl) (by kernel_rfl) ?hqz435 ?hyz435 hHeld ?restz435
  case hiz435 => simp only [List.getElem?_toArray, List.getElem?_cons_succ, List.getElem?_cons_zero]; exact rfl
  case hqz435 => exact fun _ _ _ h => h
  case hyz435 => refine Or.inl ⟨by rfl, ?_⟩; intro w hSw; (try dsimp only at hSw); go_simp; try with_reducible rfl
  (try simp only [Act.put, List.setIfInBounds_toArray, List.set_cons_zero, List.set_cons_succ])
  refine wpAnyH_take (i := 13) (oi := ?oiz436) (v := ?vz436) ?hiz436 (by kernel_rfl) (by kernel_rfl) (by kernel_rfl) ?hqz436 ?hyz436 hHeld ?restz436
  case hiz436 => simp only [List.getElem?_toArray, List.getElem?_cons_succ, List.getElem?_cons_zero]; exact rfl
  case hqz436 => exact fun _ _ _ h => h
  case hyz436 => refine Or.inl ⟨by rfl, ?_⟩; intro w hSw; (try dsimp only at hSw); go_simp; try with_reducible rfl
  (try simp only [Act.put, List.setIfInBounds_toArray, List.set_cons_zero, List.set_cons_succ])
  refine wpAnyH_take (i := 14) (oi := ?oiz437) (v := ?vz437) ?hiz437 (by kernel_rfl) (by kernel_rfl) (by kernel_rfl) ?hqz437 ?hyz437 hHeld ?restz437
  case hiz437 => simp only [List.getElem?_toArray, List.getElem?_cons_succ, List.getElem?_cons_zero]; exact rfl
  case hqz437 => exact fun _ _ _ h => h
  case hyz437 => refine Or.inl ⟨by rfl, ?_⟩; intro w hSw; (try dsimp only at hSw); go_simp; try with_reducible rfl
  (try simp only [Act.put, List.setIfInBounds_toArray, List.set_cons_zero, List.set_cons_succ])
  refine wpAnyH_take (i := 15) (oi := ?oiz438) (v := ?vz438) ?hiz438 (by kernel_rfl) (by kernel_rfl) (by kernel_rfl) ?hqz438 ?hyz438 hHeld ?restz438
  case hiz438 => simp only [List.getElem?_toArray, List.getElem?_cons_succ, List.getElem?_cons_zero]; exact rfl
  case hqz438 => exact fun _ _ _ h => h
  case hyz438 => refine Or.inl ⟨by rfl, ?_⟩; intro w hSw; (try dsimp only at hSw); go_simp; try with_reducible rfl
  (try simp only [Act.put, List.setIfInBounds_toArray, List.set_cons_zero, List.set_cons_succ])
  refine wpAnyH_take (i := 16) (oi := ?oiz439) (v := ?vz439) ?hiz439 (by kernel_rfl) (by kernel_rfl) (by kernel_rfl) ?hqz439 ?hyz439 hHeld ?restz439
  case hiz439 => simp only [List.getElem?_toArray, List.getElem?_cons_succ, List.getElem?_cons_zero]; exact rfl
  case hqz439 => exact fun _ _ _ h => h
  case hyz439 => refine Or.inl ⟨by rfl, ?_⟩; intro w hSw; have phEa := ent_grew hSw hEa; have qhEa := box2_c0 phEa; have rhEa := box2_c1 phEa; have phEb := ent_grew hSw hEb; have qhEb := box2_c0 phEb; have rhEb := box2_c1 phEb; go_simp; try with_reducible rfl
  (try simp only [Act.put, List.setIfInBounds_toArray, List.set_cons_zero, List.set_cons_succ])
  refine wpAnyH_take (i := 17) (oi := ?oiz440) (v := ?vz440) ?hiz440 (by kernel_rfl) (by kernel_rfl) (by kernel_rfl) ?hqz440 ?hyz440 hHeld ?restz440
  case hiz440 => simp only [List.getElem?_toArray, List.getElem?_cons_succ, List.getElem?_cons_zero]; exact rfl
  case hqz440 => exact fun _ _ _ h => h
  case hyz440 => refine Or.inl ⟨by rfl, ?_⟩; intro w hSw; have phEa := ent_grew hSw hEa; have qhEa := box2_c0 phEa; have rhEa := box2_c1 phEa; have phEb := ent_grew hSw hEb; have qhEb := box2_c0 phEb; have rhEb := box2_c1 phEb; go_simp; try with_reducible rfl
  (try simp only [Act.put, List.setIfInBounds_toArray, List.set_cons_zero, List.set_cons_succ])
  refine wpAnyH_take (i := 19) (oi := ?oiz441) (v := ?vz441) ?hiz441 (by kernel_rfl) (by kernel_rfl) (by kernel_rfl) ?hqz441 ?hyz441 hHeld ?restz441
  case hiz441 => simp only [List.getElem?_toArray, List.getElem?_cons_succ, List.getElem?_cons_zero]; exact rfl
  case hqz441 => exact fun _ _ _ h => h
  case hyz441 => refine Or.inl ⟨by rfl, ?_⟩; intro w hSw; (try dsimp only at hSw); go_simp; try with_reducible rfl
  (try simp only [Act.put, List.setIfInBounds_toArray, List.set_cons_zero, List.set_cons_succ])
  refine wpAnyH_ready (rs := [18]) (by kernel_rfl) (by simp) ?_
  refine AllReadyH.cons (o := ?oiz442) ?hiz442 (fun K hK => ?stepz442) AllReadyH.nil
  case hiz442 => simp only [List.getElem?_toArray, List.getElem?_cons_succ, List.getElem?_cons_zero]; exact rfl
  go_simp
  (go_at_call 29; refine (zcmp (ha.grew hHeld) (hbz.grew hHeld) (by omega) (by omega)).mono ?_; rintro e v4 ⟨rfl, hv4⟩; rw [HCZ.out])
  refine hK.out _ _ ?hSz442 (fun hHeld' => ?restz442)
  case hSz442 => (try dsimp only); (first | exact (Grew.refl _).drew | exact Grew.call hHeld ‹Below _ _ _›)
  clear hK K hHeld
  have hHeld := hHeld'
  clear hHeld'
  (try simp only [Act.put, List.setIfInBounds_toArray, List.set_cons_zero, List.set_cons_succ])
  refine wpAnyH_take (i := 20) (oi := ?oiz443) (v := ?vz443) ?hiz443 (by kernel_rfl) (by kernel_rfl) (by kernel_rfl) ?hqz443 ?hyz443 hHeld ?restz443
  case hiz443 => simp only [List.getElem?_toArray, List.getElem?_cons_succ, List.getElem?_cons_zero]; exact rfl
  case hqz443 => exact fun _ _ _ h => h
  case hyz443 => refine Or.inl ⟨by rfl, ?_⟩; intro w hSw; (try dsimp only at hSw); go_simp; try with_reducible rfl
  (try simp only [Act.put, List.setIfInBounds_toArray, List.set_cons_zero, List.set_cons_succ])
  refine wpAnyH_take (i := 21) (oi := ?oiz444) (v := ?vz444) ?hiz444 (by kernel_rfl) (by kernel_rfl) (by kernel_rfl) ?hqz444 ?hyz444 hHeld ?restz444
  case hiz444 => simp only [List.getElem?_toArray, List.getElem?_cons_succ, List.getElem?_cons_zero]; exact rfl
  case hqz444 => exact fun _ _ _ h => h
  case hyz444 => refine Or.inl ⟨by rfl, ?_⟩; intro w hSw; (try dsimp only at hSw); go_simp; try with_reducible rfl
  (try simp only [Act.put, List.setIfInBounds_toArray, List.set_cons_zero, List.set_cons_succ])
  refine wpAnyH_take (i := 22) (oi := ?oiz445) (v := ?vz445) ?hiz445 (by kernel_rfl) (by kernel_rfl) (by kernel_rfl) ?hqz445 ?hyz445 hHeld ?restz445
  case hiz445 => simp only [List.getElem?_toArray, List.getElem?_cons_succ, List.getElem?_cons_zero]; exact rfl
  case hqz445 => exact fun _ _ _ h => h
  case hyz445 => refine Or.inl ⟨by rfl, ?_⟩; intro w hSw; (try dsimp only at hSw); go_simp; try with_reducible rfl
  (try simp only [Act.put, List.setIfInBounds_toArray, List.set_cons_zero, List.set_cons_succ])
  refine wpAnyH_done (by kernel_rfl) ?_ _
  have hq9 := hB.trans hHeld
  clear hHeld
  go_wp2
  go_ret
  exact ⟨rfl, hq9⟩

set_option maxRecDepth 100000 in
set_option maxHeartbeats 1600000 in
theorem zedSmall_eq {w : World} (n m : Int) (hn : -9223372036854775808 ≤ n ∧ n < 9223372036854775808) (hm : -9223372036854775808 ≤ m ∧ m < 9223372036854775808) (hc : n = m) :
    Calls Try.prog 7 #[.int .i64 n, .int .i64 m] w fun e w' => e = .returned (.bool true) ∧ Below w.heap.size w w' := by
  have hcz : cmpZ n m = 0 := by unfold cmpZ; rw [if_neg (by omega), if_pos hc]
  have HCZ := Lib.hid hcz
  clear hcz
  have h1 : decide (n < m) = false := decide_eq_false (by omega)
  have h2 : decide (m < n) = false := decide_eq_false (by omega)
  clear hc
  have hB := Grew.refl w
  go_enter Try.func7, Try.ntmps7
  go_wp2_with fail
  refine (zof n _ hn.1 hn.2).mono ?_
  rintro e w1 ⟨a, da, rfl, ha, han, hb1⟩
  have ha1 : Grew w1 (w1) := Grew.refl w1
  have hg1' := (Grew.call (Grew.refl _) hb1).trans ha1
  replace ha := ha.grew ha1
  replace hB := hB.trans hg1'
  clear hg1' ha1 hb1
  go_wp2_with fail
  refine (zof m _ hm.1 hm.2).mono ?_
  rintro e w2 ⟨b, db, rfl, hbz, hbn, hb2⟩
  have ha2 : Grew w2 (((w2.alloc (.cells #[.slice a.ao a.n a.c, .bool da] 33)).alloc (.cells #[.slice b.ao b.n b.c, .bool db] 33))) := ((Grew.refl w2).alloc (.cells #[.slice a.ao a.n a.c, .bool da] 33)).alloc (.cells #[.slice b.ao b.n b.c, .bool db] 33)
  have hg2' := (Grew.call (Grew.refl _) hb2).trans ha2
  replace ha := ha.grew hg2'
  replace hbz := hbz.grew ha2
  obtain ⟨hEa, hEb, -⟩ := ents2 w2 (.cells #[.slice a.ao a.n a.c, .bool da] 33) (.cells #[.slice b.ao b.n b.c, .bool db] 33)
  replace hB := hB.trans hg2'
  clear hg2' ha2 hb2
  have chEaa := box2_c0 hEa
  have chEab := box2_c1 hEa
  have chEba := box2_c0 hEb
  have chEbb := box2_c1 hEb
  go_wp2_with fail
  generalize ((w2.alloc (.cells #[.slice a.ao a.n a.c, .bool da] 33)).alloc (.cells #[.slice b.ao b.n b.c, .bool db] 33)) = W2 at *
  refine (zsmall_in ha hn.1 hn.2).mono ?_
  rintro e w3 ⟨rfl, hb3⟩
  have ha3 : Grew w3 (w3) := Grew.refl w3
  have hg3' := (Grew.call (Grew.refl _) hb3).trans ha3
  replace ha := ha.grew hg3'
  replace hbz := hbz.grew hg3'
  replace hEa := ent_grew hg3' hEa
  replace hEb := ent_grew hg3' hEb
  replace hB := hB.trans hg3'
  clear hg3' ha3 hb3 chEaa chEab chEba chEbb
  have chEaa := box2_c0 hEa
  have chEab := box2_c1 hEa
  have chEba := box2_c0 hEb
  have chEbb := box2_c1 hEb
  go_upto_region 8 with fail
  clear chEaa chEab chEba chEbb
  refine wp_region_held_drew (S := (fun w' => Grew w3 w')) (by kernel_rfl) ?hSz446 (fun hHeld => ?restz446)
  case hSz446 => (try dsimp only); (first | exact (Grew.refl _).drew | exact Grew.call hHeld ‹Below _ _ _›)
  refine wpAnyH_ready (rs := [0]) (by kernel_rfl) (by simp) ?_
  refine AllReadyH.cons (o := ?oiz447) ?hiz447 (fun K hK => ?stepz447) AllReadyH.nil
  case hiz447 => simp only [List.getElem?_toArray, List.getElem?_cons_zero]; exact rfl
  go_simp
  (go_at_call 16; refine zknown.mono ?_; rintro e v1 ⟨rfl, hv1⟩)
  refine hK.out _ _ ?hSz447 (fun hHeld' => ?restz447)
  case hSz447 => (try dsimp only); (first | exact (Grew.refl _).drew | exact Grew.call hHeld ‹Below _ _ _›)
  clear hK K hHeld
  have hHeld := hHeld'
  clear hHeld'
  (try simp only [Act.put, List.setIfInBounds_toArray, List.set_cons_zero, List.set_cons_succ])
  refine wpAnyH_take (i := 1) (oi := ?oiz448) (v := ?vz448) ?hiz448 (by kernel_rfl) (by kernel_rfl) (by kernel_rfl) ?hqz448 ?hyz448 hHeld ?restz448
  case hiz448 => simp only [List.getElem?_toArray, List.getElem?_cons_succ, List.getElem?_cons_zero]; exact rfl
  case hqz448 => exact fun _ _ _ h => h
  case hyz448 => refine Or.inl ⟨by rfl, ?_⟩; intro w hSw; (try dsimp only at hSw); go_simp; try with_reducible rfl
  (try simp only [Act.put, List.setIfInBounds_toArray, List.set_cons_zero, List.set_cons_succ])
  refine wpAnyH_take (i := 2) (oi := ?oiz449) (v := ?vz449) ?hiz449 (by kernel_rfl) (by kernel_rfl) (by kernel_rfl) ?hqz449 ?hyz449 hHeld ?restz449
  case hiz449 => simp only [List.getElem?_toArray, List.getElem?_cons_succ, List.getElem?_cons_zero]; exact rfl
  case hqz449 => exact fun _ _ _ h => h
  case hyz449 => refine Or.inl ⟨by rfl, ?_⟩; intro w hSw; have phEa := ent_grew hSw hEa; have qhEa := box2_c0 phEa; have rhEa := box2_c1 phEa; have phEb := ent_grew hSw hEb; have qhEb := box2_c0 phEb; have rhEb := box2_c1 phEb; go_simp; try with_reducible rfl
  (try simp only [Act.put, List.setIfInBounds_toArray, List.set_cons_zero, List.set_cons_succ])
  refine wpAnyH_take (i := 3) (oi := ?oiz450) (v := ?vz450) ?hiz450 (by kernel_rfl) (by kernel_rfl) (by kernel_rfl) ?hqz450 ?hyz450 hHeld ?restz450
  case hiz450 => simp only [List.getElem?_toArray, List.getElem?_cons_succ, List.getElem?_cons_zero]; exact rfl
  case hqz450 => exact fun _ _ _ h => h
  case hyz450 => refine Or.inl ⟨by rfl, ?_⟩; intro w hSw; (try dsimp only at hSw); go_simp; try with_reducible rfl
  (try simp only [Act.put, List.setIfInBounds_toArray, List.set_cons_zero, List.set_cons_succ])
  refine wpAnyH_ready (rs := [4]) (by kernel_rfl) (by simp) ?_
  refine AllReadyH.cons (o := ?oiz451) ?hiz451 (fun K hK => ?stepz451) AllReadyH.nil
  case hiz451 => simp only [List.getElem?_toArray, List.getElem?_cons_succ, List.getElem?_cons_zero]; exact rfl
  go_simp
  (go_at_call 35; refine (rzof n _ hn.1 hn.2).mono ?_; rintro e v2 ⟨x, S, rfl, hx, hxn, hv2⟩)
  refine hK.out _ _ ?hSz451 (fun hHeld' => ?restz451)
  case hSz451 => (try dsimp only); (first | exact (Grew.refl _).drew | exact Grew.call hHeld ‹Below _ _ _›)
  clear hK K hHeld
  have hHeld := hHeld'
  clear hHeld'
  (try simp only [Act.put, List.setIfInBounds_toArray, List.set_cons_zero, List.set_cons_succ])
  refine wpAnyH_ready (rs := [5]) (by kernel_rfl) (by simp) ?_
  refine AllReadyH.cons (o := ?oiz452) ?hiz452 (fun K hK => ?stepz452) AllReadyH.nil
  case hiz452 => simp only [List.getElem?_toArray, List.getElem?_cons_succ, List.getElem?_cons_zero]; exact rfl
  go_simp
  (go_at_call 19; refine (zsame (ha.grew hHeld) hx (by omega) (by omega)).mono ?_; rintro e v3 ⟨rfl, hv3⟩)
  refine hK.out _ _ ?hSz452 (fun hHeld' => ?restz452)
  case hSz452 => (try dsimp only); (first | exact (Grew.refl _).drew | exact Grew.call hHeld ‹Below _ _ _›)
  clear hK K hHeld
  have hHeld := hHeld'
  clear hHeld'
  (try simp only [Act.put, List.setIfInBounds_toArray, List.set_cons_zero, List.set_cons_succ])
  refine wpAnyH_take (i := 6) (oi := ?oiz453) (v := ?vz453) ?hiz453 (by kernel_rfl) (by kernel_rfl) (by kernel_rfl) ?hqz453 ?hyz453 hHeld ?restz453
  case hiz453 => simp only [List.getElem?_toArray, List.getElem?_cons_succ, List.getElem?_cons_zero]; exact rfl
  case hqz453 => exact fun _ _ _ h => h
  case hyz453 => refine Or.inl ⟨by rfl, ?_⟩; intro w hSw; (try dsimp only at hSw); go_simp; try with_reducible rfl
  (try simp only [Act.put, List.setIfInBounds_toArray, List.set_cons_zero, List.set_cons_succ])
  refine wpAnyH_take (i := 7) (oi := ?oiz454) (v := ?vz454) ?hiz454 (by kernel_rfl) (by kernel_rfl) (by kernel_rfl) ?hqz454 ?hyz454 hHeld ?restz454
  case hiz454 => simp only [List.getElem?_toArray, List.getElem?_cons_succ, List.getElem?_cons_zero]; exact rfl
  case hqz454 => exact fun _ _ _ h => h
  case hyz454 => refine Or.inl ⟨by rfl, ?_⟩; intro w hSw; (try dsimp only at hSw); go_simp; try with_reducible rfl
  (try simp only [Act.put, List.setIfInBounds_toArray, List.set_cons_zero, List.set_cons_succ])
  refine wpAnyH_take (i := 8) (oi := ?oiz455) (v := ?vz455) ?hiz455 (by kernel_rfl) (by kernel_rfl) (by kernel_rfl) ?hqz455 ?hyz455 hHeld ?restz455
  case hiz455 => simp only [List.getElem?_toArray, List.getElem?_cons_succ, List.getElem?_cons_zero]; exact rfl
  case hqz455 => exact fun _ _ _ h => h
  case hyz455 => refine Or.inl ⟨by rfl, ?_⟩; intro w hSw; (try dsimp only at hSw); go_simp; try with_reducible rfl
  (try simp only [Act.put, List.setIfInBounds_toArray, List.set_cons_zero, List.set_cons_succ])
  refine wpAnyH_take (i := 9) (oi := ?oiz456) (v := ?vz456) ?hiz456 (by kernel_rfl) (by kernel_rfl) (by kernel_rfl) ?hqz456 ?hyz456 hHeld ?restz456
  case hiz456 => simp only [List.getElem?_toArray, List.getElem?_cons_succ, List.getElem?_cons_zero]; exact rfl
  case hqz456 => exact fun _ _ _ h => h
  case hyz456 => refine Or.inl ⟨by rfl, ?_⟩; intro w hSw; (try dsimp only at hSw); go_simp; try with_reducible rfl
  (try simp only [Act.put, List.setIfInBounds_toArray, List.set_cons_zero, List.set_cons_succ])
  refine wpAnyH_take (i := 10) (oi := ?oiz457) (v := ?vz457) ?hiz457 (by kernel_rfl) (by kernel_rfl) (by kernel_rfl) ?hqz457 ?hyz457 hHeld ?restz457
  case hiz457 => simp only [List.getElem?_toArray, List.getElem?_cons_succ, List.getElem?_cons_zero]; exact rfl
  case hqz457 => exact fun _ _ _ h => h
  case hyz457 => refine Or.inl ⟨by rfl, ?_⟩; intro w hSw; (try dsimp only at hSw); go_simp; try with_reducible rfl
  (try simp only [Act.put, List.setIfInBounds_toArray, List.set_cons_zero, List.set_cons_succ])
  refine wpAnyH_take (i := 11) (oi := ?oiz458) (v := ?vz458) ?hiz458 (by kernel_rfl) (by kernel_rfl) (by kernel_rfl) ?hqz458 ?hyz458 hHeld ?restz458
  case hiz458 => simp only [List.getElem?_toArray, List.getElem?_cons_succ, List.getElem?_cons_zero]; exact rfl
  case hqz458 => exact fun _ _ _ h => h
  case hyz458 => refine Or.inl ⟨by rfl, ?_⟩; intro w hSw; (try dsimp only at hSw); go_simp; try with_reducible rfl
  (try simp only [Act.put, List.setIfInBounds_toArray, List.set_cons_zero, List.set_cons_succ])
  refine wpAnyH_take (i := 12) (oi := ?oiz459) (v := ?vz459) ?hiz459 (by kernel_rfl) (by kernel_rfl) (by kernel_rfl) ?hqz459 ?hyz459 hHeld ?restz459
  case hiz459 => simp only [List.getElem?_toArray, List.getElem?_cons_succ, List.getElem?_cons_zero]; exact rfl
  case hqz459 => exact fun _ _ _ h => h
  case hyz459 => refine Or.inl ⟨by rfl, ?_⟩; intro w hSw; (try dsimp only at hSw); go_simp; try with_reducible rfl
  (try simp only [Act.put, List.setIfInBounds_toArray, List.set_cons_zero, List.set_cons_succ])
  refine wpAnyH_take (i := 13) (oi := ?oiz460) (v := ?vz460) ?hiz460 (by kernel_rfl) (by kernel_rfl) (by kernel_rfl) ?hqz460 ?hyz460 hHeld ?restz460
  case hiz460 => simp only [List.getElem?_toArray, List.getElem?_cons_succ, List.getElem?_cons_zero]; exact rfl
  case hqz460 => exact fun _ _ _ h => h
  case hyz460 => refine Or.inl ⟨by rfl, ?_⟩; intro w hSw; (try dsimp only at hSw); go_simp; try with_reducible rfl
  (try simp only [Act.put, List.setIfInBounds_toArray, List.set_cons_zero, List.set_cons_succ])
  refine wpAnyH_take (i := 14) (oi := ?oiz461) (v := ?vz461) ?hiz461 (by kernel_rfl) (by kernel_rfl) (by kernel_rfl) ?hqz461 ?hyz461 hHeld ?restz461
  case hiz461 => simp only [List.getElem?_toArray, List.getElem?_cons_succ, List.getElem?_cons_zero]; exact rfl
  case hqz461 => exact fun _ _ _ h => h
  case hyz461 => refine Or.inl ⟨by rfl, ?_⟩; intro w hSw; (try dsimp only at hSw); go_simp; try with_reducible rfl
  (try simp only [Act.put, List.setIfInBounds_toArray, List.set_cons_zero, List.set_cons_succ])
  refine wpAnyH_take (i := 15) (oi := ?oiz462) (v := ?vz462) ?hiz462 (by kernel_rfl) (by kernel_rfl) (by kernel_rfl) ?hqz462 ?hyz462 hHeld ?restz462
  case hiz462 => simp only [List.getElem?_toArray, List.getElem?_cons_succ, List.getElem?_cons_zero]; exact rfl
  case hqz462 => exact fun _ _ _ h => h
  case hyz462 => refine Or.inl ⟨by rfl, ?_⟩; intro w hSw; (try dsimp only at hSw); go_simp; try with_reducible rfl
  (try simp only [Act.put, List.setIfInBounds_toArray, List.set_cons_zero, List.set_cons_succ])
  refine wpAnyH_take (i := 16) (oi := ?oiz463) (v := ?vz463) ?hiz463 (by kernel_rfl) (by kernel_rfl) (by kernel_rfl) ?hqz463 ?hyz463 hHeld ?restz463
  case hiz463 => simp only [List.getElem?_toArray, List.getElem?_cons_succ, List.getElem?_cons_zero]; exact rfl
  case hqz463 => exact fun _ _ _ h => h
  case hyz463 => refine Or.inl ⟨by rfl, ?_⟩; intro w hSw; have phEa := ent_grew hSw hEa; have qhEa := box2_c0 phEa; have rhEa := box2_c1 phEa; have phEb := ent_grew hSw hEb; have qhEb := box2_c0 phEb; have rhEb := box2_c1 phEb; go_simp; try with_reducible rfl
  (try simp only [Act.put, List.setIfInBounds_toArray, List.set_cons_zero, List.set_cons_succ])
  refine wpAnyH_take (i := 17) (oi := ?oiz464) (v := ?vz464) ?hiz464 (by kernel_rfl) (by kernel_rfl) (by kernel_rfl) ?hqz464 ?hyz464 hHeld ?restz464
  case hiz464 => simp only [List.getElem?_toArray, List.getElem?_cons_succ, List.getElem?_cons_zero]; exact rfl
  case hqz464 => exact fun _ _ _ h => h
  case hyz464 => refine Or.inl ⟨by rfl, ?_⟩; intro w hSw; have phEa := ent_grew hSw hEa; have qhEa := box2_c0 phEa; have rhEa := box2_c1 phEa; have phEb := ent_grew hSw hEb; have qhEb := box2_c0 phEb; have rhEb := box2_c1 phEb; go_simp; try with_reducible rfl
  (try simp only [Act.put, List.setIfInBounds_toArray, List.set_cons_zero, List.set_cons_succ])
  refine wpAnyH_take (i := 19) (oi := ?oiz465) (v := ?vz465) ?hiz465 (by kernel_rfl) (by kernel_rfl) (by kernel_rfl) ?hqz465 ?hyz465 hHeld ?restz465
  case hiz465 => simp only [List.getElem?_toArray, List.getElem?_cons_succ, List.getElem?_cons_zero]; exact rfl
  case hqz465 => exact fun _ _ _ h => h
  case hyz465 => refine Or.inl ⟨by rfl, ?_⟩; intro w hSw; (try dsimp only at hSw); go_simp; try with_reducible rfl
  (try simp only [Act.put, List.setIfInBounds_toArray, List.set_cons_zero, List.set_cons_succ])
  refine wpAnyH_ready (rs := [18]) (by kernel_rfl) (by simp) ?_
  refine AllReadyH.cons (o := ?oiz466) ?hiz466 (fun K hK => ?stepz466) AllReadyH.nil
  case hiz466 => simp only [List.getElem?_toArray, List.getElem?_cons_succ, List.getElem?_cons_zero]; exact rfl
  go_simp
  (go_at_call 29; refine (zcmp (ha.grew hHeld) (hbz.grew hHeld) (by omega) (by omega)).mono ?_; rintro e v4 ⟨rfl, hv4⟩; rw [HCZ.out])
  refine hK.out _ _ ?hSz466 (fun hHeld' => ?restz466)
  case hSz466 => (try dsimp only); (first | exact (Grew.refl _).drew | exact Grew.call hHeld ‹Below _ _ _›)
  clear hK K hHeld
  have hHeld := hHeld'
  clear hHeld'
  (try simp only [Act.put, List.setIfInBounds_toArray, List.set_cons_zero, List.set_cons_succ])
  refine wpAnyH_take (i := 20) (oi := ?oiz467) (v := ?vz467) ?hiz467 (by kernel_rfl) (by kernel_rfl) (by kernel_rfl) ?hqz467 ?hyz467 hHeld ?restz467
  case hiz467 => simp only [List.getElem?_toArray, List.getElem?_cons_succ, List.getElem?_cons_zero]; exact rfl
  case hqz467 => exact fun _ _ _ h => h
  case hyz467 => refine Or.inl ⟨by rfl, ?_⟩; intro w hSw; (try dsimp only at hSw); go_simp; try with_reducible rfl
  (try simp only [Act.put, List.setIfInBounds_toArray, List.set_cons_zero, List.set_cons_succ])
  refine wpAnyH_take (i := 21) (oi := ?oiz468) (v := ?vz468) ?hiz468 (by kernel_rfl) (by kernel_rfl) (by kernel_rfl) ?hqz468 ?hyz468 hHeld ?restz468
  case hiz468 => simp only [List.getElem?_toArray, List.getElem?_cons_succ, List.getElem?_cons_zero]; exact rfl
  case hqz468 => exact fun _ _ _ h => h
  case hyz468 => refine Or.inl ⟨by rfl, ?_⟩; intro w hSw; (try dsimp only at hSw); go_simp; try with_reducible rfl
  (try simp only [Act.put, List.setIfInBounds_toArray, List.set_cons_zero, List.set_cons_succ])
  refine wpAnyH_take (i := 22) (oi := ?oiz469) (v := ?vz469) ?hiz469 (by kernel_rfl) (by kernel_rfl) (by kernel_rfl) ?hqz469 ?hyz469 hHeld ?restz469
  case hiz469 => simp only [List.getElem?_toArray, List.getElem?_cons_succ, List.getElem?_cons_zero]; exact rfl
  case hqz469 => exact fun _ _ _ h => h
  case hyz469 => refine Or.inl ⟨by rfl, ?_⟩; intro w hSw; (try dsimp only at hSw); go_simp; try with_reducible rfl
  (try simp only [Act.put, List.setIfInBounds_toArray, List.set_cons_zero, List.set_cons_succ])
  refine wpAnyH_done (by kernel_rfl) ?_ _
  have hq9 := hB.trans hHeld
  clear hHeld
  go_wp2
  go_ret
  exact ⟨rfl, hq9⟩

set_option maxRecDepth 100000 in
set_option maxHeartbeats 1600000 in
theorem zedSmall_gt {w : World} (n m : Int) (hn : -9223372036854775808 ≤ n ∧ n < 9223372036854775808) (hm : -9223372036854775808 ≤ m ∧ m < 9223372036854775808) (hc : m < n) :
    Calls Try.prog 7 #[.int .i64 n, .int .i64 m] w fun e w' => e = .returned (.bool true) ∧ Below w.heap.size w w' := by
  have hcz : cmpZ n m = 1 := by unfold cmpZ; rw [if_neg (by omega), if_neg (by omega)]
  have HCZ := Lib.hid hcz
  clear hcz
  have h1 : decide (n < m) = false := decide_eq_false (by omega)
  have h2 : m < n := hc
  have hB := Grew.refl w
  go_enter Try.func7, Try.ntmps7
  go_wp2_with fail
  refine (zof n _ hn.1 hn.2).mono ?_
  rintro e w1 ⟨a, da, rfl, ha, han, hb1⟩
  have ha1 : Grew w1 (w1) := Grew.refl w1
  have hg1' := (Grew.call (Grew.refl _) hb1).trans ha1
  replace ha := ha.grew ha1
  replace hB := hB.trans hg1'
  clear hg1' ha1 hb1
  go_wp2_with fail
  refine (zof m _ hm.1 hm.2).mono ?_
  rintro e w2 ⟨b, db, rfl, hbz, hbn, hb2⟩
  have ha2 : Grew w2 (((w2.alloc (.cells #[.slice a.ao a.n a.c, .bool da] 33)).alloc (.cells #[.slice b.ao b.n b.c, .bool db] 33))) := ((Grew.refl w2).alloc (.cells #[.slice a.ao a.n a.c, .bool da] 33)).alloc (.cells #[.slice b.ao b.n b.c, .bool db] 33)
  have hg2' := (Grew.call (Grew.refl _) hb2).trans ha2
  replace ha := ha.grew hg2'
  replace hbz := hbz.grew ha2
  obtain ⟨hEa, hEb, -⟩ := ents2 w2 (.cells #[.slice a.ao a.n a.c, .bool da] 33) (.cells #[.slice b.ao b.n b.c, .bool db] 33)
  replace hB := hB.trans hg2'
  clear hg2' ha2 hb2
  have chEaa := box2_c0 hEa
  have chEab := box2_c1 hEa
  have chEba := box2_c0 hEb
  have chEbb := box2_c1 hEb
  go_wp2_with fail
  generalize ((w2.alloc (.cells #[.slice a.ao a.n a.c, .bool da] 33)).alloc (.cells #[.slice b.ao b.n b.c, .bool db] 33)) = W2 at *
  refine (zsmall_in ha hn.1 hn.2).mono ?_
  rintro e w3 ⟨rfl, hb3⟩
  have ha3 : Grew w3 (w3) := Grew.refl w3
  have hg3' := (Grew.call (Grew.refl _) hb3).trans ha3
  replace ha := ha.grew hg3'
  replace hbz := hbz.grew hg3'
  replace hEa := ent_grew hg3' hEa
  replace hEb := ent_grew hg3' hEb
  replace hB := hB.trans hg3'
  clear hg3' ha3 hb3 chEaa chEab chEba chEbb
  have chEaa := box2_c0 hEa
  have chEab := box2_c1 hEa
  have chEba := box2_c0 hEb
  have chEbb := box2_c1 hEb
  go_upto_region 8 with fail
  clear chEaa chEab chEba chEbb
  refine wp_region_held_drew (S := (fun w' => Grew w3 w')) (by kernel_rfl) ?hSz470 (fun hHeld => ?restz470)
  case hSz470 => (try dsimp only); (first | exact (Grew.refl _).drew | exact Grew.call hHeld ‹Below _ _ _›)
  refine wpAnyH_ready (rs := [0]) (by kernel_rfl) (by simp) ?_
  refine AllReadyH.cons (o := ?oiz471) ?hiz471 (fun K hK => ?stepz471) AllReadyH.nil
  case hiz471 => simp only [List.getElem?_toArray, List.getElem?_cons_zero]; exact rfl
  go_simp
  (go_at_call 16; refine zknown.mono ?_; rintro e v1 ⟨rfl, hv1⟩)
  refine hK.out _ _ ?hSz471 (fun hHeld' => ?restz471)
  case hSz471 => (try dsimp only); (first | exact (Grew.refl _).drew | exact Grew.call hHeld ‹Below _ _ _›)
  clear hK K hHeld
  have hHeld := hHeld'
  clear hHeld'
  (try simp only [Act.put, List.setIfInBounds_toArray, List.set_cons_zero, List.set_cons_succ])
  refine wpAnyH_take (i := 1) (oi := ?oiz472) (v := ?vz472) ?hiz472 (by kernel_rfl) (by kernel_rfl) (by kernel_rfl) ?hqz472 ?hyz472 hHeld ?restz472
  case hiz472 => simp only [List.getElem?_toArray, List.getElem?_cons_succ, List.getElem?_cons_zero]; exact rfl
  case hqz472 => exact fun _ _ _ h => h
  case hyz472 => refine Or.inl ⟨by rfl, ?_⟩; intro w hSw; (try dsimp only at hSw); go_simp; try with_reducible rfl
  (try simp only [Act.put, List.setIfInBounds_toArray, List.set_cons_zero, List.set_cons_succ])
  refine wpAnyH_take (i := 2) (oi := ?oiz473) (v := ?vz473) ?hiz473 (by kernel_rfl) (by kernel_rfl) (by kernel_rfl) ?hqz473 ?hyz473 hHeld ?restz473
  case hiz473 => simp only [List.getElem?_toArray, List.getElem?_cons_succ, List.getElem?_cons_zero]; exact rfl
  case hqz473 => exact fun _ _ _ h => h
  case hyz473 => refine Or.inl ⟨by rfl, ?_⟩; intro w hSw; have phEa := ent_grew hSw hEa; have qhEa := box2_c0 phEa; have rhEa := box2_c1 phEa; have phEb := ent_grew hSw hEb; have qhEb := box2_c0 phEb; have rhEb := box2_c1 phEb; go_simp; try with_reducible rfl
  (try simp only [Act.put, List.setIfInBounds_toArray, List.set_cons_zero, List.set_cons_succ])
  refine wpAnyH_take (i := 3) (oi := ?oiz474) (v := ?vz474) ?hiz474 (by kernel_rfl) (by kernel_rfl) (by kernel_rfl) ?hqz474 ?hyz474 hHeld ?restz474
  case hiz474 => simp only [List.getElem?_toArray, List.getElem?_cons_succ, List.getElem?_cons_zero]; exact rfl
  case hqz474 => exact fun _ _ _ h => h
  case hyz474 => refine Or.inl ⟨by rfl, ?_⟩; intro w hSw; (try dsimp only at hSw); go_simp; try with_reducible rfl
  (try simp only [Act.put, List.setIfInBounds_toArray, List.set_cons_zero, List.set_cons_succ])
  refine wpAnyH_ready (rs := [4]) (by kernel_rfl) (by simp) ?_
  refine AllReadyH.cons (o := ?oiz475) ?hiz475 (fun K hK => ?stepz475) AllReadyH.nil
  case hiz475 => simp only [List.getElem?_toArray, List.getElem?_cons_succ, List.getElem?_cons_zero]; exact rfl
  go_simp
  (go_at_call 35; refine (rzof n _ hn.1 hn.2).mono ?_; rintro e v2 ⟨x, S, rfl, hx, hxn, hv2⟩)
  refine hK.out _ _ ?hSz475 (fun hHeld' => ?restz475)
  case hSz475 => (try dsimp only); (first | exact (Grew.refl _).drew | exact Grew.call hHeld ‹Below _ _ _›)
  clear hK K hHeld
  have hHeld := hHeld'
  clear hHeld'
  (try simp only [Act.put, List.setIfInBounds_toArray, List.set_cons_zero, List.set_cons_succ])
  refine wpAnyH_ready (rs := [5]) (by kernel_rfl) (by simp) ?_
  refine AllReadyH.cons (o := ?oiz476) ?hiz476 (fun K hK => ?stepz476) AllReadyH.nil
  case hiz476 => simp only [List.getElem?_toArray, List.getElem?_cons_succ, List.getElem?_cons_zero]; exact rfl
  go_simp
  (go_at_call 19; refine (zsame (ha.grew hHeld) hx (by omega) (by omega)).mono ?_; rintro e v3 ⟨rfl, hv3⟩)
  refine hK.out _ _ ?hSz476 (fun hHeld' => ?restz476)
  case hSz476 => (try dsimp only); (first | exact (Grew.refl _).drew | exact Grew.call hHeld ‹Below _ _ _›)
  clear hK K hHeld
  have hHeld := hHeld'
  clear hHeld'
  (try simp only [Act.put, List.setIfInBounds_toArray, List.set_cons_zero, List.set_cons_succ])
  refine wpAnyH_take (i := 6) (oi := ?oiz477) (v := ?vz477) ?hiz477 (by kernel_rfl) (by kernel_rfl) (by kernel_rfl) ?hqz477 ?hyz477 hHeld ?restz477
  case hiz477 => simp only [List.getElem?_toArray, List.getElem?_cons_succ, List.getElem?_cons_zero]; exact rfl
  case hqz477 => exact fun _ _ _ h => h
  case hyz477 => refine Or.inl ⟨by rfl, ?_⟩; intro w hSw; (try dsimp only at hSw); go_simp; try with_reducible rfl
  (try simp only [Act.put, List.setIfInBounds_toArray, List.set_cons_zero, List.set_cons_succ])
  refine wpAnyH_take (i := 7) (oi := ?oiz478) (v := ?vz478) ?hiz478 (by kernel_rfl) (by kernel_rfl) (by kernel_rfl) ?hqz478 ?hyz478 hHeld ?restz478
  case hiz478 => simp only [List.getElem?_toArray, List.getElem?_cons_succ, List.getElem?_cons_zero]; exact rfl
  case hqz478 => exact fun _ _ _ h => h
  case hyz478 => refine Or.inl ⟨by rfl, ?_⟩; intro w hSw; (try dsimp only at hSw); go_simp; try with_reducible rfl
  (try simp only [Act.put, List.setIfInBounds_toArray, List.set_cons_zero, List.set_cons_succ])
  refine wpAnyH_take (i := 8) (oi := ?oiz479) (v := ?vz479) ?hiz479 (by kernel_rfl) (by kernel_rfl) (by kernel_rfl) ?hqz479 ?hyz479 hHeld ?restz479
  case hiz479 => simp only [List.getElem?_toArray, List.getElem?_cons_succ, List.getElem?_cons_zero]; exact rfl
  case hqz479 => exact fun _ _ _ h => h
  case hyz479 => refine Or.inl ⟨by rfl, ?_⟩; intro w hSw; (try dsimp only at hSw); go_simp; try with_reducible rfl
  (try simp only [Act.put, List.setIfInBounds_toArray, List.set_cons_zero, List.set_cons_succ])
  refine wpAnyH_take (i := 9) (oi := ?oiz480) (v := ?vz480) ?hiz480 (by kernel_rfl) (by kernel_rfl) (by kernel_rfl) ?hqz480 ?hyz480 hHeld ?restz480
  case hiz480 => simp only [List.getElem?_toArray, List.getElem?_cons_succ, List.getElem?_cons_zero]; exact rfl
  case hqz480 => exact fun _ _ _ h => h
  case hyz480 => refine Or.inl ⟨by rfl, ?_⟩; intro w hSw; (try dsimp only at hSw); go_simp; try with_reducible rfl
  (try simp only [Act.put, List.setIfInBounds_toArray, List.set_cons_zero, List.set_cons_succ])
  refine wpAnyH_take (i := 10) (oi := ?oiz481) (v := ?vz481) ?hiz481 (by kernel_rfl) (by kernel_rfl) (by kernel_rfl) ?hqz481 ?hyz481 hHeld ?restz481
  case hiz481 => simp only [List.getElem?_toArray, List.getElem?_cons_succ, List.getElem?_cons_zero]; exact rfl
  case hqz481 => exact fun _ _ _ h => h
  case hyz481 => refine Or.inl ⟨by rfl, ?_⟩; intro w hSw; (try dsimp only at hSw); go_simp; try with_reducible rfl
  (try simp only [Act.put, List.setIfInBounds_toArray, List.set_cons_zero, List.set_cons_succ])
  refine wpAnyH_take (i := 11) (oi := ?oiz482) (v := ?vz482) ?hiz482 (by kernel_rfl) (by kernel_rfl) (by kernel_rfl) ?hqz482 ?hyz482 hHeld ?restz482
  case hiz482 => simp only [List.getElem?_toArray, List.getElem?_cons_succ, List.getElem?_cons_zero]; exact rfl
  case hqz482 => exact fun _ _ _ h => h
  case hyz482 => refine Or.inl ⟨by rfl, ?_⟩; intro w hSw; (try dsimp only at hSw); go_simp; try with_reducible rfl
  (try simp only [Act.put, List.setIfInBounds_toArray, List.set_cons_zero, List.set_cons_succ])
  refine wpAnyH_take (i := 12) (oi := ?oiz483) (v := ?vz483) ?hiz483 (by kernel_rfl) (by kernel_rfl) (by kernel_rfl) ?hqz483 ?hyz483 hHeld ?restz483
  case hiz483 => simp only [List.getElem?_toArray, List.getElem?_cons_succ, List.getElem?_cons_zero]; exact rfl
  case hqz483 => exact fun _ _ _ h => h
  case hyz483 => refine Or.inl ⟨by rfl, ?_⟩; intro w hSw; (try dsimp only at hSw); go_simp; try with_reducible rfl
  (try simp only [Act.put, List.setIfInBounds_toArray, List.set_cons_zero, List.set_cons_succ])
  refine wpAnyH_take (i := 13) (oi := ?oiz484) (v := ?vz484) ?hiz484 (by kernel_rfl) (by kernel_rfl) (by kernel_rfl) ?hqz484 ?hyz484 hHeld ?restz484
  case hiz484 => simp only [List.getElem?_toArray, List.getElem?_cons_succ, List.getElem?_cons_zero]; exact rfl
  case hqz484 => exact fun _ _ _ h => h
  case hyz484 => refine Or.inl ⟨by rfl, ?_⟩; intro w hSw; (try dsimp only at hSw); go_simp; try with_reducible rfl
  (try simp only [Act.put, List.setIfInBounds_toArray, List.set_cons_zero, List.set_cons_succ])
  refine wpAnyH_take (i := 14) (oi := ?oiz485) (v := ?vz485) ?hiz485 (by kernel_rfl) (by kernel_rfl) (by kernel_rfl) ?hqz485 ?hyz485 hHeld ?restz485
  case hiz485 => simp only [List.getElem?_toArray, List.getElem?_cons_succ, List.getElem?_cons_zero]; exact rfl
  case hqz485 => exact fun _ _ _ h => h
  case hyz485 => refine Or.inl ⟨by rfl, ?_⟩; intro w hSw; (try dsimp only at hSw); go_simp; try with_reducible rfl
  (try simp only [Act.put, List.setIfInBounds_toArray, List.set_cons_zero, List.set_cons_succ])
  refine wpAnyH_take (i := 15) (oi := ?oiz486) (v := ?vz486) ?hiz486 (by kernel_rfl) (by kernel_rfl) (by kernel_rfl) ?hqz486 ?hyz486 hHeld ?restz486
  case hiz486 => simp only [List.getElem?_toArray, List.getElem?_cons_succ, List.getElem?_cons_zero]; exact rfl
  case hqz486 => exact fun _ _ _ h => h
  case hyz486 => refine Or.inl ⟨by rfl, ?_⟩; intro w hSw; (try dsimp only at hSw); go_simp; try with_reducible rfl
  (try simp only [Act.put, List.setIfInBounds_toArray, List.set_cons_zero, List.set_cons_succ])
  refine wpAnyH_take (i := 16) (oi := ?oiz487) (v := ?vz487) ?hiz487 (by kernel_rfl) (by kernel_rfl) (by kernel_rfl) ?hqz487 ?hyz487 hHeld ?restz487
  case hiz487 => simp only [List.getElem?_toArray, List.getElem?_cons_succ, List.getElem?_cons_zero]; exact rfl
  case hqz487 => exact fun _ _ _ h => h
  case hyz487 => refine Or.inl ⟨by rfl, ?_⟩; intro w hSw; have phEa := ent_grew hSw hEa; have qhEa := box2_c0 phEa; have rhEa := box2_c1 phEa; have phEb := ent_grew hSw hEb; have qhEb := box2_c0 phEb; have rhEb := box2_c1 phEb; go_simp; try with_reducible rfl
  (try simp only [Act.put, List.setIfInBounds_toArray, List.set_cons_zero, List.set_cons_succ])
  refine wpAnyH_take (i := 17) (oi := ?oiz488) (v := ?vz488) ?hiz488 (by kernel_rfl) (by kernel_rfl) (by kernel_rfl) ?hqz488 ?hyz488 hHeld ?restz488
  case hiz488 => simp only [List.getElem?_toArray, List.getElem?_cons_succ, List.getElem?_cons_zero]; exact rfl
  case hqz488 => exact fun _ _ _ h => h
  case hyz488 => refine Or.inl ⟨by rfl, ?_⟩; intro w hSw; have phEa := ent_grew hSw hEa; have qhEa := box2_c0 phEa; have rhEa := box2_c1 phEa; have phEb := ent_grew hSw hEb; have qhEb := box2_c0 phEb; have rhEb := box2_c1 phEb; go_simp; try with_reducible rfl
  (try simp only [Act.put, List.setIfInBounds_toArray, List.set_cons_zero, List.set_cons_succ])
  refine wpAnyH_take (i := 19) (oi := ?oiz489) (v := ?vz489) ?hiz489 (by kernel_rfl) (by kernel_rfl) (by kernel_rfl) ?hqz489 ?hyz489 hHeld ?restz489
  case hiz489 => simp only [List.getElem?_toArray, List.getElem?_cons_succ, List.getElem?_cons_zero]; exact rfl
  case hqz489 => exact fun _ _ _ h => h
  case hyz489 => refine Or.inl ⟨by rfl, ?_⟩; intro w hSw; (try dsimp only at hSw); go_simp; try with_reducible rfl
  (try simp only [Act.put, List.setIfInBounds_toArray, List.set_cons_zero, List.set_cons_succ])
  refine wpAnyH_ready (rs := [18]) (by kernel_rfl) (by simp) ?_
  refine AllReadyH.cons (o := ?oiz490) ?hiz490 (fun K hK => ?stepz490) AllReadyH.nil
  case hiz490 => simp only [List.getElem?_toArray, List.getElem?_cons_succ, List.getElem?_cons_zero]; exact rfl
  go_simp
  (go_at_call 29; refine (zcmp (ha.grew hHeld) (hbz.grew hHeld) (by omega) (by omega)).mono ?_; rintro e v4 ⟨rfl, hv4⟩; rw [HCZ.out])
  refine hK.out _ _ ?hSz490 (fun hHeld' => ?restz490)
  case hSz490 => (try dsimp only); (first | exact (Grew.refl _).drew | exact Grew.call hHeld ‹Below _ _ _›)
  clear hK K hHeld
  have hHeld := hHeld'
  clear hHeld'
  (try simp only [Act.put, List.setIfInBounds_toArray, List.set_cons_zero, List.set_cons_succ])
  refine wpAnyH_take (i := 20) (oi := ?oiz491) (v := ?vz491) ?hiz491 (by kernel_rfl) (by kernel_rfl) (by kernel_rfl) ?hqz491 ?hyz491 hHeld ?restz491
  case hiz491 => simp only [List.getElem?_toArray, List.getElem?_cons_succ, List.getElem?_cons_zero]; exact rfl
  case hqz491 => exact fun _ _ _ h => h
  case hyz491 => refine Or.inl ⟨by rfl, ?_⟩; intro w hSw; (try dsimp only at hSw); go_simp; try with_reducible rfl
  (try simp only [Act.put, List.setIfInBounds_toArray, List.set_cons_zero, List.set_cons_succ])
  refine wpAnyH_take (i := 21) (oi := ?oiz492) (v := ?vz492) ?hiz492 (by kernel_rfl) (by kernel_rfl) (by kernel_rfl) ?hqz492 ?hyz492 hHeld ?restz492
  case hiz492 => simp only [List.getElem?_toArray, List.getElem?_cons_succ, List.getElem?_cons_zero]; exact rfl
  case hqz492 => exact fun _ _ _ h => h
  case hyz492 => refine Or.inl ⟨by rfl, ?_⟩; intro w hSw; (try dsimp only at hSw); go_simp; try with_reducible rfl
  (try simp only [Act.put, List.setIfInBounds_toArray, List.set_cons_zero, List.set_cons_succ])
  refine wpAnyH_take (i := 22) (oi := ?oiz493) (v := ?vz493) ?hiz493 (by kernel_rfl) (by kernel_rfl) (by kernel_rfl) ?hqz493 ?hyz493 hHeld ?restz493
  case hiz493 => simp only [List.getElem?_toArray, List.getElem?_cons_succ, List.getElem?_cons_zero]; exact rfl
  case hqz493 => exact fun _ _ _ h => h
  case hyz493 => refine Or.inl ⟨by rfl, ?_⟩; intro w hSw; (try dsimp only at hSw); go_simp; try with_reducible rfl
  (try simp only [Act.put, List.setIfInBounds_toArray, List.set_cons_zero, List.set_cons_succ])
  refine wpAnyH_done (by kernel_rfl) ?_ _
  have hq9 := hB.trans hHeld
  clear hHeld
  go_wp2
  go_ret
  exact ⟨rfl, hq9⟩

theorem zedSmall_walk (n m : Int) (hn : (Lit.int .i64 n).wf = true) (hm : (Lit.int .i64 m).wf = true) (w : World) :
    Calls Try.prog 7 #[.int .i64 n, .int .i64 m] w fun e w' => e = .returned (.bool true) ∧ Below w.heap.size w w' := by
  have hx : -9223372036854775808 ≤ n ∧ n ≤ 9223372036854775807 := by simpa [Lit.wf, IntKind.min, IntKind.max, IntKind.signed, IntKind.bits] using hn
  have hy : -9223372036854775808 ≤ m ∧ m ≤ 9223372036854775807 := by simpa [Lit.wf, IntKind.min, IntKind.max, IntKind.signed, IntKind.bits] using hm
  rcases Int.lt_trichotomy n m with hc | hc | hc
  · exact zedSmall_lt n m (by omega) (by omega) hc
  · exact zedSmall_eq n m (by omega) (by omega) hc
  · exact zedSmall_gt n m (by omega) (by omega) hc

end Go.Proofs.Ytnjohlimjbmkgaa

namespace Go.Proofs.Ytnjohlimjbmkgaa.zedSmall
open Go.ChangeShapes Go.WideShapes Go.ChangeAt Go.RowKit
open Go.ChangeMaps (open_string shut_string)

theorem own : ownKnob Try.prog.godebug = none := by kernel_rfl

set_option maxRecDepth 100000 in
theorem lifted (os : Os) (started : os.Started) (H : Type) (enc : TypeId × Value → H) :
    ReturnsInHanded {} Try.checked os 7 .any (Rows.zedSmallSpec.pre6 enc Try.prog Try.f7 Rows.zedSmallRow.domain false) (Rows.zedSmallSpec.post enc Try.prog Try.f7 false true false false) := by
  refine returnsInHanded_of_change (C := Try.checked) own started (by kernel_rfl) Try.func7
    (ChangeSpec.witness6 (enc := enc) (C := Try.checked) false ⟨#[], #[.int .i64 0, .int .i64 0], []⟩ 8 (by kernel_rfl) (by kernel_rfl) (by kernel_rfl) (by kernel_rfl)) ?_
  intro W base args ds gs before hval0 hW hcnd _
  have hval : ∀ (j : Nat) t v, Try.f7.params[j]? = some t → args[j]? = some v → Value.okWide Try.prog W .any base t v := hval0
  have hW' := hW
  obtain ⟨p, q, hA0, hV, rfl, hfz, hnd⟩ := hW
  have hA : DataW.TrodAll enc Try.prog W 0 (fun _ => true) true Try.f7.params.toList args.toList ds p := hA0
  rw [Try.params7] at hA hval
  obtain ⟨v0, vs0, d0, ds0, p0, q0, hargs, rfl, rfl, h0, r0⟩ := trodAll_cons hA
  obtain ⟨v1, vs1, d1, ds1, p1, q1, rfl, rfl, rfl, h1, r1⟩ := trodAll_cons r0
  obtain ⟨rfl, rfl, rfl⟩ := trodAll_nil r1
  obtain rfl : args = #[v0, v1] := by cases args; simp_all
  obtain ⟨rfl, rfl⟩ := trodVars_none hV
  obtain ⟨a0, rfl, rfl, rfl, w0⟩ := open_int Try.underlying3 (hval 0 3 v0 rfl rfl) h0
  obtain ⟨a1, rfl, rfl, rfl, w1⟩ := open_int Try.underlying3 (hval 1 3 v1 rfl rfl) h1
  clear hA0 hval0
  simp only [List.append_nil] at hW'
  refine (zedSmall_walk a0 a1 w0 w1 W).mono fun e W' ⟨he, hg⟩ => ?_
  subst he
  exact ⟨_, rfl, law_post hW' rfl (fun _ _ _ => (trodAll_cons_mk (shut_bool Try.underlying4 _) trodAll_mk0)) (fun sp _ => (trodAll_cons_mk (shut_int Try.underlying3 w0) (trodAll_cons_mk (shut_int Try.underlying3 w1) trodAll_mk0))) rfl hg⟩

theorem over : Rows.zedSmallRow.holds Try.pinned (OpenSpec.ofChange Rows.zedSmallSpec) :=
  OpenClaim.holds_of_wide 7 Try.f7 rfl rfl rfl rfl rfl rfl rfl ⟨rfl, rfl, rfl, rfl, rfl⟩ rfl rfl rfl rfl rfl (by kernel_rfl) Try.func7 (by kernel_rfl)
    (of_decide_eq_true (by kernel_rfl)) (by unfold Func.isWrapper; first | (rw [if_pos (by decide +kernel)]; kernel_rfl) | (rw [if_neg (by decide +kernel)]; exact ⟨rfl, rfl⟩))
    (fun os started H enc _ => lifted os started H enc)
end Go.Proofs.Ytnjohlimjbmkgaa.zedSmall
namespace Go.Proofs.Ytnjohlimjbmkgaa

/-- The statement. -/
theorem zedSmall_holds : Rows.ZedSmallSaid := zedSmall.over
end Go.Proofs.Ytnjohlimjbmkgaa
