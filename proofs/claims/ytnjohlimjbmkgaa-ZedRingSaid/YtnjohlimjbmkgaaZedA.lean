/- zed: made. -/
import Derived.Test.YtnjohlimjbmkgaaProg
import Derived.Test.YtnjohlimjbmkgaaNatG
import Derived.Test.YtnjohlimjbmkgaaBox2
import Derived.Test.YtnjohlimjbmkgaaMathZ
import Derived.Deep.RegionLaw
namespace Go.Proofs.Ytnjohlimjbmkgaa
open Go.RowKit

theorem bl_gt (x : Nat) : decide (0 < bl x) = decide (0 < x) := by
  have := bl_le x 0
  rw [decide_eq_decide]
  omega

set_option maxHeartbeats 1600000 in
theorem zmade_true {w : World} {s : Sl} {x : Nat} (h : NatS w s x) (hn : s.n ≤ 1000000000000) :
    Calls Try.prog 68 #[.agg #[.slice s.ao s.n s.c], .bool true] w fun e w' => e = .returned (.agg #[.slice s.ao s.n s.c, .bool (decide (0 < x))]) ∧ Below w.heap.size w w' := by
  obtain ⟨hE1, hE2, _⟩ := ents2 w (.cells #[.slice s.ao s.n s.c] 31) (.cells #[.slice none 0 0, .bool false] 33)
  have hB := ((Grew.refl w).alloc (.cells #[.slice s.ao s.n s.c] 31)).alloc (.cells #[.slice none 0 0, .bool false] 33)
  have hx := h.grew hB
  have HB := Lib.hid (bl_gt x)
  go_enter Try.func68, Try.ntmps68
  go_wp2
  generalize (w.alloc (.cells #[.slice s.ao s.n s.c] 31)).alloc (.cells #[.slice none 0 0, .bool false] 33) = W at *
  refine wp_region_held_drew (S := (fun w' => w'.cell? ⟨w.heap.size, 0, none⟩ = some (.slice s.ao s.n s.c) ∧ Grew w w')) (by kernel_rfl) ?hSz1 (fun hHeld => ?restz1)
  case hSz1 => (try dsimp only); (first | exact ⟨box_cell hE1, hB.drew⟩ | exact ⟨box_cell hE1b, hB.drew.call hb1⟩)
  refine wpAnyH_take (i := 0) (oi := ?oiz2) (v := ?vz2) ?hiz2 (by kernel_rfl) (by kernel_rfl) (by kernel_rfl) ?hqz2 ?hyz2 hHeld ?restz2
  case hiz2 => simp only [List.getElem?_toArray, List.getElem?_cons_zero]; exact rfl
  case hqz2 => exact fun _ _ _ h => h
  case hyz2 => refine Or.inl ⟨by rfl, ?_⟩; intro w hSw; (try dsimp only at hSw); go_simp; try with_reducible rfl
  (try simp only [Act.put, List.setIfInBounds_toArray, List.set_cons_zero, List.set_cons_succ])
  refine wpAnyH_take (i := 1) (oi := ?oiz3) (v := ?vz3) ?hiz3 (by kernel_rfl) (by kernel_rfl) (by kernel_rfl) ?hqz3 ?hyz3 hHeld ?restz3
  case hiz3 => simp only [List.getElem?_toArray, List.getElem?_cons_succ, List.getElem?_cons_zero]; exact rfl
  case hqz3 => exact fun _ _ _ h => h
  case hyz3 => refine Or.inl ⟨by rfl, ?_⟩; intro w hSw; (try dsimp only at hSw); go_simp; try with_reducible rfl
  (try simp only [Act.put, List.setIfInBounds_toArray, List.set_cons_zero, List.set_cons_succ])
  refine wpAnyH_take (i := 2) (oi := ?oiz4) (v := ?vz4) ?hiz4 (by kernel_rfl) (by kernel_rfl) (by kernel_rfl) ?hqz4 ?hyz4 hHeld ?restz4
  case hiz4 => simp only [List.getElem?_toArray, List.getElem?_cons_succ, List.getElem?_cons_zero]; exact rfl
  case hqz4 => exact fun _ _ _ h => h
  case hyz4 => refine Or.inl ⟨by rfl, ?_⟩; intro w hSw; (try dsimp only at hSw); go_simp; try with_reducible rfl
  (try simp only [Act.put, List.setIfInBounds_toArray, List.set_cons_zero, List.set_cons_succ])
  refine wpAnyH_take (i := 3) (oi := ?oiz5) (v := ?vz5) ?hiz5 (by kernel_rfl) (by kernel_rfl) (by kernel_rfl) ?hqz5 ?hyz5 hHeld ?restz5
  case hiz5 => simp only [List.getElem?_toArray, List.getElem?_cons_succ, List.getElem?_cons_zero]; exact rfl
  case hqz5 => exact fun _ _ _ h => h
  case hyz5 => refine Or.inl ⟨by rfl, ?_⟩; intro w hSw; (try dsimp only at hSw); go_simp; try with_reducible rfl
  (try simp only [Act.put, List.setIfInBounds_toArray, List.set_cons_zero, List.set_cons_succ])
  refine wpAnyH_ready (rs := [4]) (by kernel_rfl) (by simp) ?_
  refine AllReadyH.cons (o := ?oiz6) ?hiz6 (fun K hK => ?stepz6) AllReadyH.nil
  case hiz6 => simp only [List.getElem?_toArray, List.getElem?_cons_succ, List.getElem?_cons_zero]; exact rfl
  go_simp
  (go_at_call 69; refine (bits_spec (hx.grew (Grew.refl W).drew) hn).mono ?_; rintro e w1 ⟨rfl, hb1⟩; have hE1b := ent_up (below_undrew hb1) hE1; have hE2b := ent_up (below_undrew hb1) hE2)
  refine hK.out _ _ ?hSz6 (fun hHeld' => ?restz6)
  case hSz6 => (try dsimp only); (first | exact ⟨box_cell hE1, hB.drew⟩ | exact ⟨box_cell hE1b, hB.drew.call hb1⟩)
  clear hK K hHeld
  have hHeld := hHeld'
  clear hHeld'
  (try simp only [Act.put, List.setIfInBounds_toArray, List.set_cons_zero, List.set_cons_succ])
  refine wpAnyH_take (i := 5) (oi := ?oiz7) (v := ?vz7) ?hiz7 (by kernel_rfl) (by kernel_rfl) (by kernel_rfl) ?hqz7 ?hyz7 hHeld ?restz7
  case hiz7 => simp only [List.getElem?_toArray, List.getElem?_cons_succ, List.getElem?_cons_zero]; exact rfl
  case hqz7 => exact fun _ _ _ h => h
  case hyz7 => refine Or.inl ⟨by rfl, ?_⟩; intro w hSw; (try dsimp only at hSw); go_simp; try with_reducible rfl
  (try simp only [Act.put, List.setIfInBounds_toArray, List.set_cons_zero, List.set_cons_succ])
  refine wpAnyH_take (i := 6) (oi := ?oiz8) (v := ?vz8) ?hiz8 (by kernel_rfl) (by kernel_rfl) (by kernel_rfl) ?hqz8 ?hyz8 hHeld ?restz8
  case hiz8 => simp only [List.getElem?_toArray, List.getElem?_cons_succ, List.getElem?_cons_zero]; exact rfl
  case hqz8 => exact fun _ _ _ h => h
  case hyz8 => refine Or.inl ⟨by rfl, ?_⟩; intro w hSw; (try dsimp only at hSw); go_simp; try with_reducible rfl
  (try simp only [Act.put, List.setIfInBounds_toArray, List.set_cons_zero, List.set_cons_succ])
  refine wpAnyH_take (i := 7) (oi := ?oiz9) (v := ?vz9) ?hiz9 (by kernel_rfl) (by kernel_rfl) (by kernel_rfl) ?hqz9 ?hyz9 hHeld ?restz9
  case hiz9 => simp only [List.getElem?_toArray, List.getElem?_cons_succ, List.getElem?_cons_zero]; exact rfl
  case hqz9 => exact fun _ _ _ h => h
  case hyz9 => refine Or.inl ⟨by rfl, ?_⟩; intro w hSw; (try dsimp only at hSw); go_simp; try with_reducible rfl
  (try simp only [Act.put, List.setIfInBounds_toArray, List.set_cons_zero, List.set_cons_succ])
  refine wpAnyH_ready (rs := [8]) (by kernel_rfl) (by simp) ?_
  refine AllReadyH.cons (o := ?oiz10) ?hiz10 (fun K hK => ?stepz10) AllReadyH.nil
  case hiz10 => simp only [List.getElem?_toArray, List.getElem?_cons_succ, List.getElem?_cons_zero]; exact rfl
  have hR := hE2b; have hP := hE1b; have c0 := box2_c0 hR; have c1 := box2_c1 hR; have f0 := box2_f hR 0; have f1 := box2_f hR 1; go_simp
  refine hK.out _ _ ?hSz10 (fun hHeld' => ?restz10)
  case hSz10 => (try dsimp only); refine ⟨box_cell (ent_set_other (ent_set_other hP ?_ _) ?_ _), hHeld.2.set2 ?_ _ _⟩ <;> ((try dsimp only); omega)
  clear hK K hHeld
  have hHeld := hHeld'
  clear hHeld'
  (try simp only [Act.put, List.setIfInBounds_toArray, List.set_cons_zero, List.set_cons_succ])
  refine wpAnyH_done (by kernel_rfl) ?_ _
  have hq := box2_set hE2b (.slice s.ao s.n s.c) (.bool (decide (0 < bl x)))
  have hq0 := box2_c0 hq
  have hq1 := box2_c1 hq
  have hq9 := hHeld.2
  clear hHeld
  go_wp2
  rw [HB.out] at *
  refine bodyPost_ret (v := .agg #[.slice s.ao s.n s.c, .bool (decide (0 < x))]) (by simp [results, Try.results68, go_sem, hq0, hq1]) rfl ⟨rfl, hq9⟩

set_option maxHeartbeats 1600000 in
theorem zmade_false {w : World} {s : Sl} {x : Nat} (h : NatS w s x) (hn : s.n ≤ 1000000000000) :
    Calls Try.prog 68 #[.agg #[.slice s.ao s.n s.c], .bool false] w fun e w' => e = .returned (.agg #[.slice s.ao s.n s.c, .bool false]) ∧ Below w.heap.size w w' := by
  obtain ⟨hE1, hE2, _⟩ := ents2 w (.cells #[.slice s.ao s.n s.c] 31) (.cells #[.slice none 0 0, .bool false] 33)
  have hB := ((Grew.refl w).alloc (.cells #[.slice s.ao s.n s.c] 31)).alloc (.cells #[.slice none 0 0, .bool false] 33)
  have hx := h.grew hB
  go_enter Try.func68, Try.ntmps68
  go_wp2
  generalize (w.alloc (.cells #[.slice s.ao s.n s.c] 31)).alloc (.cells #[.slice none 0 0, .bool false] 33) = W at *
  refine wp_region_held_drew (S := (fun w' => w'.cell? ⟨w.heap.size, 0, none⟩ = some (.slice s.ao s.n s.c) ∧ Grew w w')) (by kernel_rfl) ?hSz11 (fun hHeld => ?restz11)
  case hSz11 => (try dsimp only); (first | exact ⟨box_cell hE1, hB.drew⟩ | exact ⟨box_cell hE1b, hB.drew.call hb1⟩)
  refine wpAnyH_take (i := 0) (oi := ?oiz12) (v := ?vz12) ?hiz12 (by kernel_rfl) (by kernel_rfl) (by kernel_rfl) ?hqz12 ?hyz12 hHeld ?restz12
  case hiz12 => simp only [List.getElem?_toArray, List.getElem?_cons_zero]; exact rfl
  case hqz12 => exact fun _ _ _ h => h
  case hyz12 => refine Or.inl ⟨by rfl, ?_⟩; intro w hSw; (try dsimp only at hSw); go_simp; try with_reducible rfl
  (try simp only [Act.put, List.setIfInBounds_toArray, List.set_cons_zero, List.set_cons_succ])
  refine wpAnyH_take (i := 1) (oi := ?oiz13) (v := ?vz13) ?hiz13 (by kernel_rfl) (by kernel_rfl) (by kernel_rfl) ?hqz13 ?hyz13 hHeld ?restz13
  case hiz13 => simp only [List.getElem?_toArray, List.getElem?_cons_succ, List.getElem?_cons_zero]; exact rfl
  case hqz13 => exact fun _ _ _ h => h
  case hyz13 => refine Or.inl ⟨by rfl, ?_⟩; intro w hSw; (try dsimp only at hSw); go_simp; try with_reducible rfl
  (try simp only [Act.put, List.setIfInBounds_toArray, List.set_cons_zero, List.set_cons_succ])
  refine wpAnyH_take (i := 2) (oi := ?oiz14) (v := ?vz14) ?hiz14 (by kernel_rfl) (by kernel_rfl) (by kernel_rfl) ?hqz14 ?hyz14 hHeld ?restz14
  case hiz14 => simp only [List.getElem?_toArray, List.getElem?_cons_succ, List.getElem?_cons_zero]; exact rfl
  case hqz14 => exact fun _ _ _ h => h
  case hyz14 => refine Or.inl ⟨by rfl, ?_⟩; intro w hSw; (try dsimp only at hSw); go_simp; try with_reducible rfl
  (try simp only [Act.put, List.setIfInBounds_toArray, List.set_cons_zero, List.set_cons_succ])
  refine wpAnyH_take (i := 3) (oi := ?oiz15) (v := undef) ?hiz15 (by kernel_rfl) (by kernel_rfl) (by kernel_rfl) ?hqz15 ?hyz15 hHeld ?restz15
  case hiz15 => simp only [List.getElem?_toArray, List.getElem?_cons_succ, List.getElem?_cons_zero]; exact rfl
  case hqz15 => exact fun _ _ _ h => h
  case hyz15 => exact Or.inr ⟨by rfl, rfl⟩
  (try simp only [Act.put, List.setIfInBounds_toArray, List.set_cons_zero, List.set_cons_succ])
  refine wpAnyH_take (i := 4) (oi := ?oiz16) (v := undef) ?hiz16 (by kernel_rfl) (by kernel_rfl) (by kernel_rfl) ?hqz16 ?hyz16 hHeld ?restz16
  case hiz16 => simp only [List.getElem?_toArray, List.getElem?_cons_succ, List.getElem?_cons_zero]; exact rfl
  case hqz16 => exact fun _ _ _ h => h
  case hyz16 => exact Or.inr ⟨by rfl, rfl⟩
  (try simp only [Act.put, List.setIfInBounds_toArray, List.set_cons_zero, List.set_cons_succ])
  refine wpAnyH_take (i := 5) (oi := ?oiz17) (v := undef) ?hiz17 (by kernel_rfl) (by kernel_rfl) (by kernel_rfl) ?hqz17 ?hyz17 hHeld ?restz17
  case hiz17 => simp only [List.getElem?_toArray, List.getElem?_cons_succ, List.getElem?_cons_zero]; exact rfl
  case hqz17 => exact fun _ _ _ h => h
  case hyz17 => exact Or.inr ⟨by rfl, rfl⟩
  (try simp only [Act.put, List.setIfInBounds_toArray, List.set_cons_zero, List.set_cons_succ])
  refine wpAnyH_take (i := 6) (oi := ?oiz18) (v := ?vz18) ?hiz18 (by kernel_rfl) (by kernel_rfl) (by kernel_rfl) ?hqz18 ?hyz18 hHeld ?restz18
  case hiz18 => simp only [List.getElem?_toArray, List.getElem?_cons_succ, List.getElem?_cons_zero]; exact rfl
  case hqz18 => exact fun _ _ _ h => h
  case hyz18 => refine Or.inl ⟨by rfl, ?_⟩; intro w hSw; (try dsimp only at hSw); go_simp; try with_reducible rfl
  (try simp only [Act.put, List.setIfInBounds_toArray, List.set_cons_zero, List.set_cons_succ])
  refine wpAnyH_take (i := 7) (oi := ?oiz19) (v := ?vz19) ?hiz19 (by kernel_rfl) (by kernel_rfl) (by kernel_rfl) ?hqz19 ?hyz19 hHeld ?restz19
  case hiz19 => simp only [List.getElem?_toArray, List.getElem?_cons_succ, List.getElem?_cons_zero]; exact rfl
  case hqz19 => exact fun _ _ _ h => h
  case hyz19 => refine Or.inl ⟨by rfl, ?_⟩; intro w hSw; (try dsimp only at hSw); go_simp; try with_reducible rfl
  (try simp only [Act.put, List.setIfInBounds_toArray, List.set_cons_zero, List.set_cons_succ])
  refine wpAnyH_ready (rs := [8]) (by kernel_rfl) (by simp) ?_
  refine AllReadyH.cons (o := ?oiz20) ?hiz20 (fun K hK => ?stepz20) AllReadyH.nil
  case hiz20 => simp only [List.getElem?_toArray, List.getElem?_cons_succ, List.getElem?_cons_zero]; exact rfl
  have hR := hE2; have hP := hE1; have c0 := box2_c0 hR; have c1 := box2_c1 hR; have f0 := box2_f hR 0; have f1 := box2_f hR 1; go_simp
  refine hK.out _ _ ?hSz20 (fun hHeld' => ?restz20)
  case hSz20 => (try dsimp only); refine ⟨box_cell (ent_set_other (ent_set_other hP ?_ _) ?_ _), (hB.set2 ?_ _ _).drew⟩ <;> ((try dsimp only); omega)
  clear hK K hHeld
  have hHeld := hHeld'
  clear hHeld'
  (try simp only [Act.put, List.setIfInBounds_toArray, List.set_cons_zero, List.set_cons_succ])
  refine wpAnyH_done (by kernel_rfl) ?_ _
  have hq := box2_set hE2 (.slice s.ao s.n s.c) (.bool false)
  have hq0 := box2_c0 hq
  have hq1 := box2_c1 hq
  have hq9 := hHeld.2
  clear hHeld
  go_wp2
  refine bodyPost_ret (v := .agg #[.slice s.ao s.n s.c, .bool false]) (by simp [results, Try.results68, go_sem, hq0, hq1]) rfl ⟨rfl, hq9⟩

theorem zmade_spec {w : World} {s : Sl} {x : Nat} (b : Bool) (h : NatS w s x) (hn : s.n ≤ 1000000000000) :
    Calls Try.prog 68 #[.agg #[.slice s.ao s.n s.c], .bool b] w fun e w' => e = .returned (.agg #[.slice s.ao s.n s.c, .bool (b && decide (0 < x))]) ∧ Below w.heap.size w w' := by
  cases b
  · exact (zmade_false h hn).mono fun _ _ H => ⟨by rw [H.1]; rfl, H.2⟩
  · exact (zmade_true h hn).mono fun _ _ H => ⟨by rw [H.1]; simp, H.2⟩

end Go.Proofs.Ytnjohlimjbmkgaa
