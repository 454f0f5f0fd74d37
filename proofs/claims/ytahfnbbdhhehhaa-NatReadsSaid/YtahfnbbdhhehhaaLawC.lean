/- The law's helper two, where the first text is none. -/
import Derived.Test.YtahfnbbdhhehhaaLawB
namespace Go.Proofs.Ytahfnbbdhhehhaa
open Go.RowKit

set_option maxHeartbeats 12800000 in
theorem two_no (s t : ByteArray) (w : World) (hp0 : perr (fewS s 200) ≠ 0) (hs : s.size ≤ 9223372036854775807) (ht : t.size ≤ 9223372036854775807) :
    Calls Try.prog 27 #[.string s, .string t] w (TwoPost w s t) := by
  have HP0 := Lib.hid hp0; clear hp0
  obtain ⟨hE1, hE2, hE3, hE4, _⟩ := ents4 w (.cells #[.slice none 0 0] 24) (.cells #[.slice none 0 0] 24) (.cells #[.slice none 0 0] 30) (.cells #[.slice none 0 0] 30)
  have hg0 := ents4g w (.cells #[.slice none 0 0] 24) (.cells #[.slice none 0 0] 24) (.cells #[.slice none 0 0] 30) (.cells #[.slice none 0 0] 30)
  go_enter Try.func27, Try.ntmps27
  go_wp2_with fail
  generalize hW0 : ((((w.alloc (.cells #[.slice none 0 0] 24)).alloc (.cells #[.slice none 0 0] 24)).alloc (.cells #[.slice none 0 0] 30)).alloc (.cells #[.slice none 0 0] 30)) = W0 at *
  clear hW0
  refine (few200 s _ hs).mono ?_
  rintro e w' ⟨rfl, rfl⟩
  go_wp2_with fail
  refine (parse200 s _).mono ?_
  rintro e w1 ⟨a, rfl, ha, han, hb1⟩
  have hg1 := (Grew.call (Grew.refl _) hb1).alloc (.cells #[.slice a.ao a.n a.c] 24)
  have hA := ent_new w1 (.cells #[.slice a.ao a.n a.c] 24)
  have ha := ha.alloc (.cells #[.slice a.ao a.n a.c] 24)
  go_wp2_with fail
  generalize w1.alloc (.cells #[.slice a.ao a.n a.c] 24) = W1 at *
  refine (few200 t _ ht).mono ?_
  rintro e w' ⟨rfl, rfl⟩
  go_wp2_with fail
  refine (parse200 t _).mono ?_
  rintro e w2 ⟨b, rfl, hb, hbn, hb2⟩
  have hg2 := (Grew.call (Grew.refl _) hb2).alloc (.cells #[.slice b.ao b.n b.c] 24)
  have hB := ent_new w2 (.cells #[.slice b.ao b.n b.c] 24)
  have hb := hb.alloc (.cells #[.slice b.ao b.n b.c] 24)
  go_wp2_with fail
  generalize w2.alloc (.cells #[.slice b.ao b.n b.c] 24) = W2 at *
  refine (few200 s _ hs).mono ?_
  rintro e w' ⟨rfl, rfl⟩
  go_wp2_with fail
  refine (rparse200 s _).mono ?_
  rintro e w3 ⟨x, rfl, hx, hxn, hb3⟩
  have hg3 := (Grew.call (Grew.refl _) hb3).alloc (.cells #[.slice x.ao x.n x.c] 30)
  have hX := ent_new w3 (.cells #[.slice x.ao x.n x.c] 30)
  have hx := hx.alloc (.cells #[.slice x.ao x.n x.c] 30)
  go_wp2_with fail
  generalize w3.alloc (.cells #[.slice x.ao x.n x.c] 30) = W3 at *
  refine (few200 t _ ht).mono ?_
  rintro e w' ⟨rfl, rfl⟩
  go_wp2_with fail
  refine (rparse200 t _).mono ?_
  rintro e w4 ⟨y, rfl, hy, hyn, hb4⟩
  have hg4 := (Grew.call (Grew.refl _) hb4).alloc (.cells #[.slice y.ao y.n y.c] 30)
  have hY := ent_new w4 (.cells #[.slice y.ao y.n y.c] 30)
  have hy := hy.alloc (.cells #[.slice y.ao y.n y.c] 30)
  go_wp2_with fail
  generalize w4.alloc (.cells #[.slice y.ao y.n y.c] 30) = W4 at *
  have hg34 := hg4
  have hg24 := hg3.trans hg4
  have hg14 := hg2.trans hg24
  have hg04 := hg1.trans hg14
  have hA' := ent_grew hg14 hA
  have hB' := ent_grew hg24 hB
  have hX' := ent_grew hg34 hX
  have ha' := ha.grew hg14
  have hb' := hb.grew hg24
  have hx' := hx.grew hg34
  have hR1 := ent_grew hg04 hE1
  have hR2 := ent_grew hg04 hE2
  have hR3 := ent_grew hg04 hE3
  have hR4 := ent_grew hg04 hE4
  have hgw := hg0.trans hg04
  have hz1 : w.heap.size + 1 + 1 + 1 + 1 ≤ w1.heap.size := Nat.le_trans (ent_lt hE4) (Below.size hb1)
  have hz2 : w.heap.size + 1 + 1 + 1 + 1 ≤ w2.heap.size := Nat.le_trans (ent_lt (ent_grew hg1 hE4)) (Below.size hb2)
  have hz3 : w.heap.size + 1 + 1 + 1 + 1 ≤ w3.heap.size := Nat.le_trans (ent_lt (ent_grew (hg1.trans hg2) hE4)) (Below.size hb3)
  have hz4 : w.heap.size + 1 + 1 + 1 + 1 ≤ w4.heap.size := Nat.le_trans (ent_lt (ent_grew ((hg1.trans hg2).trans hg3) hE4)) (Below.size hb4)
  clear hA hB hX ha hb hx hE1 hE2 hE3 hE4 hg1 hg2 hg3 hg4 hg34 hg24 hg14 hg04 hg0 hb1 hb2 hb3 hb4
  have hok : ok2 s t = ((perr (fewS s 200) == 0) && (perr (fewS t 200) == 0)) := rfl
  have HOK := Lib.hid hok; clear hok
  generalize hp : perr (fewS s 200) = p at *
  generalize hq : perr (fewS t 200) = q at *
  have hpI : (p == 0) = false := beq_eq_false_iff_ne.2 HP0.out
  have HP := Lib.hid hpI
  clear hp hq
  have hA1 := box_cell hA'
  have hB1 := box_cell hB'
  have hX1 := box_cell hX'
  have hY1 := box_cell hY
  have hr1 := box_cell hR1
  have hr2 := box_cell hR2
  have hr3 := box_cell hR3
  have hr4 := box_cell hR4
  have hf1 := ent_frozen hR1 0
  have hf2 := ent_frozen hR2 0
  have hf3 := ent_frozen hR3 0
  have hf4 := ent_frozen hR4 0
  have mk : Hid (∀ w', KeptUp W4 (w.heap.size + 1 + 1 + 1 + 1) w' → w'.cell? ⟨w1.heap.size, 0, none⟩ = some (.slice a.ao a.n a.c) ∧ w'.cell? ⟨w2.heap.size, 0, none⟩ = some (.slice b.ao b.n b.c) ∧ w'.cell? ⟨w3.heap.size, 0, none⟩ = some (.slice x.ao x.n x.c) ∧ w'.cell? ⟨w4.heap.size, 0, none⟩ = some (.slice y.ao y.n y.c) ∧ KeptUp W4 (w.heap.size + 1 + 1 + 1 + 1) w') :=
    fun w' hk => ⟨box_cell (hk.ent hA' hz1), box_cell (hk.ent hB' hz2), box_cell (hk.ent hX' hz3), box_cell (hk.ent hY hz4), hk⟩
  obtain ⟨hq1, hq2, hq3, hq4, hkp, hgf⟩ := four_set hR1 hR2 hR3 hR4 hgw (.slice a.ao a.n a.c) (.slice b.ao b.n b.c) (.slice x.ao x.n x.c) (.slice y.ao y.n y.c) _ rfl
  clear hR1 hR2 hR3 hR4 hgw
  go_region
  all_goals go_wp2
  all_goals (
    refine bodyPost_ret (v := .tuple #[.agg #[.slice a.ao a.n a.c], .agg #[.slice b.ao b.n b.c], .agg #[.slice x.ao x.n x.c], .agg #[.slice y.ao y.n y.c], .bool false]) (by simp [results, Try.results27, go_sem, ent_cell hq1 0, ent_cell hq2 0, ent_cell hq3 0, ent_cell hq4 0]) rfl ?_
    exact ⟨a, b, x, y, by rw [HOK.out, HP.out]; rfl, ha'.kp hkp, hb'.kp hkp, hx'.kp hkp, hy.kp hkp, han, hbn, hxn, hyn, hgf⟩)

end Go.Proofs.Ytahfnbbdhhehhaa
