/- NatBack: the walk. -/
import Derived.Test.YtahfnbbdhhehhaaLawE
namespace Go.Proofs.Ytahfnbbdhhehhaa
open Go.RowKit

set_option maxHeartbeats 3200000 in
theorem natBack_walk (s t : ByteArray) (hs : s.size ≤ maxLen) (ht : t.size ≤ maxLen) (w : World) :
    Calls Try.prog 11 #[.string s, .string t] w fun e w' => e = .returned (.bool true) ∧ Below w.heap.size w w' := by
  unfold maxLen at hs ht
  cases hk1 : ok2 s t with
  | false =>
    go_enter Try.func11, Try.ntmps11
    go_wp2_with fail
    refine (two_spec s t _ hs ht).mono ?_
    rintro e w1 ⟨a, b, x, y, rfl, -, -, -, -, -, -, -, -, hb1⟩
    have hg1 := (Grew.call (Grew.refl _) hb1).trans (two4 w1 a b x y).1
    go_wp2_with fail
    change Calls _ _ _ (Two4 w1 a b x y) _
    generalize Two4 w1 a b x y = W1 at *
    refine (known_spec _).mono ?_
    rintro e w3 ⟨rfl, hb3⟩
    have hg3 := hg1.call hb3
    go_wp2_with fail
    refine (known_spec _).mono ?_
    rintro e w4 ⟨rfl, hb4⟩
    have hg4 := hg3.call hb4
    go_wp2
    go_ret
    exact ⟨rfl, hg4⟩
  | true =>
    go_enter Try.func11, Try.ntmps11
    go_wp2_with fail
    refine (two_spec s t _ hs ht).mono ?_
    rintro e w1 ⟨a, b, x, y, rfl, ha, hb, -, -, han, hbn, -, -, hb1⟩
    have hg1 := (Grew.call (Grew.refl _) hb1).trans (two4 w1 a b x y).1
    obtain ⟨hgA, hA, hB, _, _⟩ := two4 w1 a b x y
    have ha := ha.grew hgA
    have hb := hb.grew hgA
    go_wp2_with fail
    change Calls _ _ _ (Two4 w1 a b x y) _
    generalize Two4 w1 a b x y = W1 at *
    refine (known_spec _).mono ?_
    rintro e w3 ⟨rfl, hb3⟩
    have hg13 := Grew.call (Grew.refl _) hb3
    have hg3 := hg1.trans hg13
    have ha := ha.grew hg13
    have hb := hb.grew hg13
    have hA := ent_grew hg13 hA
    have hB := ent_grew hg13 hB
    have hAc := box_cell hA
    clear hgA hg1 hb1 hg13 hb3 hk1
    generalize pval (fewS s 200) = X at *
    generalize pval (fewS t 200) = Y at *
    go_wp2_with fail
    refine (root_spec ha (by omega)).mono ?_
    rintro e w4 ⟨r, m, R, rfl, hr, hm, hR1, hR2, hrn, hmn, hb4⟩
    have hR4 : X - R * R ≤ R + R := by
      have hR3 : X ≤ R * R + 2 * R := by grind
      omega
    have hg34 := ((Grew.call (Grew.refl _) hb4).alloc (.cells #[.slice r.ao r.n r.c] 24)).alloc (.cells #[.slice m.ao m.n m.c] 24)
    obtain ⟨hRr, hMm, _⟩ := ents2 w4 (.cells #[.slice r.ao r.n r.c] 24) (.cells #[.slice m.ao m.n m.c] 24)
    have hr := (hr.alloc (.cells #[.slice r.ao r.n r.c] 24)).alloc (.cells #[.slice m.ao m.n m.c] 24)
    have hm := (hm.alloc (.cells #[.slice r.ao r.n r.c] 24)).alloc (.cells #[.slice m.ao m.n m.c] 24)
    have ha := ha.grew hg34
    have hb := hb.grew hg34
    have hA := ent_grew hg34 hA
    have hB := ent_grew hg34 hB
    have hg4 := hg3.trans hg34
    clear hg34 hb4 hg3 hAc hR2
    go_upto_region 5 with fail
    generalize (w4.alloc (.cells #[.slice r.ao r.n r.c] 24)).alloc (.cells #[.slice m.ao m.n m.c] 24) = W4 at *
    have mk : Hid (∀ w', Grew W4 w' → w'.cell? ⟨w1.heap.size, 0, none⟩ = some (.slice a.ao a.n a.c) ∧ w'.cell? ⟨w4.heap.size, 0, none⟩ = some (.slice r.ao r.n r.c) ∧ w'.cell? ⟨w4.heap.size + 1, 0, none⟩ = some (.slice m.ao m.n m.c) ∧ Grew W4 w') :=
      fun w' hg => ⟨cell_grew hg hA, cell_grew hg hRr, cell_grew hg hMm, hg⟩
    go_region_held3 (fun w' => w'.cell? ⟨w1.heap.size, 0, none⟩ = some (.slice a.ao a.n a.c) ∧ w'.cell? ⟨w4.heap.size, 0, none⟩ = some (.slice r.ao r.n r.c) ∧ w'.cell? ⟨w4.heap.size + 1, 0, none⟩ = some (.slice m.ao m.n m.c) ∧ Grew W4 w')
      (first
        | exact mk.out _ (Grew.refl _).drew
        | exact mk.out _ (Grew.call (‹_ ∧ _ ∧ _ ∧ Grew W4 _›).2.2.2 ‹Below _ _ _›))
      (first
        | (go_at_call 40; refine (add_spec (by with_reducible first | exact ha.grew (‹_ ∧ _ ∧ _ ∧ Grew W4 _›.2.2.2) | exact hr.grew (‹_ ∧ _ ∧ _ ∧ Grew W4 _›.2.2.2) | exact hm.grew (‹_ ∧ _ ∧ _ ∧ Grew W4 _›.2.2.2) | exact ‹NatS _ _ _› | exact (NatS.up ‹NatS _ _ _› ‹Below _ _ _›) | exact (NatS.up (NatS.up ‹NatS _ _ _› ‹Below _ _ _›) ‹Below _ _ _›) | exact (NatS.up (NatS.up (NatS.up ‹NatS _ _ _› ‹Below _ _ _›) ‹Below _ _ _›) ‹Below _ _ _›) | exact (NatS.up (NatS.up (NatS.up (NatS.up ‹NatS _ _ _› ‹Below _ _ _›) ‹Below _ _ _›) ‹Below _ _ _›) ‹Below _ _ _›)) (by with_reducible first | exact ha.grew (‹_ ∧ _ ∧ _ ∧ Grew W4 _›.2.2.2) | exact hr.grew (‹_ ∧ _ ∧ _ ∧ Grew W4 _›.2.2.2) | exact hm.grew (‹_ ∧ _ ∧ _ ∧ Grew W4 _›.2.2.2) | exact ‹NatS _ _ _› | exact (NatS.up ‹NatS _ _ _› ‹Below _ _ _›) | exact (NatS.up (NatS.up ‹NatS _ _ _› ‹Below _ _ _›) ‹Below _ _ _›) | exact (NatS.up (NatS.up (NatS.up ‹NatS _ _ _› ‹Below _ _ _›) ‹Below _ _ _›) ‹Below _ _ _›) | exact (NatS.up (NatS.up (NatS.up (NatS.up ‹NatS _ _ _› ‹Below _ _ _›) ‹Below _ _ _›) ‹Below _ _ _›) ‹Below _ _ _›)) (by omega) (by omega)).mono ?_; rintro e w9 ⟨v, rfl, hv, hvn, hbw⟩)
        | (go_at_call 29; refine (mul_spec (by with_reducible first | exact ha.grew (‹_ ∧ _ ∧ _ ∧ Grew W4 _›.2.2.2) | exact hr.grew (‹_ ∧ _ ∧ _ ∧ Grew W4 _›.2.2.2) | exact hm.grew (‹_ ∧ _ ∧ _ ∧ Grew W4 _›.2.2.2) | exact ‹NatS _ _ _› | exact (NatS.up ‹NatS _ _ _› ‹Below _ _ _›) | exact (NatS.up (NatS.up ‹NatS _ _ _› ‹Below _ _ _›) ‹Below _ _ _›) | exact (NatS.up (NatS.up (NatS.up ‹NatS _ _ _› ‹Below _ _ _›) ‹Below _ _ _›) ‹Below _ _ _›) | exact (NatS.up (NatS.up (NatS.up (NatS.up ‹NatS _ _ _› ‹Below _ _ _›) ‹Below _ _ _›) ‹Below _ _ _›) ‹Below _ _ _›)) (by with_reducible first | exact ha.grew (‹_ ∧ _ ∧ _ ∧ Grew W4 _›.2.2.2) | exact hr.grew (‹_ ∧ _ ∧ _ ∧ Grew W4 _›.2.2.2) | exact hm.grew (‹_ ∧ _ ∧ _ ∧ Grew W4 _›.2.2.2) | exact ‹NatS _ _ _› | exact (NatS.up ‹NatS _ _ _› ‹Below _ _ _›) | exact (NatS.up (NatS.up ‹NatS _ _ _› ‹Below _ _ _›) ‹Below _ _ _›) | exact (NatS.up (NatS.up (NatS.up ‹NatS _ _ _› ‹Below _ _ _›) ‹Below _ _ _›) ‹Below _ _ _›) | exact (NatS.up (NatS.up (NatS.up (NatS.up ‹NatS _ _ _› ‹Below _ _ _›) ‹Below _ _ _›) ‹Below _ _ _›) ‹Below _ _ _›)) (by omega) (by omega)).mono ?_; rintro e w9 ⟨v, rfl, hv, hvn, hbw⟩)
        | (go_at_call 26; refine (cmp_any (by with_reducible first | exact ha.grew (‹_ ∧ _ ∧ _ ∧ Grew W4 _›.2.2.2) | exact hr.grew (‹_ ∧ _ ∧ _ ∧ Grew W4 _›.2.2.2) | exact hm.grew (‹_ ∧ _ ∧ _ ∧ Grew W4 _›.2.2.2) | exact ‹NatS _ _ _› | exact (NatS.up ‹NatS _ _ _› ‹Below _ _ _›) | exact (NatS.up (NatS.up ‹NatS _ _ _› ‹Below _ _ _›) ‹Below _ _ _›) | exact (NatS.up (NatS.up (NatS.up ‹NatS _ _ _› ‹Below _ _ _›) ‹Below _ _ _›) ‹Below _ _ _›) | exact (NatS.up (NatS.up (NatS.up (NatS.up ‹NatS _ _ _› ‹Below _ _ _›) ‹Below _ _ _›) ‹Below _ _ _›) ‹Below _ _ _›)) (by with_reducible first | exact ha.grew (‹_ ∧ _ ∧ _ ∧ Grew W4 _›.2.2.2) | exact hr.grew (‹_ ∧ _ ∧ _ ∧ Grew W4 _›.2.2.2) | exact hm.grew (‹_ ∧ _ ∧ _ ∧ Grew W4 _›.2.2.2) | exact ‹NatS _ _ _› | exact (NatS.up ‹NatS _ _ _› ‹Below _ _ _›) | exact (NatS.up (NatS.up ‹NatS _ _ _› ‹Below _ _ _›) ‹Below _ _ _›) | exact (NatS.up (NatS.up (NatS.up ‹NatS _ _ _› ‹Below _ _ _›) ‹Below _ _ _›) ‹Below _ _ _›) | exact (NatS.up (NatS.up (NatS.up (NatS.up ‹NatS _ _ _› ‹Below _ _ _›) ‹Below _ _ _›) ‹Below _ _ _›) ‹Below _ _ _›)) (by omega) (by omega)).mono ?_; rintro e w9 ⟨cc, rfl, hc1, hc2, hc3, hbw⟩; (first | (have hc0 := hc1 (Nat.add_sub_of_le hR1); subst hc0) | have hcle := hc2 hR4); clear hc2 hc3))
    have hg49 := (‹_ ∧ _ ∧ _ ∧ Grew W4 _›).2.2.2
    have hAc := box_cell (ent_grew hg49 hA)
    have hBc := box_cell (ent_grew hg49 hB)
    have ha := ha.grew hg49
    have hb := hb.grew hg49
    have hA := ent_grew hg49 hA
    have hB := ent_grew hg49 hB
    have hg9 := hg4.trans hg49
    clear mk hRr hMm hr hm hR1 hR4 hg49 hg4
    by_cases hY : Y = 0
    · subst hY
      go_wp2_with fail
      refine (div_nil hb).mono ?_
      rintro e w5 ⟨rfl, hb5⟩
      have hg5 := ((Grew.call (Grew.refl _) hb5).alloc (.cells #[.slice none 0 0] 24)).alloc (.cells #[.slice none 0 0] 24)
      have hBc5 := box_cell (ent_grew hg5 hB)
      have hb := hb.grew hg5
      clear hAc hBc
      go_wp2_with fail
      refine (bits_spec hb (by omega)).mono ?_
      rintro e w6 ⟨rfl, hb6⟩
      have hbl0 : bl 0 = 0 := by decide
      go_wp2
      go_ret
      exact ⟨rfl, (hg9.trans hg5).call hb6⟩
    · have hYp : 0 < Y := by omega
      go_wp2_with fail
      refine (div_spec ha hb (by omega) (by omega) hYp).mono ?_
      rintro e w5 ⟨q, n, rfl, hq, hn, hqn, hnn, hnn2, hb5⟩
      obtain ⟨hQ, hN, _⟩ := ents2 w5 (.cells #[.slice q.ao q.n q.c] 24) (.cells #[.slice n.ao n.n n.c] 24)
      have hg5 := ((Grew.call (Grew.refl _) hb5).alloc (.cells #[.slice q.ao q.n q.c] 24)).alloc (.cells #[.slice n.ao n.n n.c] 24)
      have hA5 := ent_grew hg5 hA
      have hB5 := ent_grew hg5 hB
      have ha5 := ha.grew hg5
      have hb5' := hb.grew hg5
      have hq5 := (hq.alloc (.cells #[.slice q.ao q.n q.c] 24)).alloc (.cells #[.slice n.ao n.n n.c] 24)
      have hn5 := (hn.alloc (.cells #[.slice q.ao q.n q.c] 24)).alloc (.cells #[.slice n.ao n.n n.c] 24)
      have hAc5 := box_cell hA5
      have hBc5 := box_cell hB5
      have hg9 := hg9.trans hg5
      clear hAc hBc hA hB ha hb hq hn hg5 hb5
      go_wp2_with fail
      generalize (w5.alloc (.cells #[.slice q.ao q.n q.c] 24)).alloc (.cells #[.slice n.ao n.n n.c] 24) = W5 at *
      refine (gcd_spec ha5 hb5' (by omega) (by omega)).mono ?_
      rintro e w6 ⟨g, rfl, hg, hgn, hb6⟩
      have hGp : 0 < Nat.gcd X Y := Nat.gcd_pos_of_pos_right _ hYp
      have hG1 : X % Nat.gcd X Y = 0 := Nat.mod_eq_zero_of_dvd (Nat.gcd_dvd_left X Y)
      have hG2 : Y % Nat.gcd X Y = 0 := Nat.mod_eq_zero_of_dvd (Nat.gcd_dvd_right X Y)
      generalize Nat.gcd X Y = D at *
      have HG1 := Lib.hid hG1; clear hG1
      have HG2 := Lib.hid hG2; clear hG2
      have hG := ent_new w6 (.cells #[.slice g.ao g.n g.c] 24)
      have hg6 := (Grew.call (Grew.refl _) hb6).alloc (.cells #[.slice g.ao g.n g.c] 24)
      have hA6 := ent_grew hg6 hA5
      have hB6 := ent_grew hg6 hB5
      have hQ6 := ent_grew hg6 hQ
      have hN6 := ent_grew hg6 hN
      have ha6 := ha5.grew hg6
      have hb6' := hb5'.grew hg6
      have hq6 := hq5.grew hg6
      have hn6 := hn5.grew hg6
      have hgg6 := hg.alloc (.cells #[.slice g.ao g.n g.c] 24)
      have hAc6 := box_cell hA6
      have hBc6 := box_cell hB6
      have hGc6 := box_cell hG
      have hg9 := hg9.trans hg6
      clear hAc5 hBc5 hA5 hB5 ha5 hb5' hq5 hn5 hQ hN hg hg6 hb6
      go_wp2_with fail
      generalize w6.alloc (.cells #[.slice g.ao g.n g.c] 24) = W6 at *
      refine (div_spec ha6 hgg6 (by omega) (by omega) hGp).mono ?_
      rintro e w7 ⟨z, h, rfl, -, hh, -, hhn, -, hb7⟩
      rw [HG1.out] at hh
      obtain ⟨_, hH, _⟩ := ents2 w7 (.cells #[.slice z.ao z.n z.c] 24) (.cells #[.slice h.ao h.n h.c] 24)
      have hg7 := ((Grew.call (Grew.refl _) hb7).alloc (.cells #[.slice z.ao z.n z.c] 24)).alloc (.cells #[.slice h.ao h.n h.c] 24)
      have hA7 := ent_grew hg7 hA6
      have hB7 := ent_grew hg7 hB6
      have hQ7 := ent_grew hg7 hQ6
      have hN7 := ent_grew hg7 hN6
      have hG7 := ent_grew hg7 hG
      have ha7 := ha6.grew hg7
      have hb7' := hb6'.grew hg7
      have hq7 := hq6.grew hg7
      have hn7 := hn6.grew hg7
      have hgg7 := hgg6.grew hg7
      have hh7 := (hh.alloc (.cells #[.slice z.ao z.n z.c] 24)).alloc (.cells #[.slice h.ao h.n h.c] 24)
      have hBc7 := box_cell hB7
      have hGc7 := box_cell hG7
      have hg9 := hg9.trans hg7
      clear hAc6 hBc6 hGc6 hA6 hB6 ha6 hb6' hq6 hn6 hQ6 hN6 hgg6 hG hg7 hb7 hh HG1
      go_wp2_with fail
      generalize (w7.alloc (.cells #[.slice z.ao z.n z.c] 24)).alloc (.cells #[.slice h.ao h.n h.c] 24) = W6' at *
      refine (div_spec hb7' hgg7 (by omega) (by omega) hGp).mono ?_
      rintro e w8 ⟨z', i, rfl, -, hi, -, hin, -, hb8⟩
      rw [HG2.out] at hi
      obtain ⟨_, hI, _⟩ := ents2 w8 (.cells #[.slice z'.ao z'.n z'.c] 24) (.cells #[.slice i.ao i.n i.c] 24)
      have hg8 := ((Grew.call (Grew.refl _) hb8).alloc (.cells #[.slice z'.ao z'.n z'.c] 24)).alloc (.cells #[.slice i.ao i.n i.c] 24)
      have hA := ent_grew hg8 hA7
      have hB := ent_grew hg8 hB7
      have hQ := ent_grew hg8 hQ7
      have hN := ent_grew hg8 hN7
      have hH := ent_grew hg8 hH
      have ha := ha7.grew hg8
      have hb := hb7'.grew hg8
      have hq := hq7.grew hg8
      have hn := hn7.grew hg8
      have hh := hh7.grew hg8
      have hi := (hi.alloc (.cells #[.slice z'.ao z'.n z'.c] 24)).alloc (.cells #[.slice i.ao i.n i.c] 24)
      have hg9 := hg9.trans hg8
      clear hBc7 hGc7 hA7 hB7 ha7 hb7' hq7 hn7 hQ7 hN7 hgg7 hG7 hg8 hb8 hh7 HG2 hGp
      go_upto_region 13 with fail
      generalize (w8.alloc (.cells #[.slice z'.ao z'.n z'.c] 24)).alloc (.cells #[.slice i.ao i.n i.c] 24) = W7 at *
      have hML : X % Y < Y := Nat.mod_lt _ hYp
      have hXY : X / Y * Y + X % Y = X := Nat.div_add_mod' X Y
      generalize X % Y = M at *
      generalize X / Y = Q at *
      have HXY := Lib.hid hXY; clear hXY
      have mk : Hid (∀ w', Grew W7 w' → w'.cell? ⟨w1.heap.size, 0, none⟩ = some (.slice a.ao a.n a.c) ∧ w'.cell? ⟨w1.heap.size + 1, 0, none⟩ = some (.slice b.ao b.n b.c) ∧ w'.cell? ⟨w5.heap.size, 0, none⟩ = some (.slice q.ao q.n q.c) ∧ w'.cell? ⟨w5.heap.size + 1, 0, none⟩ = some (.slice n.ao n.n n.c) ∧ w'.cell? ⟨w7.heap.size + 1, 0, none⟩ = some (.slice h.ao h.n h.c) ∧ w'.cell? ⟨w8.heap.size + 1, 0, none⟩ = some (.slice i.ao i.n i.c) ∧ Grew W7 w') :=
        fun w' hg => ⟨cell_grew hg hA, cell_grew hg hB, cell_grew hg hQ, cell_grew hg hN, cell_grew hg hH, cell_grew hg hI, hg⟩
      clear hA hB hQ hN hH hI
      go_region_held3 (fun w' => w'.cell? ⟨w1.heap.size, 0, none⟩ = some (.slice a.ao a.n a.c) ∧ w'.cell? ⟨w1.heap.size + 1, 0, none⟩ = some (.slice b.ao b.n b.c) ∧ w'.cell? ⟨w5.heap.size, 0, none⟩ = some (.slice q.ao q.n q.c) ∧ w'.cell? ⟨w5.heap.size + 1, 0, none⟩ = some (.slice n.ao n.n n.c) ∧ w'.cell? ⟨w7.heap.size + 1, 0, none⟩ = some (.slice h.ao h.n h.c) ∧ w'.cell? ⟨w8.heap.size + 1, 0, none⟩ = some (.slice i.ao i.n i.c) ∧ Grew W7 w')
        (first
          | exact mk.out _ (Grew.refl _).drew
          | exact mk.out _ (Grew.call (‹_ ∧ _ ∧ _ ∧ _ ∧ _ ∧ _ ∧ Grew W7 _›.2.2.2.2.2.2) ‹Below _ _ _›))
        (first
          | (go_at_call 40; refine (add_spec (by with_reducible first | exact ha.grew (‹_ ∧ _ ∧ _ ∧ _ ∧ _ ∧ _ ∧ Grew W7 _›.2.2.2.2.2.2) | exact hb.grew (‹_ ∧ _ ∧ _ ∧ _ ∧ _ ∧ _ ∧ Grew W7 _›.2.2.2.2.2.2) | exact hq.grew (‹_ ∧ _ ∧ _ ∧ _ ∧ _ ∧ _ ∧ Grew W7 _›.2.2.2.2.2.2) | exact hn.grew (‹_ ∧ _ ∧ _ ∧ _ ∧ _ ∧ _ ∧ Grew W7 _›.2.2.2.2.2.2) | exact hh.grew (‹_ ∧ _ ∧ _ ∧ _ ∧ _ ∧ _ ∧ Grew W7 _›.2.2.2.2.2.2) | exact hi.grew (‹_ ∧ _ ∧ _ ∧ _ ∧ _ ∧ _ ∧ Grew W7 _›.2.2.2.2.2.2) | exact ‹NatS _ _ _› | exact (NatS.up ‹NatS _ _ _› ‹Below _ _ _›) | exact (NatS.up (NatS.up ‹NatS _ _ _› ‹Below _ _ _›) ‹Below _ _ _›) | exact (NatS.up (NatS.up (NatS.up ‹NatS _ _ _› ‹Below _ _ _›) ‹Below _ _ _›) ‹Below _ _ _›) | exact (NatS.up (NatS.up (NatS.up (NatS.up ‹NatS _ _ _› ‹Below _ _ _›) ‹Below _ _ _›) ‹Below _ _ _›) ‹Below _ _ _›)) (by with_reducible first | exact ha.grew (‹_ ∧ _ ∧ _ ∧ _ ∧ _ ∧ _ ∧ Grew W7 _›.2.2.2.2.2.2) | exact hb.grew (‹_ ∧ _ ∧ _ ∧ _ ∧ _ ∧ _ ∧ Grew W7 _›.2.2.2.2.2.2) | exact hq.grew (‹_ ∧ _ ∧ _ ∧ _ ∧ _ ∧ _ ∧ Grew W7 _›.2.2.2.2.2.2) | exact hn.grew (‹_ ∧ _ ∧ _ ∧ _ ∧ _ ∧ _ ∧ Grew W7 _›.2.2.2.2.2.2) | exact hh.grew (‹_ ∧ _ ∧ _ ∧ _ ∧ _ ∧ _ ∧ Grew W7 _›.2.2.2.2.2.2) | exact hi.grew (‹_ ∧ _ ∧ _ ∧ _ ∧ _ ∧ _ ∧ Grew W7 _›.2.2.2.2.2.2) | exact ‹NatS _ _ _› | exact (NatS.up ‹NatS _ _ _› ‹Below _ _ _›) | exact (NatS.up (NatS.up ‹NatS _ _ _› ‹Below _ _ _›) ‹Below _ _ _›) | exact (NatS.up (NatS.up (NatS.up ‹NatS _ _ _› ‹Below _ _ _›) ‹Below _ _ _›) ‹Below _ _ _›) | exact (NatS.up (NatS.up (NatS.up (NatS.up ‹NatS _ _ _› ‹Below _ _ _›) ‹Below _ _ _›) ‹Below _ _ _›) ‹Below _ _ _›)) (by omega) (by omega)).mono ?_; rintro e w9 ⟨v, rfl, hv, hvn, hbw⟩)
          | (go_at_call 29; refine (mul_spec (by with_reducible first | exact ha.grew (‹_ ∧ _ ∧ _ ∧ _ ∧ _ ∧ _ ∧ Grew W7 _›.2.2.2.2.2.2) | exact hb.grew (‹_ ∧ _ ∧ _ ∧ _ ∧ _ ∧ _ ∧ Grew W7 _›.2.2.2.2.2.2) | exact hq.grew (‹_ ∧ _ ∧ _ ∧ _ ∧ _ ∧ _ ∧ Grew W7 _›.2.2.2.2.2.2) | exact hn.grew (‹_ ∧ _ ∧ _ ∧ _ ∧ _ ∧ _ ∧ Grew W7 _›.2.2.2.2.2.2) | exact hh.grew (‹_ ∧ _ ∧ _ ∧ _ ∧ _ ∧ _ ∧ Grew W7 _›.2.2.2.2.2.2) | exact hi.grew (‹_ ∧ _ ∧ _ ∧ _ ∧ _ ∧ _ ∧ Grew W7 _›.2.2.2.2.2.2) | exact ‹NatS _ _ _› | exact (NatS.up ‹NatS _ _ _› ‹Below _ _ _›) | exact (NatS.up (NatS.up ‹NatS _ _ _› ‹Below _ _ _›) ‹Below _ _ _›) | exact (NatS.up (NatS.up (NatS.up ‹NatS _ _ _› ‹Below _ _ _›) ‹Below _ _ _›) ‹Below _ _ _›) | exact (NatS.up (NatS.up (NatS.up (NatS.up ‹NatS _ _ _› ‹Below _ _ _›) ‹Below _ _ _›) ‹Below _ _ _›) ‹Below _ _ _›)) (by with_reducible first | exact ha.grew (‹_ ∧ _ ∧ _ ∧ _ ∧ _ ∧ _ ∧ Grew W7 _›.2.2.2.2.2.2) | exact hb.grew (‹_ ∧ _ ∧ _ ∧ _ ∧ _ ∧ _ ∧ Grew W7 _›.2.2.2.2.2.2) | exact hq.grew (‹_ ∧ _ ∧ _ ∧ _ ∧ _ ∧ _ ∧ Grew W7 _›.2.2.2.2.2.2) | exact hn.grew (‹_ ∧ _ ∧ _ ∧ _ ∧ _ ∧ _ ∧ Grew W7 _›.2.2.2.2.2.2) | exact hh.grew (‹_ ∧ _ ∧ _ ∧ _ ∧ _ ∧ _ ∧ Grew W7 _›.2.2.2.2.2.2) | exact hi.grew (‹_ ∧ _ ∧ _ ∧ _ ∧ _ ∧ _ ∧ Grew W7 _›.2.2.2.2.2.2) | exact ‹NatS _ _ _› | exact (NatS.up ‹NatS _ _ _› ‹Below _ _ _›) | exact (NatS.up (NatS.up ‹NatS _ _ _› ‹Below _ _ _›) ‹Below _ _ _›) | exact (NatS.up (NatS.up (NatS.up ‹NatS _ _ _› ‹Below _ _ _›) ‹Below _ _ _›) ‹Below _ _ _›) | exact (NatS.up (NatS.up (NatS.up (NatS.up ‹NatS _ _ _› ‹Below _ _ _›) ‹Below _ _ _›) ‹Below _ _ _›) ‹Below _ _ _›)) (by omega) (by omega)).mono ?_; rintro e w9 ⟨v, rfl, hv, hvn, hbw⟩)
          | (go_at_call 23; refine (bits_nil (by with_reducible first | exact ha.grew (‹_ ∧ _ ∧ _ ∧ _ ∧ _ ∧ _ ∧ Grew W7 _›.2.2.2.2.2.2) | exact hb.grew (‹_ ∧ _ ∧ _ ∧ _ ∧ _ ∧ _ ∧ Grew W7 _›.2.2.2.2.2.2) | exact hq.grew (‹_ ∧ _ ∧ _ ∧ _ ∧ _ ∧ _ ∧ Grew W7 _›.2.2.2.2.2.2) | exact hn.grew (‹_ ∧ _ ∧ _ ∧ _ ∧ _ ∧ _ ∧ Grew W7 _›.2.2.2.2.2.2) | exact hh.grew (‹_ ∧ _ ∧ _ ∧ _ ∧ _ ∧ _ ∧ Grew W7 _›.2.2.2.2.2.2) | exact hi.grew (‹_ ∧ _ ∧ _ ∧ _ ∧ _ ∧ _ ∧ Grew W7 _›.2.2.2.2.2.2) | exact ‹NatS _ _ _› | exact (NatS.up ‹NatS _ _ _› ‹Below _ _ _›) | exact (NatS.up (NatS.up ‹NatS _ _ _› ‹Below _ _ _›) ‹Below _ _ _›) | exact (NatS.up (NatS.up (NatS.up ‹NatS _ _ _› ‹Below _ _ _›) ‹Below _ _ _›) ‹Below _ _ _›) | exact (NatS.up (NatS.up (NatS.up (NatS.up ‹NatS _ _ _› ‹Below _ _ _›) ‹Below _ _ _›) ‹Below _ _ _›) ‹Below _ _ _›)) (by omega)).mono ?_; rintro e w9 ⟨rfl, hbw⟩)
          | (go_at_call 26; refine (cmp_any (by with_reducible first | exact ha.grew (‹_ ∧ _ ∧ _ ∧ _ ∧ _ ∧ _ ∧ Grew W7 _›.2.2.2.2.2.2) | exact hb.grew (‹_ ∧ _ ∧ _ ∧ _ ∧ _ ∧ _ ∧ Grew W7 _›.2.2.2.2.2.2) | exact hq.grew (‹_ ∧ _ ∧ _ ∧ _ ∧ _ ∧ _ ∧ Grew W7 _›.2.2.2.2.2.2) | exact hn.grew (‹_ ∧ _ ∧ _ ∧ _ ∧ _ ∧ _ ∧ Grew W7 _›.2.2.2.2.2.2) | exact hh.grew (‹_ ∧ _ ∧ _ ∧ _ ∧ _ ∧ _ ∧ Grew W7 _›.2.2.2.2.2.2) | exact hi.grew (‹_ ∧ _ ∧ _ ∧ _ ∧ _ ∧ _ ∧ Grew W7 _›.2.2.2.2.2.2) | exact ‹NatS _ _ _› | exact (NatS.up ‹NatS _ _ _› ‹Below _ _ _›) | exact (NatS.up (NatS.up ‹NatS _ _ _› ‹Below _ _ _›) ‹Below _ _ _›) | exact (NatS.up (NatS.up (NatS.up ‹NatS _ _ _› ‹Below _ _ _›) ‹Below _ _ _›) ‹Below _ _ _›) | exact (NatS.up (NatS.up (NatS.up (NatS.up ‹NatS _ _ _› ‹Below _ _ _›) ‹Below _ _ _›) ‹Below _ _ _›) ‹Below _ _ _›)) (by with_reducible first | exact ha.grew (‹_ ∧ _ ∧ _ ∧ _ ∧ _ ∧ _ ∧ Grew W7 _›.2.2.2.2.2.2) | exact hb.grew (‹_ ∧ _ ∧ _ ∧ _ ∧ _ ∧ _ ∧ Grew W7 _›.2.2.2.2.2.2) | exact hq.grew (‹_ ∧ _ ∧ _ ∧ _ ∧ _ ∧ _ ∧ Grew W7 _›.2.2.2.2.2.2) | exact hn.grew (‹_ ∧ _ ∧ _ ∧ _ ∧ _ ∧ _ ∧ Grew W7 _›.2.2.2.2.2.2) | exact hh.grew (‹_ ∧ _ ∧ _ ∧ _ ∧ _ ∧ _ ∧ Grew W7 _›.2.2.2.2.2.2) | exact hi.grew (‹_ ∧ _ ∧ _ ∧ _ ∧ _ ∧ _ ∧ Grew W7 _›.2.2.2.2.2.2) | exact ‹NatS _ _ _› | exact (NatS.up ‹NatS _ _ _› ‹Below _ _ _›) | exact (NatS.up (NatS.up ‹NatS _ _ _› ‹Below _ _ _›) ‹Below _ _ _›) | exact (NatS.up (NatS.up (NatS.up ‹NatS _ _ _› ‹Below _ _ _›) ‹Below _ _ _›) ‹Below _ _ _›) | exact (NatS.up (NatS.up (NatS.up (NatS.up ‹NatS _ _ _› ‹Below _ _ _›) ‹Below _ _ _›) ‹Below _ _ _›) ‹Below _ _ _›)) (by omega) (by omega)).mono ?_; rintro e w9 ⟨cc, rfl, hc1, hc2, hc3, hbw⟩; (first | (have hc0 := hc1 HXY.out; subst hc0) | have hclt := hc3 hML); clear hc2))
      all_goals go_wp2
      all_goals go_ret
      all_goals exact ⟨rfl, hg9.trans (‹_ ∧ _ ∧ _ ∧ _ ∧ _ ∧ _ ∧ Grew W7 _›.2.2.2.2.2.2)⟩

end Go.Proofs.Ytahfnbbdhhehhaa
