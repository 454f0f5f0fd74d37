/- NatAdds: the walk. -/
import Derived.Test.YtahfnbbdhhehhaaLawE
import Derived.Test.YtahfnbbdhhehhaaRefF
namespace Go.Proofs.Ytahfnbbdhhehhaa
open Go.RowKit

set_option maxHeartbeats 3200000 in
theorem natAdds_walk (s t : ByteArray) (hs : s.size ≤ maxLen) (ht : t.size ≤ maxLen) (w : World) :
    Calls Try.prog 12 #[.string s, .string t] w fun e w' => e = .returned (.bool true) ∧ Below w.heap.size w w' := by
  unfold maxLen at hs ht
  cases hk1 : ok2 s t with
  | false =>
    go_enter Try.func12, Try.ntmps12
    go_wp2_with fail
    refine (two_spec s t _ hs ht).mono ?_
    rintro e w1 ⟨a, b, x, y, rfl, -, -, -, -, -, -, -, -, hb1⟩
    have hg1 := (Grew.call (Grew.refl _) hb1).trans (two4 w1 a b x y).1
    go_wp2_with fail
    change Calls _ _ _ (Two4 w1 a b x y) _
    generalize Two4 w1 a b x y = W1 at *
    refine (known_spec _).mono ?_
    rintro e w3 ⟨rfl, hb3⟩
    have hg3 := hg1.call hb3
    go_wp2_with fail
    refine (known_spec _).mono ?_
    rintro e w4 ⟨rfl, hb4⟩
    have hg4 := hg3.call hb4
    go_wp2_with fail
    refine (odd_spec s t _ hs ht).mono ?_
    rintro e w5 ⟨rfl, hb5⟩
    have hg5 := hg4.call hb5
    go_wp2
    go_ret
    exact ⟨rfl, hg5⟩
  | true =>
    go_enter Try.func12, Try.ntmps12
    go_wp2_with fail
    refine (two_spec s t _ hs ht).mono ?_
    rintro e w1 ⟨a, b, x, y, rfl, ha, hb, hx, hy, han, hbn, hxn, hyn, hb1⟩
    have hg1 := (Grew.call (Grew.refl _) hb1).trans (two4 w1 a b x y).1
    obtain ⟨hgA, hEa, hEb, hEx, hEy⟩ := two4 w1 a b x y
    have ha := ha.grew hgA
    have hb := hb.grew hgA
    have hx := hx.grew hgA
    have hy := hy.grew hgA
    go_wp2_with fail
    change Calls _ _ _ (Two4 w1 a b x y) _
    generalize Two4 w1 a b x y = W1 at *
    refine (known_spec _).mono ?_
    rintro e w3 ⟨rfl, hb3⟩
    have hg13 := Grew.call (Grew.refl _) hb3
    have hg3 := hg1.trans hg13
    have ha := ha.grew hg13
    have hb := hb.grew hg13
    have hx := hx.grew hg13
    have hy := hy.grew hg13
    have hEa := ent_grew hg13 hEa
    have hEb := ent_grew hg13 hEb
    have hEx := ent_grew hg13 hEx
    have hEy := ent_grew hg13 hEy
    clear hgA hg1 hb1 hg13 hb3 hk1
    generalize pval (fewS s 200) = A at *
    generalize pval (fewS t 200) = B at *
    have hac := box_cell hEa
    have hbc := box_cell hEb
    rcases Nat.lt_or_ge A B with hlt | hge
    · go_wp2_with fail
      refine (sub_lt ha hb (by omega) (by omega) hlt).mono ?_
      rintro e w4 ⟨rfl, hb4⟩
      have hg4 := (Grew.call (Grew.refl _) hb4).alloc (.cells #[.slice none 0 0] 24)
      have hEd := ent_new w4 (.cells #[.slice none 0 0] 24)
      have ha := ha.grew hg4
      have hEa := ent_grew hg4 hEa
      have hb := hb.grew hg4
      have hEb := ent_grew hg4 hEb
      have hx := hx.grew hg4
      have hEx := ent_grew hg4 hEx
      have hy := hy.grew hg4
      have hEy := ent_grew hg4 hEy
      have hg4 := hg3.trans hg4
      clear hb4 hg3 hac hbc
      go_upto_region 5 with fail
      generalize w4.alloc (.cells #[.slice none 0 0] 24) = W4 at *
      have mk : Hid (∀ w', Grew W4 w' → w'.cell? ⟨w1.heap.size, 0, none⟩ = some (.slice a.ao a.n a.c) ∧ w'.cell? ⟨w1.heap.size + 1, 0, none⟩ = some (.slice b.ao b.n b.c) ∧ w'.cell? ⟨w1.heap.size + 1 + 1, 0, none⟩ = some (.slice x.ao x.n x.c) ∧ w'.cell? ⟨w1.heap.size + 1 + 1 + 1, 0, none⟩ = some (.slice y.ao y.n y.c) ∧ Grew W4 w') :=
        fun w' hg => ⟨cell_grew hg hEa, cell_grew hg hEb, cell_grew hg hEx, cell_grew hg hEy, hg⟩
      go_region_held3 (fun w' => w'.cell? ⟨w1.heap.size, 0, none⟩ = some (.slice a.ao a.n a.c) ∧ w'.cell? ⟨w1.heap.size + 1, 0, none⟩ = some (.slice b.ao b.n b.c) ∧ w'.cell? ⟨w1.heap.size + 1 + 1, 0, none⟩ = some (.slice x.ao x.n x.c) ∧ w'.cell? ⟨w1.heap.size + 1 + 1 + 1, 0, none⟩ = some (.slice y.ao y.n y.c) ∧ Grew W4 w')
        (first
          | exact mk.out _ (Grew.refl _).drew
          | exact mk.out _ (Grew.call (‹_ ∧ _ ∧ _ ∧ _ ∧ Grew W4 _›.2.2.2.2) ‹Below _ _ _›))
        (first
          | (go_at_call 26; refine (cmp_spec (by with_reducible first | exact ha.grew (‹_ ∧ _ ∧ _ ∧ _ ∧ Grew W4 _›.2.2.2.2) | exact hb.grew (‹_ ∧ _ ∧ _ ∧ _ ∧ Grew W4 _›.2.2.2.2) | exact ‹NatS _ _ _› | exact (NatS.up ‹NatS _ _ _› ‹Below _ _ _›) | exact (NatS.up (NatS.up ‹NatS _ _ _› ‹Below _ _ _›) ‹Below _ _ _›) | exact (NatS.up (NatS.up (NatS.up ‹NatS _ _ _› ‹Below _ _ _›) ‹Below _ _ _›) ‹Below _ _ _›) | exact (NatS.up (NatS.up (NatS.up (NatS.up ‹NatS _ _ _› ‹Below _ _ _›) ‹Below _ _ _›) ‹Below _ _ _›) ‹Below _ _ _›)) (by with_reducible first | exact ha.grew (‹_ ∧ _ ∧ _ ∧ _ ∧ Grew W4 _›.2.2.2.2) | exact hb.grew (‹_ ∧ _ ∧ _ ∧ _ ∧ Grew W4 _›.2.2.2.2) | exact ‹NatS _ _ _› | exact (NatS.up ‹NatS _ _ _› ‹Below _ _ _›) | exact (NatS.up (NatS.up ‹NatS _ _ _› ‹Below _ _ _›) ‹Below _ _ _›) | exact (NatS.up (NatS.up (NatS.up ‹NatS _ _ _› ‹Below _ _ _›) ‹Below _ _ _›) ‹Below _ _ _›) | exact (NatS.up (NatS.up (NatS.up (NatS.up ‹NatS _ _ _› ‹Below _ _ _›) ‹Below _ _ _›) ‹Below _ _ _›) ‹Below _ _ _›)) (by omega) (by omega)).mono ?_; rintro e w9 ⟨rfl, hbw⟩)
          | (go_at_call 19; refine (rcmp_spec (by with_reducible first | exact hx.grew (‹_ ∧ _ ∧ _ ∧ _ ∧ Grew W4 _›.2.2.2.2) | exact hy.grew (‹_ ∧ _ ∧ _ ∧ _ ∧ Grew W4 _›.2.2.2.2) | exact ‹RefS _ _ _› | exact (RefS.up ‹RefS _ _ _› ‹Below _ _ _›) | exact (RefS.up (RefS.up ‹RefS _ _ _› ‹Below _ _ _›) ‹Below _ _ _›) | exact (RefS.up (RefS.up (RefS.up ‹RefS _ _ _› ‹Below _ _ _›) ‹Below _ _ _›) ‹Below _ _ _›) | exact (RefS.up (RefS.up (RefS.up (RefS.up ‹RefS _ _ _› ‹Below _ _ _›) ‹Below _ _ _›) ‹Below _ _ _›) ‹Below _ _ _›)) (by with_reducible first | exact hx.grew (‹_ ∧ _ ∧ _ ∧ _ ∧ Grew W4 _›.2.2.2.2) | exact hy.grew (‹_ ∧ _ ∧ _ ∧ _ ∧ Grew W4 _›.2.2.2.2) | exact ‹RefS _ _ _› | exact (RefS.up ‹RefS _ _ _› ‹Below _ _ _›) | exact (RefS.up (RefS.up ‹RefS _ _ _› ‹Below _ _ _›) ‹Below _ _ _›) | exact (RefS.up (RefS.up (RefS.up ‹RefS _ _ _› ‹Below _ _ _›) ‹Below _ _ _›) ‹Below _ _ _›) | exact (RefS.up (RefS.up (RefS.up (RefS.up ‹RefS _ _ _› ‹Below _ _ _›) ‹Below _ _ _›) ‹Below _ _ _›) ‹Below _ _ _›)) (by omega) (by omega)).mono ?_; rintro e w9 ⟨rfl, hbw⟩)
          | (go_at_call 40; refine (add_spec (by with_reducible first | exact ha.grew (‹_ ∧ _ ∧ _ ∧ _ ∧ Grew W4 _›.2.2.2.2) | exact hb.grew (‹_ ∧ _ ∧ _ ∧ _ ∧ Grew W4 _›.2.2.2.2) | exact ‹NatS _ _ _› | exact (NatS.up ‹NatS _ _ _› ‹Below _ _ _›) | exact (NatS.up (NatS.up ‹NatS _ _ _› ‹Below _ _ _›) ‹Below _ _ _›) | exact (NatS.up (NatS.up (NatS.up ‹NatS _ _ _› ‹Below _ _ _›) ‹Below _ _ _›) ‹Below _ _ _›) | exact (NatS.up (NatS.up (NatS.up (NatS.up ‹NatS _ _ _› ‹Below _ _ _›) ‹Below _ _ _›) ‹Below _ _ _›) ‹Below _ _ _›)) (by with_reducible first | exact ha.grew (‹_ ∧ _ ∧ _ ∧ _ ∧ Grew W4 _›.2.2.2.2) | exact hb.grew (‹_ ∧ _ ∧ _ ∧ _ ∧ Grew W4 _›.2.2.2.2) | exact ‹NatS _ _ _› | exact (NatS.up ‹NatS _ _ _› ‹Below _ _ _›) | exact (NatS.up (NatS.up ‹NatS _ _ _› ‹Below _ _ _›) ‹Below _ _ _›) | exact (NatS.up (NatS.up (NatS.up ‹NatS _ _ _› ‹Below _ _ _›) ‹Below _ _ _›) ‹Below _ _ _›) | exact (NatS.up (NatS.up (NatS.up (NatS.up ‹NatS _ _ _› ‹Below _ _ _›) ‹Below _ _ _›) ‹Below _ _ _›) ‹Below _ _ _›)) (by omega) (by omega)).mono ?_; rintro e w9 ⟨v, rfl, hv, hvn, hbw⟩)
          | (go_at_call 42; refine (radd_spec (by with_reducible first | exact hx.grew (‹_ ∧ _ ∧ _ ∧ _ ∧ Grew W4 _›.2.2.2.2) | exact hy.grew (‹_ ∧ _ ∧ _ ∧ _ ∧ Grew W4 _›.2.2.2.2) | exact ‹RefS _ _ _› | exact (RefS.up ‹RefS _ _ _› ‹Below _ _ _›) | exact (RefS.up (RefS.up ‹RefS _ _ _› ‹Below _ _ _›) ‹Below _ _ _›) | exact (RefS.up (RefS.up (RefS.up ‹RefS _ _ _› ‹Below _ _ _›) ‹Below _ _ _›) ‹Below _ _ _›) | exact (RefS.up (RefS.up (RefS.up (RefS.up ‹RefS _ _ _› ‹Below _ _ _›) ‹Below _ _ _›) ‹Below _ _ _›) ‹Below _ _ _›)) (by with_reducible first | exact hx.grew (‹_ ∧ _ ∧ _ ∧ _ ∧ Grew W4 _›.2.2.2.2) | exact hy.grew (‹_ ∧ _ ∧ _ ∧ _ ∧ Grew W4 _›.2.2.2.2) | exact ‹RefS _ _ _› | exact (RefS.up ‹RefS _ _ _› ‹Below _ _ _›) | exact (RefS.up (RefS.up ‹RefS _ _ _› ‹Below _ _ _›) ‹Below _ _ _›) | exact (RefS.up (RefS.up (RefS.up ‹RefS _ _ _› ‹Below _ _ _›) ‹Below _ _ _›) ‹Below _ _ _›) | exact (RefS.up (RefS.up (RefS.up (RefS.up ‹RefS _ _ _› ‹Below _ _ _›) ‹Below _ _ _›) ‹Below _ _ _›) ‹Below _ _ _›)) (by omega) (by omega)).mono ?_; rintro e w9 ⟨v, rfl, hv, hvn, hbw⟩)
          | (go_at_call 21; refine (same_spec (by with_reducible first | exact ha.grew (‹_ ∧ _ ∧ _ ∧ _ ∧ Grew W4 _›.2.2.2.2) | exact hb.grew (‹_ ∧ _ ∧ _ ∧ _ ∧ Grew W4 _›.2.2.2.2) | exact ‹NatS _ _ _› | exact (NatS.up ‹NatS _ _ _› ‹Below _ _ _›) | exact (NatS.up (NatS.up ‹NatS _ _ _› ‹Below _ _ _›) ‹Below _ _ _›) | exact (NatS.up (NatS.up (NatS.up ‹NatS _ _ _› ‹Below _ _ _›) ‹Below _ _ _›) ‹Below _ _ _›) | exact (NatS.up (NatS.up (NatS.up (NatS.up ‹NatS _ _ _› ‹Below _ _ _›) ‹Below _ _ _›) ‹Below _ _ _›) ‹Below _ _ _›)) (by with_reducible first | exact hx.grew (‹_ ∧ _ ∧ _ ∧ _ ∧ Grew W4 _›.2.2.2.2) | exact hy.grew (‹_ ∧ _ ∧ _ ∧ _ ∧ Grew W4 _›.2.2.2.2) | exact ‹RefS _ _ _› | exact (RefS.up ‹RefS _ _ _› ‹Below _ _ _›) | exact (RefS.up (RefS.up ‹RefS _ _ _› ‹Below _ _ _›) ‹Below _ _ _›) | exact (RefS.up (RefS.up (RefS.up ‹RefS _ _ _› ‹Below _ _ _›) ‹Below _ _ _›) ‹Below _ _ _›) | exact (RefS.up (RefS.up (RefS.up (RefS.up ‹RefS _ _ _› ‹Below _ _ _›) ‹Below _ _ _›) ‹Below _ _ _›) ‹Below _ _ _›)) (by omega) (by omega)).mono ?_; rintro e w9 ⟨rfl, hbw⟩))
      have hg5 := ‹_ ∧ _ ∧ _ ∧ _ ∧ Grew W4 _›.2.2.2.2
      have ha := ha.grew hg5
      have hEa := ent_grew hg5 hEa
      have hb := hb.grew hg5
      have hEb := ent_grew hg5 hEb
      have hx := hx.grew hg5
      have hEx := ent_grew hg5 hEx
      have hy := hy.grew hg5
      have hEy := ent_grew hg5 hEy
      have hEd := ent_grew hg5 hEd
      have hg9 := hg4.trans hg5
      have hxc := box_cell hEx
      have hyc := box_cell hEy
      have hdc := box_cell hEd
      clear mk hg5 hg4
      go_wp2_with fail
      refine (rcmp_spec hx hy (by omega) (by omega)).mono ?_
      rintro e w6 ⟨rfl, hb6⟩
      have hg6 := Grew.call (Grew.refl _) hb6
      rw [cmpN_lt hlt]
      have hdc6 := cell_grew hg6 hEd
      go_wp2_with fail
      refine (known_t (c := ⟨#[48]⟩) (NatS.nil w6 none 0 (by omega)) (Nat.zero_le _) (by decide +kernel) (by decide +kernel)).mono ?_
      rintro e w7 ⟨rfl, hb7⟩
      go_wp2
      go_ret
      exact ⟨rfl, (hg9.trans hg6).call hb7⟩
    · go_wp2_with fail
      refine (sub_ge ha hb (by omega) (by omega) hge).mono ?_
      rintro e w4 ⟨d, rfl, hd, hdn, hb4⟩
      have hg4 := (Grew.call (Grew.refl _) hb4).alloc (.cells #[.slice d.ao d.n d.c] 24)
      have hEd := ent_new w4 (.cells #[.slice d.ao d.n d.c] 24)
      have ha := ha.grew hg4
      have hEa := ent_grew hg4 hEa
      have hb := hb.grew hg4
      have hEb := ent_grew hg4 hEb
      have hx := hx.grew hg4
      have hEx := ent_grew hg4 hEx
      have hy := hy.grew hg4
      have hEy := ent_grew hg4 hEy
      have hd := hd.alloc (.cells #[.slice d.ao d.n d.c] 24)
      have hg4 := hg3.trans hg4
      clear hb4 hg3 hac hbc
      go_upto_region 5 with fail
      generalize w4.alloc (.cells #[.slice d.ao d.n d.c] 24) = W4 at *
      have mk : Hid (∀ w', Grew W4 w' → w'.cell? ⟨w1.heap.size, 0, none⟩ = some (.slice a.ao a.n a.c) ∧ w'.cell? ⟨w1.heap.size + 1, 0, none⟩ = some (.slice b.ao b.n b.c) ∧ w'.cell? ⟨w1.heap.size + 1 + 1, 0, none⟩ = some (.slice x.ao x.n x.c) ∧ w'.cell? ⟨w1.heap.size + 1 + 1 + 1, 0, none⟩ = some (.slice y.ao y.n y.c) ∧ Grew W4 w') :=
        fun w' hg => ⟨cell_grew hg hEa, cell_grew hg hEb, cell_grew hg hEx, cell_grew hg hEy, hg⟩
      go_region_held3 (fun w' => w'.cell? ⟨w1.heap.size, 0, none⟩ = some (.slice a.ao a.n a.c) ∧ w'.cell? ⟨w1.heap.size + 1, 0, none⟩ = some (.slice b.ao b.n b.c) ∧ w'.cell? ⟨w1.heap.size + 1 + 1, 0, none⟩ = some (.slice x.ao x.n x.c) ∧ w'.cell? ⟨w1.heap.size + 1 + 1 + 1, 0, none⟩ = some (.slice y.ao y.n y.c) ∧ Grew W4 w')
        (first
          | exact mk.out _ (Grew.refl _).drew
          | exact mk.out _ (Grew.call (‹_ ∧ _ ∧ _ ∧ _ ∧ Grew W4 _›.2.2.2.2) ‹Below _ _ _›))
        (first
          | (go_at_call 26; refine (cmp_spec (by with_reducible first | exact ha.grew (‹_ ∧ _ ∧ _ ∧ _ ∧ Grew W4 _›.2.2.2.2) | exact hb.grew (‹_ ∧ _ ∧ _ ∧ _ ∧ Grew W4 _›.2.2.2.2) | exact ‹NatS _ _ _› | exact (NatS.up ‹NatS _ _ _› ‹Below _ _ _›) | exact (NatS.up (NatS.up ‹NatS _ _ _› ‹Below _ _ _›) ‹Below _ _ _›) | exact (NatS.up (NatS.up (NatS.up ‹NatS _ _ _› ‹Below _ _ _›) ‹Below _ _ _›) ‹Below _ _ _›) | exact (NatS.up (NatS.up (NatS.up (NatS.up ‹NatS _ _ _› ‹Below _ _ _›) ‹Below _ _ _›) ‹Below _ _ _›) ‹Below _ _ _›)) (by with_reducible first | exact ha.grew (‹_ ∧ _ ∧ _ ∧ _ ∧ Grew W4 _›.2.2.2.2) | exact hb.grew (‹_ ∧ _ ∧ _ ∧ _ ∧ Grew W4 _›.2.2.2.2) | exact ‹NatS _ _ _› | exact (NatS.up ‹NatS _ _ _› ‹Below _ _ _›) | exact (NatS.up (NatS.up ‹NatS _ _ _› ‹Below _ _ _›) ‹Below _ _ _›) | exact (NatS.up (NatS.up (NatS.up ‹NatS _ _ _› ‹Below _ _ _›) ‹Below _ _ _›) ‹Below _ _ _›) | exact (NatS.up (NatS.up (NatS.up (NatS.up ‹NatS _ _ _› ‹Below _ _ _›) ‹Below _ _ _›) ‹Below _ _ _›) ‹Below _ _ _›)) (by omega) (by omega)).mono ?_; rintro e w9 ⟨rfl, hbw⟩)
          | (go_at_call 19; refine (rcmp_spec (by with_reducible first | exact hx.grew (‹_ ∧ _ ∧ _ ∧ _ ∧ Grew W4 _›.2.2.2.2) | exact hy.grew (‹_ ∧ _ ∧ _ ∧ _ ∧ Grew W4 _›.2.2.2.2) | exact ‹RefS _ _ _› | exact (RefS.up ‹RefS _ _ _› ‹Below _ _ _›) | exact (RefS.up (RefS.up ‹RefS _ _ _› ‹Below _ _ _›) ‹Below _ _ _›) | exact (RefS.up (RefS.up (RefS.up ‹RefS _ _ _› ‹Below _ _ _›) ‹Below _ _ _›) ‹Below _ _ _›) | exact (RefS.up (RefS.up (RefS.up (RefS.up ‹RefS _ _ _› ‹Below _ _ _›) ‹Below _ _ _›) ‹Below _ _ _›) ‹Below _ _ _›)) (by with_reducible first | exact hx.grew (‹_ ∧ _ ∧ _ ∧ _ ∧ Grew W4 _›.2.2.2.2) | exact hy.grew (‹_ ∧ _ ∧ _ ∧ _ ∧ Grew W4 _›.2.2.2.2) | exact ‹RefS _ _ _› | exact (RefS.up ‹RefS _ _ _› ‹Below _ _ _›) | exact (RefS.up (RefS.up ‹RefS _ _ _› ‹Below _ _ _›) ‹Below _ _ _›) | exact (RefS.up (RefS.up (RefS.up ‹RefS _ _ _› ‹Below _ _ _›) ‹Below _ _ _›) ‹Below _ _ _›) | exact (RefS.up (RefS.up (RefS.up (RefS.up ‹RefS _ _ _› ‹Below _ _ _›) ‹Below _ _ _›) ‹Below _ _ _›) ‹Below _ _ _›)) (by omega) (by omega)).mono ?_; rintro e w9 ⟨rfl, hbw⟩)
          | (go_at_call 40; refine (add_spec (by with_reducible first | exact ha.grew (‹_ ∧ _ ∧ _ ∧ _ ∧ Grew W4 _›.2.2.2.2) | exact hb.grew (‹_ ∧ _ ∧ _ ∧ _ ∧ Grew W4 _›.2.2.2.2) | exact ‹NatS _ _ _› | exact (NatS.up ‹NatS _ _ _› ‹Below _ _ _›) | exact (NatS.up (NatS.up ‹NatS _ _ _› ‹Below _ _ _›) ‹Below _ _ _›) | exact (NatS.up (NatS.up (NatS.up ‹NatS _ _ _› ‹Below _ _ _›) ‹Below _ _ _›) ‹Below _ _ _›) | exact (NatS.up (NatS.up (NatS.up (NatS.up ‹NatS _ _ _› ‹Below _ _ _›) ‹Below _ _ _›) ‹Below _ _ _›) ‹Below _ _ _›)) (by with_reducible first | exact ha.grew (‹_ ∧ _ ∧ _ ∧ _ ∧ Grew W4 _›.2.2.2.2) | exact hb.grew (‹_ ∧ _ ∧ _ ∧ _ ∧ Grew W4 _›.2.2.2.2) | exact ‹NatS _ _ _› | exact (NatS.up ‹NatS _ _ _› ‹Below _ _ _›) | exact (NatS.up (NatS.up ‹NatS _ _ _› ‹Below _ _ _›) ‹Below _ _ _›) | exact (NatS.up (NatS.up (NatS.up ‹NatS _ _ _› ‹Below _ _ _›) ‹Below _ _ _›) ‹Below _ _ _›) | exact (NatS.up (NatS.up (NatS.up (NatS.up ‹NatS _ _ _› ‹Below _ _ _›) ‹Below _ _ _›) ‹Below _ _ _›) ‹Below _ _ _›)) (by omega) (by omega)).mono ?_; rintro e w9 ⟨v, rfl, hv, hvn, hbw⟩)
          | (go_at_call 42; refine (radd_spec (by with_reducible first | exact hx.grew (‹_ ∧ _ ∧ _ ∧ _ ∧ Grew W4 _›.2.2.2.2) | exact hy.grew (‹_ ∧ _ ∧ _ ∧ _ ∧ Grew W4 _›.2.2.2.2) | exact ‹RefS _ _ _› | exact (RefS.up ‹RefS _ _ _› ‹Below _ _ _›) | exact (RefS.up (RefS.up ‹RefS _ _ _› ‹Below _ _ _›) ‹Below _ _ _›) | exact (RefS.up (RefS.up (RefS.up ‹RefS _ _ _› ‹Below _ _ _›) ‹Below _ _ _›) ‹Below _ _ _›) | exact (RefS.up (RefS.up (RefS.up (RefS.up ‹RefS _ _ _› ‹Below _ _ _›) ‹Below _ _ _›) ‹Below _ _ _›) ‹Below _ _ _›)) (by with_reducible first | exact hx.grew (‹_ ∧ _ ∧ _ ∧ _ ∧ Grew W4 _›.2.2.2.2) | exact hy.grew (‹_ ∧ _ ∧ _ ∧ _ ∧ Grew W4 _›.2.2.2.2) | exact ‹RefS _ _ _› | exact (RefS.up ‹RefS _ _ _› ‹Below _ _ _›) | exact (RefS.up (RefS.up ‹RefS _ _ _› ‹Below _ _ _›) ‹Below _ _ _›) | exact (RefS.up (RefS.up (RefS.up ‹RefS _ _ _› ‹Below _ _ _›) ‹Below _ _ _›) ‹Below _ _ _›) | exact (RefS.up (RefS.up (RefS.up (RefS.up ‹RefS _ _ _› ‹Below _ _ _›) ‹Below _ _ _›) ‹Below _ _ _›) ‹Below _ _ _›)) (by omega) (by omega)).mono ?_; rintro e w9 ⟨v, rfl, hv, hvn, hbw⟩)
          | (go_at_call 21; refine (same_spec (by with_reducible first | exact ha.grew (‹_ ∧ _ ∧ _ ∧ _ ∧ Grew W4 _›.2.2.2.2) | exact hb.grew (‹_ ∧ _ ∧ _ ∧ _ ∧ Grew W4 _›.2.2.2.2) | exact ‹NatS _ _ _› | exact (NatS.up ‹NatS _ _ _› ‹Below _ _ _›) | exact (NatS.up (NatS.up ‹NatS _ _ _› ‹Below _ _ _›) ‹Below _ _ _›) | exact (NatS.up (NatS.up (NatS.up ‹NatS _ _ _› ‹Below _ _ _›) ‹Below _ _ _›) ‹Below _ _ _›) | exact (NatS.up (NatS.up (NatS.up (NatS.up ‹NatS _ _ _› ‹Below _ _ _›) ‹Below _ _ _›) ‹Below _ _ _›) ‹Below _ _ _›)) (by with_reducible first | exact hx.grew (‹_ ∧ _ ∧ _ ∧ _ ∧ Grew W4 _›.2.2.2.2) | exact hy.grew (‹_ ∧ _ ∧ _ ∧ _ ∧ Grew W4 _›.2.2.2.2) | exact ‹RefS _ _ _› | exact (RefS.up ‹RefS _ _ _› ‹Below _ _ _›) | exact (RefS.up (RefS.up ‹RefS _ _ _› ‹Below _ _ _›) ‹Below _ _ _›) | exact (RefS.up (RefS.up (RefS.up ‹RefS _ _ _› ‹Below _ _ _›) ‹Below _ _ _›) ‹Below _ _ _›) | exact (RefS.up (RefS.up (RefS.up (RefS.up ‹RefS _ _ _› ‹Below _ _ _›) ‹Below _ _ _›) ‹Below _ _ _›) ‹Below _ _ _›)) (by omega) (by omega)).mono ?_; rintro e w9 ⟨rfl, hbw⟩))
      have hg5 := ‹_ ∧ _ ∧ _ ∧ _ ∧ Grew W4 _›.2.2.2.2
      have ha := ha.grew hg5
      have hEa := ent_grew hg5 hEa
      have hb := hb.grew hg5
      have hEb := ent_grew hg5 hEb
      have hx := hx.grew hg5
      have hEx := ent_grew hg5 hEx
      have hy := hy.grew hg5
      have hEy := ent_grew hg5 hEy
      have hEd := ent_grew hg5 hEd
      have hd := hd.grew hg5
      have hg9 := hg4.trans hg5
      have hxc := box_cell hEx
      have hyc := box_cell hEy
      have hdc := box_cell hEd
      clear mk hg5 hg4
      go_wp2_with fail
      refine (rcmp_spec hx hy (by omega) (by omega)).mono ?_
      rintro e w6 ⟨rfl, hb6⟩
      have hg6 := Grew.call (Grew.refl _) hb6
      have hcge : 0 ≤ cmpN A B := by unfold cmpN; split <;> (try split) <;> omega
      have hx := hx.grew hg6
      have hy := hy.grew hg6
      have hEx := ent_grew hg6 hEx
      have hEy := ent_grew hg6 hEy
      have hEd := ent_grew hg6 hEd
      have hd := hd.grew hg6
      have hg9 := hg9.trans hg6
      clear hg6 hb6 hxc hyc hdc
      go_upto_region 9 with fail
      have mk : Hid (∀ w', Grew w6 w' → w'.cell? ⟨w4.heap.size, 0, none⟩ = some (.slice d.ao d.n d.c) ∧ w'.cell? ⟨w1.heap.size + 1 + 1, 0, none⟩ = some (.slice x.ao x.n x.c) ∧ w'.cell? ⟨w1.heap.size + 1 + 1 + 1, 0, none⟩ = some (.slice y.ao y.n y.c) ∧ Grew w6 w') :=
        fun w' hg => ⟨cell_grew hg hEd, cell_grew hg hEx, cell_grew hg hEy, hg⟩
      go_region_held3 (fun w' => w'.cell? ⟨w4.heap.size, 0, none⟩ = some (.slice d.ao d.n d.c) ∧ w'.cell? ⟨w1.heap.size + 1 + 1, 0, none⟩ = some (.slice x.ao x.n x.c) ∧ w'.cell? ⟨w1.heap.size + 1 + 1 + 1, 0, none⟩ = some (.slice y.ao y.n y.c) ∧ Grew w6 w')
        (first
          | exact mk.out _ (Grew.refl _).drew
          | exact mk.out _ (Grew.call (‹_ ∧ _ ∧ _ ∧ Grew w6 _›.2.2.2) ‹Below _ _ _›))
        (first
          | (go_at_call 43; refine (rless_spec (by with_reducible first | exact hx.grew (‹_ ∧ _ ∧ _ ∧ Grew w6 _›.2.2.2) | exact hy.grew (‹_ ∧ _ ∧ _ ∧ Grew w6 _›.2.2.2) | exact ‹RefS _ _ _› | exact (RefS.up ‹RefS _ _ _› ‹Below _ _ _›) | exact (RefS.up (RefS.up ‹RefS _ _ _› ‹Below _ _ _›) ‹Below _ _ _›) | exact (RefS.up (RefS.up (RefS.up ‹RefS _ _ _› ‹Below _ _ _›) ‹Below _ _ _›) ‹Below _ _ _›) | exact (RefS.up (RefS.up (RefS.up (RefS.up ‹RefS _ _ _› ‹Below _ _ _›) ‹Below _ _ _›) ‹Below _ _ _›) ‹Below _ _ _›)) (by with_reducible first | exact hx.grew (‹_ ∧ _ ∧ _ ∧ Grew w6 _›.2.2.2) | exact hy.grew (‹_ ∧ _ ∧ _ ∧ Grew w6 _›.2.2.2) | exact ‹RefS _ _ _› | exact (RefS.up ‹RefS _ _ _› ‹Below _ _ _›) | exact (RefS.up (RefS.up ‹RefS _ _ _› ‹Below _ _ _›) ‹Below _ _ _›) | exact (RefS.up (RefS.up (RefS.up ‹RefS _ _ _› ‹Below _ _ _›) ‹Below _ _ _›) ‹Below _ _ _›) | exact (RefS.up (RefS.up (RefS.up (RefS.up ‹RefS _ _ _› ‹Below _ _ _›) ‹Below _ _ _›) ‹Below _ _ _›) ‹Below _ _ _›)) (by omega) (by first | omega | assumption)).mono ?_; rintro e w9 ⟨v, rfl, hv, hvn, hbw⟩)
          | (go_at_call 21; refine (same_spec (by with_reducible first | exact hd.grew (‹_ ∧ _ ∧ _ ∧ Grew w6 _›.2.2.2) | exact ‹NatS _ _ _› | exact (NatS.up ‹NatS _ _ _› ‹Below _ _ _›) | exact (NatS.up (NatS.up ‹NatS _ _ _› ‹Below _ _ _›) ‹Below _ _ _›) | exact (NatS.up (NatS.up (NatS.up ‹NatS _ _ _› ‹Below _ _ _›) ‹Below _ _ _›) ‹Below _ _ _›) | exact (NatS.up (NatS.up (NatS.up (NatS.up ‹NatS _ _ _› ‹Below _ _ _›) ‹Below _ _ _›) ‹Below _ _ _›) ‹Below _ _ _›)) (by with_reducible first | exact hx.grew (‹_ ∧ _ ∧ _ ∧ Grew w6 _›.2.2.2) | exact hy.grew (‹_ ∧ _ ∧ _ ∧ Grew w6 _›.2.2.2) | exact ‹RefS _ _ _› | exact (RefS.up ‹RefS _ _ _› ‹Below _ _ _›) | exact (RefS.up (RefS.up ‹RefS _ _ _› ‹Below _ _ _›) ‹Below _ _ _›) | exact (RefS.up (RefS.up (RefS.up ‹RefS _ _ _› ‹Below _ _ _›) ‹Below _ _ _›) ‹Below _ _ _›) | exact (RefS.up (RefS.up (RefS.up (RefS.up ‹RefS _ _ _› ‹Below _ _ _›) ‹Below _ _ _›) ‹Below _ _ _›) ‹Below _ _ _›)) (by omega) (by omega)).mono ?_; rintro e w9 ⟨rfl, hbw⟩))
      all_goals go_wp2
      all_goals go_ret
      all_goals exact ⟨rfl, hg9.trans (‹_ ∧ _ ∧ _ ∧ Grew w6 _›.2.2.2)⟩

end Go.Proofs.Ytahfnbbdhhehhaa
