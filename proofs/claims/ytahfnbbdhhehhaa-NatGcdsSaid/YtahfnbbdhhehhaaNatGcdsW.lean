/- NatGcds: the walk. -/
import Derived.Test.YtahfnbbdhhehhaaLawE
import Derived.Test.YtahfnbbdhhehhaaRefI
namespace Go.Proofs.Ytahfnbbdhhehhaa
open Go.RowKit

set_option maxHeartbeats 3200000 in
theorem natGcds_walk (s : ByteArray) (t : ByteArray) (hs : s.size ≤ maxLen) (ht : t.size ≤ maxLen) (w : World) :
    Calls Try.prog 9 #[.string s, .string t] w fun e w' => e = .returned (.bool true) ∧ Below w.heap.size w w' := by
  unfold maxLen at hs ht
  cases hk1 : ok2 (fewS s 60) (fewS t 60) with
  | false =>
    go_enter Try.func9, Try.ntmps9
    go_wp2_with fail
    refine (few_spec s 60 _ hs (by omega)).mono ?_
    rintro e w' ⟨rfl, rfl⟩
    go_wp2_with fail
    refine (few_spec t 60 _ ht (by omega)).mono ?_
    rintro e w' ⟨rfl, rfl⟩
    go_wp2_with fail
    refine (two_spec (fewS s 60) (fewS t 60) _ (by have := fewS_le s 60; omega) (by have := fewS_le t 60; omega)).mono ?_
    rintro e w1 ⟨a, b, x, y, rfl, ha, hb, -, -, han, hbn, -, -, hb1⟩
    have hg1 := (Grew.call (Grew.refl _) hb1).trans (two4 w1 a b x y).1
    obtain ⟨hgA, hEa, hEb, _, _⟩ := two4 w1 a b x y
    replace ha := ha.grew hgA
    replace hb := hb.grew hgA
    go_wp2_with fail
    change Calls _ _ _ (Two4 w1 a b x y) _
    generalize Two4 w1 a b x y = W1 at *
    refine (known_spec _).mono ?_
    rintro e w3 ⟨rfl, hb3⟩
    have hg3 := hg1.call hb3
    go_wp2_with fail
    refine (known_spec _).mono ?_
    rintro e w4 ⟨rfl, hb4⟩
    have hg4 := hg3.call hb4
    go_wp2_with fail
    refine (few_spec s 60 _ hs (by omega)).mono ?_
    rintro e w' ⟨rfl, rfl⟩
    go_wp2_with fail
    refine (few_spec t 60 _ ht (by omega)).mono ?_
    rintro e w' ⟨rfl, rfl⟩
    go_wp2_with fail
    refine (odd_spec (fewS s 60) (fewS t 60) _ (by have := fewS_le s 60; omega) (by have := fewS_le t 60; omega)).mono ?_
    rintro e w5 ⟨rfl, hb5⟩
    have hg5 := hg4.call hb5
    go_wp2
    go_ret
    exact ⟨rfl, hg5⟩
  | true =>
    go_enter Try.func9, Try.ntmps9
    go_wp2_with fail
    refine (few_spec s 60 _ hs (by omega)).mono ?_
    rintro e w' ⟨rfl, rfl⟩
    go_wp2_with fail
    refine (few_spec t 60 _ ht (by omega)).mono ?_
    rintro e w' ⟨rfl, rfl⟩
    go_wp2_with fail
    refine (two_spec (fewS s 60) (fewS t 60) _ (by have := fewS_le s 60; omega) (by have := fewS_le t 60; omega)).mono ?_
    rintro e w1 ⟨a, b, x, y, rfl, ha, hb, hx, hy, han, hbn, hxn, hyn, hb1⟩
    have hg1 := (Grew.call (Grew.refl _) hb1).trans (two4 w1 a b x y).1
    obtain ⟨hgA, hEa, hEb, hEx, hEy⟩ := two4 w1 a b x y
    have ha := ha.grew hgA
    have hb := hb.grew hgA
    have hx := hx.grew hgA
    have hy := hy.grew hgA
    go_wp2_with fail
    change Calls _ _ _ (Two4 w1 a b x y) _
    generalize Two4 w1 a b x y = W1 at *
    refine (known_spec _).mono ?_
    rintro e w3 ⟨rfl, hb3⟩
    have hg13 := Grew.call (Grew.refl _) hb3
    have hg3 := hg1.trans hg13
    replace ha := ha.grew hg13
    replace hb := hb.grew hg13
    replace hx := hx.grew hg13
    replace hy := hy.grew hg13
    replace hEa := ent_grew hg13 hEa
    replace hEb := ent_grew hg13 hEb
    replace hEx := ent_grew hg13 hEx
    replace hEy := ent_grew hg13 hEy
    clear hgA hg1 hb1 hg13 hb3 hk1
    generalize pval (fewS (fewS s 60) 200) = A at *
    generalize pval (fewS (fewS t 60) 200) = B at *
    go_upto_region 4 with fail
    have mk : Hid (∀ w', Grew w3 w' → w'.cell? ⟨w1.heap.size, 0, none⟩ = some (.slice a.ao a.n a.c) ∧ w'.cell? ⟨w1.heap.size + 1, 0, none⟩ = some (.slice b.ao b.n b.c) ∧ w'.cell? ⟨w1.heap.size + 1 + 1, 0, none⟩ = some (.slice x.ao x.n x.c) ∧ w'.cell? ⟨w1.heap.size + 1 + 1 + 1, 0, none⟩ = some (.slice y.ao y.n y.c) ∧ Grew w3 w') :=
      fun w' hg => ⟨cell_grew hg hEa, cell_grew hg hEb, cell_grew hg hEx, cell_grew hg hEy, hg⟩
    clear hEa hEb hEx hEy
    go_region_held3 (fun w' => w'.cell? ⟨w1.heap.size, 0, none⟩ = some (.slice a.ao a.n a.c) ∧ w'.cell? ⟨w1.heap.size + 1, 0, none⟩ = some (.slice b.ao b.n b.c) ∧ w'.cell? ⟨w1.heap.size + 1 + 1, 0, none⟩ = some (.slice x.ao x.n x.c) ∧ w'.cell? ⟨w1.heap.size + 1 + 1 + 1, 0, none⟩ = some (.slice y.ao y.n y.c) ∧ Grew w3 w')
      (first
        | exact mk.out _ (Grew.refl _).drew
        | exact mk.out _ (Grew.call (‹_ ∧ _ ∧ _ ∧ _ ∧ Grew w3 _›.2.2.2.2) ‹Below _ _ _›))
      (first
        | (go_at_call 38; refine (gcd_spec (by with_reducible first | exact ha.grew (‹_ ∧ _ ∧ _ ∧ _ ∧ Grew w3 _›.2.2.2.2) | exact hb.grew (‹_ ∧ _ ∧ _ ∧ _ ∧ Grew w3 _›.2.2.2.2) | exact ‹NatS _ _ _› | exact (NatS.up ‹NatS _ _ _› ‹Below _ _ _›) | exact (NatS.up (NatS.up ‹NatS _ _ _› ‹Below _ _ _›) ‹Below _ _ _›) | exact (NatS.up (NatS.up (NatS.up ‹NatS _ _ _› ‹Below _ _ _›) ‹Below _ _ _›) ‹Below _ _ _›) | exact (NatS.up (NatS.up (NatS.up (NatS.up ‹NatS _ _ _› ‹Below _ _ _›) ‹Below _ _ _›) ‹Below _ _ _›) ‹Below _ _ _›)) (by with_reducible first | exact ha.grew (‹_ ∧ _ ∧ _ ∧ _ ∧ Grew w3 _›.2.2.2.2) | exact hb.grew (‹_ ∧ _ ∧ _ ∧ _ ∧ Grew w3 _›.2.2.2.2) | exact ‹NatS _ _ _› | exact (NatS.up ‹NatS _ _ _› ‹Below _ _ _›) | exact (NatS.up (NatS.up ‹NatS _ _ _› ‹Below _ _ _›) ‹Below _ _ _›) | exact (NatS.up (NatS.up (NatS.up ‹NatS _ _ _› ‹Below _ _ _›) ‹Below _ _ _›) ‹Below _ _ _›) | exact (NatS.up (NatS.up (NatS.up (NatS.up ‹NatS _ _ _› ‹Below _ _ _›) ‹Below _ _ _›) ‹Below _ _ _›) ‹Below _ _ _›)) (by omega) (by omega)).mono ?_; rintro e w9 ⟨v, rfl, hv, hvn, hbw⟩)
        | (go_at_call 39; refine (rgcd_spec (by with_reducible first | exact hx.grew (‹_ ∧ _ ∧ _ ∧ _ ∧ Grew w3 _›.2.2.2.2) | exact hy.grew (‹_ ∧ _ ∧ _ ∧ _ ∧ Grew w3 _›.2.2.2.2) | exact ‹RefS _ _ _› | exact (RefS.up ‹RefS _ _ _› ‹Below _ _ _›) | exact (RefS.up (RefS.up ‹RefS _ _ _› ‹Below _ _ _›) ‹Below _ _ _›) | exact (RefS.up (RefS.up (RefS.up ‹RefS _ _ _› ‹Below _ _ _›) ‹Below _ _ _›) ‹Below _ _ _›) | exact (RefS.up (RefS.up (RefS.up (RefS.up ‹RefS _ _ _› ‹Below _ _ _›) ‹Below _ _ _›) ‹Below _ _ _›) ‹Below _ _ _›)) (by with_reducible first | exact hx.grew (‹_ ∧ _ ∧ _ ∧ _ ∧ Grew w3 _›.2.2.2.2) | exact hy.grew (‹_ ∧ _ ∧ _ ∧ _ ∧ Grew w3 _›.2.2.2.2) | exact ‹RefS _ _ _› | exact (RefS.up ‹RefS _ _ _› ‹Below _ _ _›) | exact (RefS.up (RefS.up ‹RefS _ _ _› ‹Below _ _ _›) ‹Below _ _ _›) | exact (RefS.up (RefS.up (RefS.up ‹RefS _ _ _› ‹Below _ _ _›) ‹Below _ _ _›) ‹Below _ _ _›) | exact (RefS.up (RefS.up (RefS.up (RefS.up ‹RefS _ _ _› ‹Below _ _ _›) ‹Below _ _ _›) ‹Below _ _ _›) ‹Below _ _ _›)) (by omega) (by omega)).mono ?_; rintro e w9 ⟨v, rfl, hv, hvn, hbw⟩)
        | (go_at_call 21; refine (same_spec (by with_reducible first | exact ha.grew (‹_ ∧ _ ∧ _ ∧ _ ∧ Grew w3 _›.2.2.2.2) | exact hb.grew (‹_ ∧ _ ∧ _ ∧ _ ∧ Grew w3 _›.2.2.2.2) | exact ‹NatS _ _ _› | exact (NatS.up ‹NatS _ _ _› ‹Below _ _ _›) | exact (NatS.up (NatS.up ‹NatS _ _ _› ‹Below _ _ _›) ‹Below _ _ _›) | exact (NatS.up (NatS.up (NatS.up ‹NatS _ _ _› ‹Below _ _ _›) ‹Below _ _ _›) ‹Below _ _ _›) | exact (NatS.up (NatS.up (NatS.up (NatS.up ‹NatS _ _ _› ‹Below _ _ _›) ‹Below _ _ _›) ‹Below _ _ _›) ‹Below _ _ _›)) (by with_reducible first | exact hx.grew (‹_ ∧ _ ∧ _ ∧ _ ∧ Grew w3 _›.2.2.2.2) | exact hy.grew (‹_ ∧ _ ∧ _ ∧ _ ∧ Grew w3 _›.2.2.2.2) | exact ‹RefS _ _ _› | exact (RefS.up ‹RefS _ _ _› ‹Below _ _ _›) | exact (RefS.up (RefS.up ‹RefS _ _ _› ‹Below _ _ _›) ‹Below _ _ _›) | exact (RefS.up (RefS.up (RefS.up ‹RefS _ _ _› ‹Below _ _ _›) ‹Below _ _ _›) ‹Below _ _ _›) | exact (RefS.up (RefS.up (RefS.up (RefS.up ‹RefS _ _ _› ‹Below _ _ _›) ‹Below _ _ _›) ‹Below _ _ _›) ‹Below _ _ _›)) (by omega) (by omega)).mono ?_; rintro e w9 ⟨rfl, hbw⟩))
    all_goals go_wp2
    all_goals go_ret
    all_goals exact ⟨rfl, hg3.trans (‹_ ∧ _ ∧ _ ∧ _ ∧ Grew w3 _›.2.2.2.2)⟩

end Go.Proofs.Ytahfnbbdhhehhaa
