/- NatTimes: the walk. -/
import Derived.Test.YtahfnbbdhhehhaaLawE
import Derived.Test.YtahfnbbdhhehhaaRefF
namespace Go.Proofs.Ytahfnbbdhhehhaa
open Go.RowKit

set_option maxHeartbeats 3200000 in
theorem natTimes_walk (s t : ByteArray) (hs : s.size ≤ maxLen) (ht : t.size ≤ maxLen) (w : World) :
    Calls Try.prog 5 #[.string s, .string t] w fun e w' => e = .returned (.bool true) ∧ Below w.heap.size w w' := by
  unfold maxLen at hs ht
  cases hk1 : ok2 s t with
  | false =>
    go_enter Try.func5, Try.ntmps5
    go_wp2_with fail
    refine (two_spec s t _ hs ht).mono ?_
    rintro e w1 ⟨a, b, x, y, rfl, -, -, -, -, -, -, -, -, hb1⟩
    have hg1 := (Grew.call (Grew.refl _) hb1).trans (two4 w1 a b x y).1
    go_wp2_with fail
    change Calls _ _ _ (Two4 w1 a b x y) _
    generalize Two4 w1 a b x y = W1 at *
    refine (known_spec _).mono ?_
    rintro e w3 ⟨rfl, hb3⟩
    have hg3 := hg1.call hb3
    go_wp2_with fail
    refine (known_spec _).mono ?_
    rintro e w4 ⟨rfl, hb4⟩
    have hg4 := hg3.call hb4
    go_wp2_with fail
    refine (odd_spec s t _ hs ht).mono ?_
    rintro e w5 ⟨rfl, hb5⟩
    have hg5 := hg4.call hb5
    go_wp2
    go_ret
    exact ⟨rfl, hg5⟩
  | true =>
    go_enter Try.func5, Try.ntmps5
    go_wp2_with fail
    refine (two_spec s t _ hs ht).mono ?_
    rintro e w1 ⟨a, b, x, y, rfl, ha, hb, hx, hy, han, hbn, hxn, hyn, hb1⟩
    have hg1 := (Grew.call (Grew.refl _) hb1).trans (two4 w1 a b x y).1
    obtain ⟨hgA, hEa, hEb, hEx, hEy⟩ := two4 w1 a b x y
    have ha := ha.grew hgA
    have hb := hb.grew hgA
    have hx := hx.grew hgA
    have hy := hy.grew hgA
    go_wp2_with fail
    change Calls _ _ _ (Two4 w1 a b x y) _
    generalize Two4 w1 a b x y = W1 at *
    refine (known_spec _).mono ?_
    rintro e w3 ⟨rfl, hb3⟩
    have hg13 := Grew.call (Grew.refl _) hb3
    have hg3 := hg1.trans hg13
    have ha := ha.grew hg13
    have hb := hb.grew hg13
    have hx := hx.grew hg13
    have hy := hy.grew hg13
    have hEa := ent_grew hg13 hEa
    have hEb := ent_grew hg13 hEb
    have hEx := ent_grew hg13 hEx
    have hEy := ent_grew hg13 hEy
    clear hgA hg1 hb1 hg13 hb3 hk1
    generalize pval (fewS s 200) = A at *
    generalize pval (fewS t 200) = B at *
    go_upto_region 4 with fail
    have mk : Hid (∀ w', Grew w3 w' → w'.cell? ⟨w1.heap.size, 0, none⟩ = some (.slice a.ao a.n a.c) ∧ w'.cell? ⟨w1.heap.size + 1, 0, none⟩ = some (.slice b.ao b.n b.c) ∧ w'.cell? ⟨w1.heap.size + 1 + 1, 0, none⟩ = some (.slice x.ao x.n x.c) ∧ w'.cell? ⟨w1.heap.size + 1 + 1 + 1, 0, none⟩ = some (.slice y.ao y.n y.c) ∧ Grew w3 w') :=
      fun w' hg => ⟨cell_grew hg hEa, cell_grew hg hEb, cell_grew hg hEx, cell_grew hg hEy, hg⟩
    clear hEa hEb hEx hEy
    go_region_held3 (fun w' => w'.cell? ⟨w1.heap.size, 0, none⟩ = some (.slice a.ao a.n a.c) ∧ w'.cell? ⟨w1.heap.size + 1, 0, none⟩ = some (.slice b.ao b.n b.c) ∧ w'.cell? ⟨w1.heap.size + 1 + 1, 0, none⟩ = some (.slice x.ao x.n x.c) ∧ w'.cell? ⟨w1.heap.size + 1 + 1 + 1, 0, none⟩ = some (.slice y.ao y.n y.c) ∧ Grew w3 w')
      (first
        | exact mk.out _ (Grew.refl _).drew
        | exact mk.out _ (Grew.call (‹_ ∧ _ ∧ _ ∧ _ ∧ Grew w3 _›.2.2.2.2) ‹Below _ _ _›))
      (first
        | (go_at_call 29; refine (mul_spec (by with_reducible first | exact ha.grew (‹_ ∧ _ ∧ _ ∧ _ ∧ Grew w3 _›.2.2.2.2) | exact hb.grew (‹_ ∧ _ ∧ _ ∧ _ ∧ Grew w3 _›.2.2.2.2) | exact ‹NatS _ _ _› | exact (NatS.up ‹NatS _ _ _› ‹Below _ _ _›) | exact (NatS.up (NatS.up ‹NatS _ _ _› ‹Below _ _ _›) ‹Below _ _ _›) | exact (NatS.up (NatS.up (NatS.up ‹NatS _ _ _› ‹Below _ _ _›) ‹Below _ _ _›) ‹Below _ _ _›) | exact (NatS.up (NatS.up (NatS.up (NatS.up ‹NatS _ _ _› ‹Below _ _ _›) ‹Below _ _ _›) ‹Below _ _ _›) ‹Below _ _ _›)) (by with_reducible first | exact ha.grew (‹_ ∧ _ ∧ _ ∧ _ ∧ Grew w3 _›.2.2.2.2) | exact hb.grew (‹_ ∧ _ ∧ _ ∧ _ ∧ Grew w3 _›.2.2.2.2) | exact ‹NatS _ _ _› | exact (NatS.up ‹NatS _ _ _› ‹Below _ _ _›) | exact (NatS.up (NatS.up ‹NatS _ _ _› ‹Below _ _ _›) ‹Below _ _ _›) | exact (NatS.up (NatS.up (NatS.up ‹NatS _ _ _› ‹Below _ _ _›) ‹Below _ _ _›) ‹Below _ _ _›) | exact (NatS.up (NatS.up (NatS.up (NatS.up ‹NatS _ _ _› ‹Below _ _ _›) ‹Below _ _ _›) ‹Below _ _ _›) ‹Below _ _ _›)) (by omega) (by omega)).mono ?_; rintro e w9 ⟨v, rfl, hv, hvn, hbw⟩)
        | (go_at_call 30; refine (rmul_spec (by with_reducible first | exact hx.grew (‹_ ∧ _ ∧ _ ∧ _ ∧ Grew w3 _›.2.2.2.2) | exact hy.grew (‹_ ∧ _ ∧ _ ∧ _ ∧ Grew w3 _›.2.2.2.2) | exact ‹RefS _ _ _› | exact (RefS.up ‹RefS _ _ _› ‹Below _ _ _›) | exact (RefS.up (RefS.up ‹RefS _ _ _› ‹Below _ _ _›) ‹Below _ _ _›) | exact (RefS.up (RefS.up (RefS.up ‹RefS _ _ _› ‹Below _ _ _›) ‹Below _ _ _›) ‹Below _ _ _›) | exact (RefS.up (RefS.up (RefS.up (RefS.up ‹RefS _ _ _› ‹Below _ _ _›) ‹Below _ _ _›) ‹Below _ _ _›) ‹Below _ _ _›)) (by with_reducible first | exact hx.grew (‹_ ∧ _ ∧ _ ∧ _ ∧ Grew w3 _›.2.2.2.2) | exact hy.grew (‹_ ∧ _ ∧ _ ∧ _ ∧ Grew w3 _›.2.2.2.2) | exact ‹RefS _ _ _› | exact (RefS.up ‹RefS _ _ _› ‹Below _ _ _›) | exact (RefS.up (RefS.up ‹RefS _ _ _› ‹Below _ _ _›) ‹Below _ _ _›) | exact (RefS.up (RefS.up (RefS.up ‹RefS _ _ _› ‹Below _ _ _›) ‹Below _ _ _›) ‹Below _ _ _›) | exact (RefS.up (RefS.up (RefS.up (RefS.up ‹RefS _ _ _› ‹Below _ _ _›) ‹Below _ _ _›) ‹Below _ _ _›) ‹Below _ _ _›)) (by omega) (by omega)).mono ?_; rintro e w9 ⟨v, rfl, hv, hvn, hbw⟩)
        | (go_at_call 21; refine (same_spec (by with_reducible first | exact ha.grew (‹_ ∧ _ ∧ _ ∧ _ ∧ Grew w3 _›.2.2.2.2) | exact hb.grew (‹_ ∧ _ ∧ _ ∧ _ ∧ Grew w3 _›.2.2.2.2) | exact ‹NatS _ _ _› | exact (NatS.up ‹NatS _ _ _› ‹Below _ _ _›) | exact (NatS.up (NatS.up ‹NatS _ _ _› ‹Below _ _ _›) ‹Below _ _ _›) | exact (NatS.up (NatS.up (NatS.up ‹NatS _ _ _› ‹Below _ _ _›) ‹Below _ _ _›) ‹Below _ _ _›) | exact (NatS.up (NatS.up (NatS.up (NatS.up ‹NatS _ _ _› ‹Below _ _ _›) ‹Below _ _ _›) ‹Below _ _ _›) ‹Below _ _ _›)) (by with_reducible first | exact hx.grew (‹_ ∧ _ ∧ _ ∧ _ ∧ Grew w3 _›.2.2.2.2) | exact hy.grew (‹_ ∧ _ ∧ _ ∧ _ ∧ Grew w3 _›.2.2.2.2) | exact ‹RefS _ _ _› | exact (RefS.up ‹RefS _ _ _› ‹Below _ _ _›) | exact (RefS.up (RefS.up ‹RefS _ _ _› ‹Below _ _ _›) ‹Below _ _ _›) | exact (RefS.up (RefS.up (RefS.up ‹RefS _ _ _› ‹Below _ _ _›) ‹Below _ _ _›) ‹Below _ _ _›) | exact (RefS.up (RefS.up (RefS.up (RefS.up ‹RefS _ _ _› ‹Below _ _ _›) ‹Below _ _ _›) ‹Below _ _ _›) ‹Below _ _ _›)) (by omega) (by omega)).mono ?_; rintro e w9 ⟨rfl, hbw⟩))
    all_goals go_wp2
    all_goals go_ret
    all_goals exact ⟨rfl, hg3.trans (‹_ ∧ _ ∧ _ ∧ _ ∧ Grew w3 _›.2.2.2.2)⟩

end Go.Proofs.Ytahfnbbdhhehhaa
