/- NatStays: the walk. -/
import Derived.Test.YtahfnbbdhhehhaaLawF
namespace Go.Proofs.Ytahfnbbdhhehhaa
open Go.RowKit

set_option maxHeartbeats 3200000 in
theorem natStays_walk (s t : ByteArray) (k : Int) (hs : s.size ≤ maxLen) (ht : t.size ≤ maxLen) (hk : (Lit.int .i64 k).wf = true) (w : World) :
    Calls Try.prog 13 #[.string s, .string t, .int .i64 k] w fun e w' => e = .returned (.bool true) ∧ Below w.heap.size w w' := by
  unfold maxLen at hs ht
  clear hk
  cases hk1 : ok2 s t with
  | false =>
    go_enter Try.func13, Try.ntmps13
    go_wp2_with fail
    refine (two_spec s t _ hs ht).mono ?_
    rintro e w1 ⟨a, b, x, y, rfl, -, -, -, -, -, -, -, -, hb1⟩
    have hg1 := (Grew.call (Grew.refl _) hb1).trans (two4 w1 a b x y).1
    go_wp2_with fail
    change Calls _ _ _ (Two4 w1 a b x y) _
    generalize Two4 w1 a b x y = W1 at *
    refine (known_spec _).mono ?_
    rintro e w3 ⟨rfl, hb3⟩
    have hg3 := hg1.call hb3
    go_wp2_with fail
    refine (known_spec _).mono ?_
    rintro e w4 ⟨rfl, hb4⟩
    have hg4 := hg3.call hb4
    go_wp2
    go_ret
    exact ⟨rfl, hg4⟩
  | true =>
    go_enter Try.func13, Try.ntmps13
    go_wp2_with fail
    refine (two_spec s t _ hs ht).mono ?_
    rintro e w1 ⟨a, b, x, y, rfl, ha, hb, hx, hy, han, hbn, hxn, hyn, hb1⟩
    have hg1 := (Grew.call (Grew.refl _) hb1).trans (two4 w1 a b x y).1
    obtain ⟨hgA, hEa, hEb, hEx, hEy⟩ := two4 w1 a b x y
    have ha := ha.grew hgA
    have hb := hb.grew hgA
    have hx := hx.grew hgA
    have hy := hy.grew hgA
    go_wp2_with fail
    change Calls _ _ _ (Two4 w1 a b x y) _
    generalize Two4 w1 a b x y = W1 at *
    refine (known_spec _).mono ?_
    rintro e w3 ⟨rfl, hb3⟩
    have hg13 := Grew.call (Grew.refl _) hb3
    have hg3 := hg1.trans hg13
    replace ha := ha.grew hg13
    replace hb := hb.grew hg13
    replace hx := hx.grew hg13
    replace hy := hy.grew hg13
    replace hEa := ent_grew hg13 hEa
    replace hEb := ent_grew hg13 hEb
    replace hEx := ent_grew hg13 hEx
    replace hEy := ent_grew hg13 hEy
    clear hgA hg1 hb1 hg13 hb3 hk1
    generalize pval (fewS s 200) = A at *
    generalize pval (fewS t 200) = B at *
    have chEa := box_cell hEa
    have chEb := box_cell hEb
    have chEx := box_cell hEx
    have chEy := box_cell hEy
    go_wp2_with fail
    refine (add_spec ha hb (by omega) (by omega)).mono ?_
    rintro e w4 ⟨z1, rfl, -, -, hb1⟩
    have ha1 : Grew w4 (w4) := Grew.refl w4
    have hg1' := (Grew.call (Grew.refl _) hb1).trans ha1
    replace ha := ha.grew hg1'
    replace hb := hb.grew hg1'
    replace hx := hx.grew hg1'
    replace hy := hy.grew hg1'
    replace hEa := ent_grew hg1' hEa
    replace hEb := ent_grew hg1' hEb
    replace hEx := ent_grew hg1' hEx
    replace hEy := ent_grew hg1' hEy
    replace hg3 := hg3.trans hg1'
    clear hg1' ha1 hb1 chEa chEb chEx chEy
    have chEa := box_cell hEa
    have chEb := box_cell hEb
    have chEx := box_cell hEx
    have chEy := box_cell hEy
    go_wp2_with fail
    refine (sub_all ha hb (by omega) (by omega)).mono ?_
    rintro e w5 ⟨⟨v5, rfl⟩, hb2⟩
    have ha2 : Grew w5 (w5) := Grew.refl w5
    have hg2' := (Grew.call (Grew.refl _) hb2).trans ha2
    replace ha := ha.grew hg2'
    replace hb := hb.grew hg2'
    replace hx := hx.grew hg2'
    replace hy := hy.grew hg2'
    replace hEa := ent_grew hg2' hEa
    replace hEb := ent_grew hg2' hEb
    replace hEx := ent_grew hg2' hEx
    replace hEy := ent_grew hg2' hEy
    replace hg3 := hg3.trans hg2'
    clear hg2' ha2 hb2 chEa chEb chEx chEy
    have chEa := box_cell hEa
    have chEb := box_cell hEb
    have chEx := box_cell hEx
    have chEy := box_cell hEy
    go_wp2_with fail
    refine (sub_all hb ha (by omega) (by omega)).mono ?_
    rintro e w6 ⟨⟨v6, rfl⟩, hb3⟩
    have ha3 : Grew w6 (w6) := Grew.refl w6
    have hg3' := (Grew.call (Grew.refl _) hb3).trans ha3
    replace ha := ha.grew hg3'
    replace hb := hb.grew hg3'
    replace hx := hx.grew hg3'
    replace hy := hy.grew hg3'
    replace hEa := ent_grew hg3' hEa
    replace hEb := ent_grew hg3' hEb
    replace hEx := ent_grew hg3' hEx
    replace hEy := ent_grew hg3' hEy
    replace hg3 := hg3.trans hg3'
    clear hg3' ha3 hb3 chEa chEb chEx chEy
    have chEa := box_cell hEa
    have chEb := box_cell hEb
    have chEx := box_cell hEx
    have chEy := box_cell hEy
    go_wp2_with fail
    refine (mul_spec ha hb (by omega) (by omega)).mono ?_
    rintro e w7 ⟨z2, rfl, -, -, hb4⟩
    have ha4 : Grew w7 (w7) := Grew.refl w7
    have hg4' := (Grew.call (Grew.refl _) hb4).trans ha4
    replace ha := ha.grew hg4'
    replace hb := hb.grew hg4'
    replace hx := hx.grew hg4'
    replace hy := hy.grew hg4'
    replace hEa := ent_grew hg4' hEa
    replace hEb := ent_grew hg4' hEb
    replace hEx := ent_grew hg4' hEx
    replace hEy := ent_grew hg4' hEy
    replace hg3 := hg3.trans hg4'
    clear hg4' ha4 hb4 chEa chEb chEx chEy
    have chEa := box_cell hEa
    have chEb := box_cell hEb
    have chEx := box_cell hEx
    have chEy := box_cell hEy
    go_wp2_with fail
    refine (div_all ha hb (by omega) (by omega)).mono ?_
    rintro e w8 ⟨q, r, er, rfl, hq, hr, hqn, hrn, hb5⟩
    have ha5 : Grew w8 (((w8.alloc (.cells #[.slice q.ao q.n q.c] 24)).alloc (.cells #[.slice r.ao r.n r.c] 24))) := ((Grew.refl w8).alloc (.cells #[.slice q.ao q.n q.c] 24)).alloc (.cells #[.slice r.ao r.n r.c] 24)
    have hg5' := (Grew.call (Grew.refl _) hb5).trans ha5
    replace ha := ha.grew hg5'
    replace hb := hb.grew hg5'
    replace hx := hx.grew hg5'
    replace hy := hy.grew hg5'
    replace hEa := ent_grew hg5' hEa
    replace hEb := ent_grew hg5' hEb
    replace hEx := ent_grew hg5' hEx
    replace hEy := ent_grew hg5' hEy
    replace hq := hq.grew ha5
    replace hr := hr.grew ha5
    obtain ⟨hEq, hEr, _⟩ := ents2 w8 (.cells #[.slice q.ao q.n q.c] 24) (.cells #[.slice r.ao r.n r.c] 24)
    replace hg3 := hg3.trans hg5'
    clear hg5' ha5 hb5 chEa chEb chEx chEy
    have chEa := box_cell hEa
    have chEb := box_cell hEb
    have chEx := box_cell hEx
    have chEy := box_cell hEy
    have chEq := box_cell hEq
    have chEr := box_cell hEr
    go_upto_region 9 with fail
    generalize ((w8.alloc (.cells #[.slice q.ao q.n q.c] 24)).alloc (.cells #[.slice r.ao r.n r.c] 24)) = W8 at *
    clear chEa chEb chEx chEy chEq chEr
    have mk : Hid (∀ w', Grew W8 w' → w'.cell? ⟨w8.heap.size, 0, none⟩ = some (.slice q.ao q.n q.c) ∧ w'.cell? ⟨w8.heap.size + 1, 0, none⟩ = some (.slice r.ao r.n r.c) ∧ Grew W8 w') :=
      fun w' hg => ⟨cell_grew hg hEq, cell_grew hg hEr, hg⟩
    go_region_held3 (fun w' => w'.cell? ⟨w8.heap.size, 0, none⟩ = some (.slice q.ao q.n q.c) ∧ w'.cell? ⟨w8.heap.size + 1, 0, none⟩ = some (.slice r.ao r.n r.c) ∧ Grew W8 w')
      (first
        | exact mk.out _ (Grew.refl _).drew
        | exact mk.out _ (Grew.call (‹_ ∧ _ ∧ Grew W8 _›.2.2) ‹Below _ _ _›))
      ((go_at_call 17; refine (text_spec (by with_reducible first | exact hq.grew (‹_ ∧ _ ∧ Grew W8 _›.2.2) | exact hr.grew (‹_ ∧ _ ∧ Grew W8 _›.2.2) | exact ‹NatS _ _ _› | exact (NatS.up ‹NatS _ _ _› ‹Below _ _ _›) | exact (NatS.up (NatS.up ‹NatS _ _ _› ‹Below _ _ _›) ‹Below _ _ _›) | exact (NatS.up (NatS.up (NatS.up ‹NatS _ _ _› ‹Below _ _ _›) ‹Below _ _ _›) ‹Below _ _ _›) | exact (NatS.up (NatS.up (NatS.up (NatS.up ‹NatS _ _ _› ‹Below _ _ _›) ‹Below _ _ _›) ‹Below _ _ _›) ‹Below _ _ _›)) (by omega)).mono ?_; rintro e w9 ⟨rfl, hbw⟩))
    have hgr := ‹_ ∧ _ ∧ Grew W8 _›.2.2
    replace ha := ha.grew hgr
    replace hb := hb.grew hgr
    replace hx := hx.grew hgr
    replace hy := hy.grew hgr
    replace hq := hq.grew hgr
    replace hr := hr.grew hgr
    replace hEa := ent_grew hgr hEa
    replace hEb := ent_grew hgr hEb
    replace hEx := ent_grew hgr hEx
    replace hEy := ent_grew hgr hEy
    replace hEq := ent_grew hgr hEq
    replace hEr := ent_grew hgr hEr
    replace hg3 := hg3.trans hgr
    clear mk hgr
    have chEa := box_cell hEa
    have chEb := box_cell hEb
    have chEx := box_cell hEx
    have chEy := box_cell hEy
    have chEq := box_cell hEq
    have chEr := box_cell hEr
    go_wp2_with fail
    refine (div_all hq hr (by omega) (by omega)).mono ?_
    rintro e w10 ⟨z3, z4, er2, rfl, -, -, -, -, hb6⟩
    have ha6 : Grew w10 (w10) := Grew.refl w10
    have hg6' := (Grew.call (Grew.refl _) hb6).trans ha6
    replace ha := ha.grew hg6'
    replace hb := hb.grew hg6'
    replace hx := hx.grew hg6'
    replace hy := hy.grew hg6'
    replace hq := hq.grew hg6'
    replace hr := hr.grew hg6'
    replace hEa := ent_grew hg6' hEa
    replace hEb := ent_grew hg6' hEb
    replace hEx := ent_grew hg6' hEx
    replace hEy := ent_grew hg6' hEy
    replace hEq := ent_grew hg6' hEq
    replace hEr := ent_grew hg6' hEr
    replace hg3 := hg3.trans hg6'
    clear hg6' ha6 hb6 chEa chEb chEx chEy chEq chEr
    have chEa := box_cell hEa
    have chEb := box_cell hEb
    have chEx := box_cell hEx
    have chEy := box_cell hEy
    have chEq := box_cell hEq
    have chEr := box_cell hEr
    go_wp2_with fail
    refine (up_all k ha (by omega)).mono ?_
    rintro e w11 ⟨z5, er3, rfl, hb7⟩
    have ha7 : Grew w11 (w11) := Grew.refl w11
    have hg7' := (Grew.call (Grew.refl _) hb7).trans ha7
    replace ha := ha.grew hg7'
    replace hb := hb.grew hg7'
    replace hx := hx.grew hg7'
    replace hy := hy.grew hg7'
    replace hq := hq.grew hg7'
    replace hr := hr.grew hg7'
    replace hEa := ent_grew hg7' hEa
    replace hEb := ent_grew hg7' hEb
    replace hEx := ent_grew hg7' hEx
    replace hEy := ent_grew hg7' hEy
    replace hEq := ent_grew hg7' hEq
    replace hEr := ent_grew hg7' hEr
    replace hg3 := hg3.trans hg7'
    clear hg7' ha7 hb7 chEa chEb chEx chEy chEq chEr
    have chEa := box_cell hEa
    have chEb := box_cell hEb
    have chEx := box_cell hEx
    have chEy := box_cell hEy
    have chEq := box_cell hEq
    have chEr := box_cell hEr
    go_wp2_with fail
    refine (down_all k ha (by omega)).mono ?_
    rintro e w12 ⟨z6, er4, rfl, hb8⟩
    have ha8 : Grew w12 (w12) := Grew.refl w12
    have hg8' := (Grew.call (Grew.refl _) hb8).trans ha8
    replace ha := ha.grew hg8'
    replace hb := hb.grew hg8'
    replace hx := hx.grew hg8'
    replace hy := hy.grew hg8'
    replace hq := hq.grew hg8'
    replace hr := hr.grew hg8'
    replace hEa := ent_grew hg8' hEa
    replace hEb := ent_grew hg8' hEb
    replace hEx := ent_grew hg8' hEx
    replace hEy := ent_grew hg8' hEy
    replace hEq := ent_grew hg8' hEq
    replace hEr := ent_grew hg8' hEr
    replace hg3 := hg3.trans hg8'
    clear hg8' ha8 hb8 chEa chEb chEx chEy chEq chEr
    have chEa := box_cell hEa
    have chEb := box_cell hEb
    have chEx := box_cell hEx
    have chEy := box_cell hEy
    have chEq := box_cell hEq
    have chEr := box_cell hEr
    go_wp2_with fail
    refine (root_all ha (by omega)).mono ?_
    rintro e w13 ⟨⟨v13, rfl⟩, hb9⟩
    have ha9 : Grew w13 (w13) := Grew.refl w13
    have hg9' := (Grew.call (Grew.refl _) hb9).trans ha9
    replace ha := ha.grew hg9'
    replace hb := hb.grew hg9'
    replace hx := hx.grew hg9'
    replace hy := hy.grew hg9'
    replace hq := hq.grew hg9'
    replace hr := hr.grew hg9'
    replace hEa := ent_grew hg9' hEa
    replace hEb := ent_grew hg9' hEb
    replace hEx := ent_grew hg9' hEx
    replace hEy := ent_grew hg9' hEy
    replace hEq := ent_grew hg9' hEq
    replace hEr := ent_grew hg9' hEr
    replace hg3 := hg3.trans hg9'
    clear hg9' ha9 hb9 chEa chEb chEx chEy chEq chEr
    have chEa := box_cell hEa
    have chEb := box_cell hEb
    have chEx := box_cell hEx
    have chEy := box_cell hEy
    have chEq := box_cell hEq
    have chEr := box_cell hEr
    go_wp2_with fail
    refine (gcd_spec ha hb (by omega) (by omega)).mono ?_
    rintro e w14 ⟨z7, rfl, -, -, hb10⟩
    have ha10 : Grew w14 (w14) := Grew.refl w14
    have hg10' := (Grew.call (Grew.refl _) hb10).trans ha10
    replace ha := ha.grew hg10'
    replace hb := hb.grew hg10'
    replace hx := hx.grew hg10'
    replace hy := hy.grew hg10'
    replace hq := hq.grew hg10'
    replace hr := hr.grew hg10'
    replace hEa := ent_grew hg10' hEa
    replace hEb := ent_grew hg10' hEb
    replace hEx := ent_grew hg10' hEx
    replace hEy := ent_grew hg10' hEy
    replace hEq := ent_grew hg10' hEq
    replace hEr := ent_grew hg10' hEr
    replace hg3 := hg3.trans hg10'
    clear hg10' ha10 hb10 chEa chEb chEx chEy chEq chEr
    have chEa := box_cell hEa
    have chEb := box_cell hEb
    have chEx := box_cell hEx
    have chEy := box_cell hEy
    have chEq := box_cell hEq
    have chEr := box_cell hEr
    go_wp2_with fail
    refine (add_spec hq hr (by omega) (by omega)).mono ?_
    rintro e w15 ⟨z8, rfl, -, -, hb11⟩
    have ha11 : Grew w15 (w15) := Grew.refl w15
    have hg11' := (Grew.call (Grew.refl _) hb11).trans ha11
    replace ha := ha.grew hg11'
    replace hb := hb.grew hg11'
    replace hx := hx.grew hg11'
    replace hy := hy.grew hg11'
    replace hq := hq.grew hg11'
    replace hr := hr.grew hg11'
    replace hEa := ent_grew hg11' hEa
    replace hEb := ent_grew hg11' hEb
    replace hEx := ent_grew hg11' hEx
    replace hEy := ent_grew hg11' hEy
    replace hEq := ent_grew hg11' hEq
    replace hEr := ent_grew hg11' hEr
    replace hg3 := hg3.trans hg11'
    clear hg11' ha11 hb11 chEa chEb chEx chEy chEq chEr
    have chEa := box_cell hEa
    have chEb := box_cell hEb
    have chEx := box_cell hEx
    have chEy := box_cell hEy
    have chEq := box_cell hEq
    have chEr := box_cell hEr
    go_wp2_with fail
    refine (mul_spec hr hq (by omega) (by omega)).mono ?_
    rintro e w16 ⟨z9, rfl, -, -, hb12⟩
    have ha12 : Grew w16 (w16) := Grew.refl w16
    have hg12' := (Grew.call (Grew.refl _) hb12).trans ha12
    replace ha := ha.grew hg12'
    replace hb := hb.grew hg12'
    replace hx := hx.grew hg12'
    replace hy := hy.grew hg12'
    replace hq := hq.grew hg12'
    replace hr := hr.grew hg12'
    replace hEa := ent_grew hg12' hEa
    replace hEb := ent_grew hg12' hEb
    replace hEx := ent_grew hg12' hEx
    replace hEy := ent_grew hg12' hEy
    replace hEq := ent_grew hg12' hEq
    replace hEr := ent_grew hg12' hEr
    replace hg3 := hg3.trans hg12'
    clear hg12' ha12 hb12 chEa chEb chEx chEy chEq chEr
    have chEa := box_cell hEa
    have chEb := box_cell hEb
    have chEx := box_cell hEx
    have chEy := box_cell hEy
    have chEq := box_cell hEq
    have chEr := box_cell hEr
    go_wp2_with fail
    refine (same_spec ha hx (by omega) (by omega)).mono ?_
    rintro e w17 ⟨rfl, hb13⟩
    have ha13 : Grew w17 (w17) := Grew.refl w17
    have hg13' := (Grew.call (Grew.refl _) hb13).trans ha13
    replace ha := ha.grew hg13'
    replace hb := hb.grew hg13'
    replace hx := hx.grew hg13'
    replace hy := hy.grew hg13'
    replace hq := hq.grew hg13'
    replace hr := hr.grew hg13'
    replace hEa := ent_grew hg13' hEa
    replace hEb := ent_grew hg13' hEb
    replace hEx := ent_grew hg13' hEx
    replace hEy := ent_grew hg13' hEy
    replace hEq := ent_grew hg13' hEq
    replace hEr := ent_grew hg13' hEr
    replace hg3 := hg3.trans hg13'
    clear hg13' ha13 hb13 chEa chEb chEx chEy chEq chEr
    have chEa := box_cell hEa
    have chEb := box_cell hEb
    have chEx := box_cell hEx
    have chEy := box_cell hEy
    have chEq := box_cell hEq
    have chEr := box_cell hEr
    go_wp2_with fail
    refine (same_spec hb hy (by omega) (by omega)).mono ?_
    rintro e w18 ⟨rfl, hb14⟩
    have ha14 : Grew w18 (w18) := Grew.refl w18
    have hg14' := (Grew.call (Grew.refl _) hb14).trans ha14
    replace ha := ha.grew hg14'
    replace hb := hb.grew hg14'
    replace hx := hx.grew hg14'
    replace hy := hy.grew hg14'
    replace hq := hq.grew hg14'
    replace hr := hr.grew hg14'
    replace hEa := ent_grew hg14' hEa
    replace hEb := ent_grew hg14' hEb
    replace hEx := ent_grew hg14' hEx
    replace hEy := ent_grew hg14' hEy
    replace hEq := ent_grew hg14' hEq
    replace hEr := ent_grew hg14' hEr
    replace hg3 := hg3.trans hg14'
    clear hg14' ha14 hb14 chEa chEb chEx chEy chEq chEr
    have chEa := box_cell hEa
    have chEb := box_cell hEb
    have chEx := box_cell hEx
    have chEy := box_cell hEy
    have chEq := box_cell hEq
    have chEr := box_cell hEr
    go_wp2_with fail
    refine (text_spec hq (by omega)).mono ?_
    rintro e w19 ⟨rfl, hb15⟩
    have ha15 : Grew w19 (w19) := Grew.refl w19
    have hg15' := (Grew.call (Grew.refl _) hb15).trans ha15
    replace ha := ha.grew hg15'
    replace hb := hb.grew hg15'
    replace hx := hx.grew hg15'
    replace hy := hy.grew hg15'
    replace hq := hq.grew hg15'
    replace hr := hr.grew hg15'
    replace hEa := ent_grew hg15' hEa
    replace hEb := ent_grew hg15' hEb
    replace hEx := ent_grew hg15' hEx
    replace hEy := ent_grew hg15' hEy
    replace hEq := ent_grew hg15' hEq
    replace hEr := ent_grew hg15' hEr
    replace hg3 := hg3.trans hg15'
    clear hg15' ha15 hb15 chEa chEb chEx chEy chEq chEr
    have chEa := box_cell hEa
    have chEb := box_cell hEb
    have chEx := box_cell hEx
    have chEy := box_cell hEy
    have chEq := box_cell hEq
    have chEr := box_cell hEr
    go_wp2_with fail
    refine (text_spec hr (by omega)).mono ?_
    rintro e w20 ⟨rfl, hb16⟩
    have ha16 : Grew w20 (w20) := Grew.refl w20
    have hg16' := (Grew.call (Grew.refl _) hb16).trans ha16
    replace ha := ha.grew hg16'
    replace hb := hb.grew hg16'
    replace hx := hx.grew hg16'
    replace hy := hy.grew hg16'
    replace hq := hq.grew hg16'
    replace hr := hr.grew hg16'
    replace hEa := ent_grew hg16' hEa
    replace hEb := ent_grew hg16' hEb
    replace hEx := ent_grew hg16' hEx
    replace hEy := ent_grew hg16' hEy
    replace hEq := ent_grew hg16' hEq
    replace hEr := ent_grew hg16' hEr
    replace hg3 := hg3.trans hg16'
    clear hg16' ha16 hb16 chEa chEb chEx chEy chEq chEr
    have chEa := box_cell hEa
    have chEb := box_cell hEb
    have chEx := box_cell hEx
    have chEy := box_cell hEy
    have chEq := box_cell hEq
    have chEr := box_cell hEr
    go_wp2
    go_ret
    exact ⟨rfl, hg3⟩

end Go.Proofs.Ytahfnbbdhhehhaa
