/- NatRoots: the walk. -/
import Derived.Test.YtahfnbbdhhehhaaLawE
import Derived.Test.YtahfnbbdhhehhaaRefK
namespace Go.Proofs.Ytahfnbbdhhehhaa
open Go.RowKit

set_option maxHeartbeats 3200000 in
theorem natRoots_walk (s : ByteArray) (hs : s.size ≤ maxLen) (w : World) :
    Calls Try.prog 8 #[.string s] w fun e w' => e = .returned (.bool true) ∧ Below w.heap.size w w' := by
  unfold maxLen at hs
  cases hk1 : ok2 (s) (⟨#[48]⟩) with
  | false =>
    go_enter Try.func8, Try.ntmps8
    go_wp2_with fail
    refine (two_spec (s) (⟨#[48]⟩) _ hs (by decide)).mono ?_
    rintro e w1 ⟨a, b, x, y, rfl, ha, hb, -, -, han, hbn, -, -, hb1⟩
    have hg1 := (Grew.call (Grew.refl _) hb1).trans (two4 w1 a b x y).1
    obtain ⟨hgA, hEa, hEb, _, _⟩ := two4 w1 a b x y
    replace ha := ha.grew hgA
    replace hb := hb.grew hgA
    go_wp2_with fail
    change Calls _ _ _ (Two4 w1 a b x y) _
    generalize Two4 w1 a b x y = W1 at *
    refine (known_spec _).mono ?_
    rintro e w3 ⟨rfl, hb3⟩
    have hg3 := hg1.call hb3
    go_wp2_with fail
    refine (known_spec _).mono ?_
    rintro e w4 ⟨rfl, hb4⟩
    have hg4 := hg3.call hb4
    go_wp2_with fail
    refine (odd_spec (s) (⟨#[48]⟩) _ hs (by decide)).mono ?_
    rintro e w5 ⟨rfl, hb5⟩
    have hg5 := hg4.call hb5
    go_wp2
    go_ret
    exact ⟨rfl, hg5⟩
  | true =>
    go_enter Try.func8, Try.ntmps8
    go_wp2_with fail
    refine (two_spec (s) (⟨#[48]⟩) _ hs (by decide)).mono ?_
    rintro e w1 ⟨a, b, x, y, rfl, ha, hb, hx, hy, han, hbn, hxn, hyn, hb1⟩
    have hg1 := (Grew.call (Grew.refl _) hb1).trans (two4 w1 a b x y).1
    obtain ⟨hgA, hEa, hEb, hEx, hEy⟩ := two4 w1 a b x y
    have ha := ha.grew hgA
    have hb := hb.grew hgA
    have hx := hx.grew hgA
    have hy := hy.grew hgA
    go_wp2_with fail
    change Calls _ _ _ (Two4 w1 a b x y) _
    generalize Two4 w1 a b x y = W1 at *
    refine (known_spec _).mono ?_
    rintro e w3 ⟨rfl, hb3⟩
    have hg13 := Grew.call (Grew.refl _) hb3
    have hg3 := hg1.trans hg13
    replace ha := ha.grew hg13
    replace hb := hb.grew hg13
    replace hx := hx.grew hg13
    replace hy := hy.grew hg13
    replace hEa := ent_grew hg13 hEa
    replace hEb := ent_grew hg13 hEb
    replace hEx := ent_grew hg13 hEx
    replace hEy := ent_grew hg13 hEy
    clear hgA hg1 hb1 hg13 hb3 hk1
    generalize pval (fewS (s) 200) = A at *
    generalize pval (fewS (⟨#[48]⟩) 200) = B at *
    have chEa := box_cell hEa
    have chEb := box_cell hEb
    have chEx := box_cell hEx
    have chEy := box_cell hEy
    go_wp2_with fail
    refine (root_spec ha (by omega)).mono ?_
    rintro e w4 ⟨r, m, R, rfl, hr, hm, hR1, hR2, hrn, hmn, hb1⟩
    have ha1 : Grew w4 (((w4.alloc (.cells #[.slice r.ao r.n r.c] 24)).alloc (.cells #[.slice m.ao m.n m.c] 24))) := ((Grew.refl w4).alloc (.cells #[.slice r.ao r.n r.c] 24)).alloc (.cells #[.slice m.ao m.n m.c] 24)
    have hg1' := (Grew.call (Grew.refl _) hb1).trans ha1
    replace ha := ha.grew hg1'
    replace hb := hb.grew hg1'
    replace hx := hx.grew hg1'
    replace hy := hy.grew hg1'
    replace hEa := ent_grew hg1' hEa
    replace hEb := ent_grew hg1' hEb
    replace hEx := ent_grew hg1' hEx
    replace hEy := ent_grew hg1' hEy
    replace hr := hr.grew ha1
    replace hm := hm.grew ha1
    obtain ⟨hEr, hEm, _⟩ := ents2 w4 (.cells #[.slice r.ao r.n r.c] 24) (.cells #[.slice m.ao m.n m.c] 24)
    replace hg3 := hg3.trans hg1'
    clear hg1' ha1 hb1 chEa chEb chEx chEy
    have chEa := box_cell hEa
    have chEb := box_cell hEb
    have chEx := box_cell hEx
    have chEy := box_cell hEy
    have chEr := box_cell hEr
    have chEm := box_cell hEm
    go_wp2_with fail
    generalize ((w4.alloc (.cells #[.slice r.ao r.n r.c] 24)).alloc (.cells #[.slice m.ao m.n m.c] 24)) = W4 at *
    refine (rroot_spec hx (by omega)).mono ?_
    rintro e w5 ⟨u, v, R', rfl, hu, hv, hR3, hR4, hun, hvn, hb2⟩
    obtain rfl : R' = R := root_unique hR3 hR4 hR1 hR2
    clear hR1 hR2 hR3 hR4
    have ha2 : Grew w5 (((w5.alloc (.cells #[.slice u.ao u.n u.c] 30)).alloc (.cells #[.slice v.ao v.n v.c] 30))) := ((Grew.refl w5).alloc (.cells #[.slice u.ao u.n u.c] 30)).alloc (.cells #[.slice v.ao v.n v.c] 30)
    have hg2' := (Grew.call (Grew.refl _) hb2).trans ha2
    replace ha := ha.grew hg2'
    replace hb := hb.grew hg2'
    replace hx := hx.grew hg2'
    replace hy := hy.grew hg2'
    replace hr := hr.grew hg2'
    replace hm := hm.grew hg2'
    replace hEa := ent_grew hg2' hEa
    replace hEb := ent_grew hg2' hEb
    replace hEx := ent_grew hg2' hEx
    replace hEy := ent_grew hg2' hEy
    replace hEr := ent_grew hg2' hEr
    replace hEm := ent_grew hg2' hEm
    replace hu := hu.grew ha2
    replace hv := hv.grew ha2
    obtain ⟨hEu, hEv, _⟩ := ents2 w5 (.cells #[.slice u.ao u.n u.c] 30) (.cells #[.slice v.ao v.n v.c] 30)
    replace hg3 := hg3.trans hg2'
    clear hg2' ha2 hb2 chEa chEb chEx chEy chEr chEm
    have chEa := box_cell hEa
    have chEb := box_cell hEb
    have chEx := box_cell hEx
    have chEy := box_cell hEy
    have chEr := box_cell hEr
    have chEm := box_cell hEm
    have chEu := box_cell hEu
    have chEv := box_cell hEv
    go_wp2_with fail
    generalize ((w5.alloc (.cells #[.slice u.ao u.n u.c] 30)).alloc (.cells #[.slice v.ao v.n v.c] 30)) = W5 at *
    refine (same_spec hr hu (by omega) (by omega)).mono ?_
    rintro e w6 ⟨rfl, hb3⟩
    have ha3 : Grew w6 (w6) := Grew.refl w6
    have hg3' := (Grew.call (Grew.refl _) hb3).trans ha3
    replace ha := ha.grew hg3'
    replace hb := hb.grew hg3'
    replace hx := hx.grew hg3'
    replace hy := hy.grew hg3'
    replace hr := hr.grew hg3'
    replace hm := hm.grew hg3'
    replace hu := hu.grew hg3'
    replace hv := hv.grew hg3'
    replace hEa := ent_grew hg3' hEa
    replace hEb := ent_grew hg3' hEb
    replace hEx := ent_grew hg3' hEx
    replace hEy := ent_grew hg3' hEy
    replace hEr := ent_grew hg3' hEr
    replace hEm := ent_grew hg3' hEm
    replace hEu := ent_grew hg3' hEu
    replace hEv := ent_grew hg3' hEv
    replace hg3 := hg3.trans hg3'
    clear hg3' ha3 hb3 chEa chEb chEx chEy chEr chEm chEu chEv
    have chEa := box_cell hEa
    have chEb := box_cell hEb
    have chEx := box_cell hEx
    have chEy := box_cell hEy
    have chEr := box_cell hEr
    have chEm := box_cell hEm
    have chEu := box_cell hEu
    have chEv := box_cell hEv
    go_wp2_with fail
    refine (same_spec hm hv (by omega) (by omega)).mono ?_
    rintro e w7 ⟨rfl, hb4⟩
    have ha4 : Grew w7 (w7) := Grew.refl w7
    have hg4' := (Grew.call (Grew.refl _) hb4).trans ha4
    replace ha := ha.grew hg4'
    replace hb := hb.grew hg4'
    replace hx := hx.grew hg4'
    replace hy := hy.grew hg4'
    replace hr := hr.grew hg4'
    replace hm := hm.grew hg4'
    replace hu := hu.grew hg4'
    replace hv := hv.grew hg4'
    replace hEa := ent_grew hg4' hEa
    replace hEb := ent_grew hg4' hEb
    replace hEx := ent_grew hg4' hEx
    replace hEy := ent_grew hg4' hEy
    replace hEr := ent_grew hg4' hEr
    replace hEm := ent_grew hg4' hEm
    replace hEu := ent_grew hg4' hEu
    replace hEv := ent_grew hg4' hEv
    replace hg3 := hg3.trans hg4'
    clear hg4' ha4 hb4 chEa chEb chEx chEy chEr chEm chEu chEv
    have chEa := box_cell hEa
    have chEb := box_cell hEb
    have chEx := box_cell hEx
    have chEy := box_cell hEy
    have chEr := box_cell hEr
    have chEm := box_cell hEm
    have chEu := box_cell hEu
    have chEv := box_cell hEv
    go_wp2
    go_ret
    exact ⟨rfl, hg3⟩

end Go.Proofs.Ytahfnbbdhhehhaa
