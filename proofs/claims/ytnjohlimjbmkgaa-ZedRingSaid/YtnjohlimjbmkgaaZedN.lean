/- zed: Floor, joined; known. -/
import Derived.Test.YtnjohlimjbmkgaaProg
import Derived.Test.YtnjohlimjbmkgaaZedM
import Derived.Test.YtnjohlimjbmkgaaZedFq
import Derived.Test.YtnjohlimjbmkgaaZedFp
import Derived.Test.YtnjohlimjbmkgaaMathZ
namespace Go.Proofs.Ytnjohlimjbmkgaa
open Go.RowKit

theorem zfloor {w : World} {s t : Sl} {b c : Bool} {x y : Int} (h : ZS w s b x) (h' : ZS w t c y) (hn : s.n ≤ 10000000000) (hm : t.n ≤ 10000000000) (hy0 : y ≠ 0) :
    Calls Try.prog 21 #[.agg #[.slice s.ao s.n s.c, .bool b], .agg #[.slice t.ao t.n t.c, .bool c]] w fun e w' => ∃ (u : Sl) (d : Bool) (v : Sl) (d' : Bool), e = .returned (.tuple #[.agg #[.slice u.ao u.n u.c, .bool d], .agg #[.slice v.ao v.n v.c, .bool d'], .int .i64 0]) ∧ ZS w' u d (x / y) ∧ ZS w' v d' (x % y) ∧ u.n ≤ s.n + 3 ∧ v.n ≤ max s.n t.n + 1 ∧ Below w.heap.size w w' := by
  obtain ⟨h, rfl⟩ := h
  obtain ⟨h', rfl⟩ := h'
  have hyp : 0 < y.natAbs := by omega
  by_cases hx : x < 0 <;> by_cases hyn : y < 0
  · rcases Nat.eq_zero_or_pos (x.natAbs % y.natAbs) with hr0 | hr0
    · obtain ⟨H1, H2⟩ := floor_neg_zero hx hy0 hr0
      rw [if_pos hyn] at H1
      rw [show (0 : Int) = ((x.natAbs % y.natAbs : Nat) : Int) by rw [hr0]; rfl] at H2
      rw [H1, H2, show decide (x < 0) = true from decide_eq_true (by omega), show decide (y < 0) = true from decide_eq_true (by omega)]
      exact zfloor_tt_z h h' hn hm hyp (Lib.hid rfl) (Lib.hid rfl) hr0
    · obtain ⟨H1, H2⟩ := floor_neg_pos hx hy0 (by omega)
      rw [if_pos hyn] at H1
      rw [Int.sub_eq_add_neg, Int.add_comm] at H2
      rw [H1, H2, show decide (x < 0) = true from decide_eq_true (by omega), show decide (y < 0) = true from decide_eq_true (by omega)]
      exact zfloor_tt_p h h' hn hm hyp (Lib.hid rfl) (Lib.hid rfl) hr0
  · rcases Nat.eq_zero_or_pos (x.natAbs % y.natAbs) with hr0 | hr0
    · obtain ⟨H1, H2⟩ := floor_neg_zero hx hy0 hr0
      rw [if_neg hyn] at H1
      rw [show (0 : Int) = ((x.natAbs % y.natAbs : Nat) : Int) by rw [hr0]; rfl] at H2
      rw [H1, H2, show decide (x < 0) = true from decide_eq_true (by omega), show decide (y < 0) = false from decide_eq_false (by omega)]
      exact zfloor_tf_z h h' hn hm hyp (Lib.hid rfl) (Lib.hid rfl) hr0
    · obtain ⟨H1, H2⟩ := floor_neg_pos hx hy0 (by omega)
      rw [if_neg hyn] at H1
      rw [Int.sub_eq_add_neg, Int.add_comm] at H2
      rw [H1, H2, show decide (x < 0) = true from decide_eq_true (by omega), show decide (y < 0) = false from decide_eq_false (by omega)]
      exact zfloor_tf_p h h' hn hm hyp (Lib.hid rfl) (Lib.hid rfl) hr0
  · obtain ⟨H1, H2⟩ := floor_pos_div (show 0 ≤ x by omega) hy0
    rw [if_pos hyn] at H1
    rw [H1, H2, show decide (x < 0) = false from decide_eq_false (by omega), show decide (y < 0) = true from decide_eq_true (by omega)]
    exact zfloor_ft h h' hn hm hyp (Lib.hid rfl) (Lib.hid rfl)
  · obtain ⟨H1, H2⟩ := floor_pos_div (show 0 ≤ x by omega) hy0
    rw [if_neg hyn] at H1
    rw [H1, H2, show decide (x < 0) = false from decide_eq_false (by omega), show decide (y < 0) = false from decide_eq_false (by omega)]
    exact zfloor_ff h h' hn hm hyp (Lib.hid rfl) (Lib.hid rfl)

theorem ztext_is {w : World} {s : Sl} {b : Bool} {x : Int} (c : ByteArray) (h : ZS w s b x) (hn : s.n ≤ 100000000000) (hc : ztxt x = c) :
    Calls Try.prog 38 #[.agg #[.slice s.ao s.n s.c, .bool b]] w fun e w' => e = .returned (.string c) ∧ Below w.heap.size w w' := by
  subst hc
  exact ztext h hn

set_option maxRecDepth 100000 in
set_option maxHeartbeats 1600000 in
theorem zknown {w : World}  :
    Calls Try.prog 16 #[] w fun e w' => e = .returned (.bool true) ∧ Below w.heap.size w w' := by
  have hB := Grew.refl w
  go_enter Try.func16, Try.ntmps16
  go_wp2_with fail
  refine (zparse_spec ⟨#[45, 48]⟩ _ (by decide)).mono ?_
  rintro e w1 ⟨a, da, rfl, -, -, hb1⟩
  rw [show zperr ⟨#[45, 48]⟩ = 3 from by decide +kernel]
  have ha1 : Grew w1 ((w1.alloc (.cells #[.slice a.ao a.n a.c, .bool da] 33))) := (Grew.refl w1).alloc (.cells #[.slice a.ao a.n a.c, .bool da] 33)
  have hg1' := (Grew.call (Grew.refl _) hb1).trans ha1
  have hEa := ent_new w1 (.cells #[.slice a.ao a.n a.c, .bool da] 33)
  replace hB := hB.trans hg1'
  clear hg1' ha1 hb1
  have chEaa := box2_c0 hEa
  have chEab := box2_c1 hEa
  go_wp2_with fail
  generalize (w1.alloc (.cells #[.slice a.ao a.n a.c, .bool da] 33)) = W1 at *
  refine (zof (-7) _ (by decide) (by decide)).mono ?_
  rintro e w2 ⟨m, dm, rfl, hm, hmn, hb2⟩
  have ha2 : Grew w2 (w2) := Grew.refl w2
  have hg2' := (Grew.call (Grew.refl _) hb2).trans ha2
  replace hEa := ent_grew hg2' hEa
  replace hm := hm.grew ha2
  replace hB := hB.trans hg2'
  clear hg2' ha2 hb2 chEaa chEab
  have chEaa := box2_c0 hEa
  have chEab := box2_c1 hEa
  go_wp2_with fail
  refine (zof 2 _ (by decide) (by decide)).mono ?_
  rintro e w3 ⟨n, dn, rfl, hn2, hnn, hb3⟩
  have ha3 : Grew w3 (w3) := Grew.refl w3
  have hg3' := (Grew.call (Grew.refl _) hb3).trans ha3
  replace hm := hm.grew hg3'
  replace hEa := ent_grew hg3' hEa
  replace hn2 := hn2.grew ha3
  replace hB := hB.trans hg3'
  clear hg3' ha3 hb3 chEaa chEab
  have chEaa := box2_c0 hEa
  have chEab := box2_c1 hEa
  go_wp2_with fail
  refine (zfloor hm hn2 (by omega) (by omega) (by decide)).mono ?_
  rintro e w4 ⟨q, dq, r, dr, rfl, hq, hr, hqn, hrn, hb4⟩
  have ha4 : Grew w4 (((w4.alloc (.cells #[.slice q.ao q.n q.c, .bool dq] 33)).alloc (.cells #[.slice r.ao r.n r.c, .bool dr] 33))) := ((Grew.refl w4).alloc (.cells #[.slice q.ao q.n q.c, .bool dq] 33)).alloc (.cells #[.slice r.ao r.n r.c, .bool dr] 33)
  have hg4' := (Grew.call (Grew.refl _) hb4).trans ha4
  replace hm := hm.grew hg4'
  replace hn2 := hn2.grew hg4'
  replace hEa := ent_grew hg4' hEa
  replace hq := hq.grew ha4
  replace hr := hr.grew ha4
  obtain ⟨hEq, hEr, -⟩ := ents2 w4 (.cells #[.slice q.ao q.n q.c, .bool dq] 33) (.cells #[.slice r.ao r.n r.c, .bool dr] 33)
  replace hB := hB.trans hg4'
  clear hg4' ha4 hb4 chEaa chEab
  have chEaa := box2_c0 hEa
  have chEab := box2_c1 hEa
  have chEqa := box2_c0 hEq
  have chEqb := box2_c1 hEq
  have chEra := box2_c0 hEr
  have chErb := box2_c1 hEr
  go_wp2_with fail
  generalize ((w4.alloc (.cells #[.slice q.ao q.n q.c, .bool dq] 33)).alloc (.cells #[.slice r.ao r.n r.c, .bool dr] 33)) = W4 at *
  clear hm hn2
  refine (zof 7 _ (by decide) (by decide)).mono ?_
  rintro e w5 ⟨m', dm', rfl, hm', hmn', hb5⟩
  have ha5 : Grew w5 (w5) := Grew.refl w5
  have hg5' := (Grew.call (Grew.refl _) hb5).trans ha5
  replace hq := hq.grew hg5'
  replace hr := hr.grew hg5'
  replace hEa := ent_grew hg5' hEa
  replace hEq := ent_grew hg5' hEq
  replace hEr := ent_grew hg5' hEr
  replace hm' := hm'.grew ha5
  replace hB := hB.trans hg5'
  clear hg5' ha5 hb5 chEaa chEab chEqa chEqb chEra chErb
  have chEaa := box2_c0 hEa
  have chEab := box2_c1 hEa
  have chEqa := box2_c0 hEq
  have chEqb := box2_c1 hEq
  have chEra := box2_c0 hEr
  have chErb := box2_c1 hEr
  go_wp2_with fail
  refine (zof (-2) _ (by decide) (by decide)).mono ?_
  rintro e w6 ⟨n', dn', rfl, hn', hnn', hb6⟩
  have ha6 : Grew w6 (w6) := Grew.refl w6
  have hg6' := (Grew.call (Grew.refl _) hb6).trans ha6
  replace hq := hq.grew hg6'
  replace hr := hr.grew hg6'
  replace hm' := hm'.grew hg6'
  replace hEa := ent_grew hg6' hEa
  replace hEq := ent_grew hg6' hEq
  replace hEr := ent_grew hg6' hEr
  replace hn' := hn'.grew ha6
  replace hB := hB.trans hg6'
  clear hg6' ha6 hb6 chEaa chEab chEqa chEqb chEra chErb
  have chEaa := box2_c0 hEa
  have chEab := box2_c1 hEa
  have chEqa := box2_c0 hEq
  have chEqb := box2_c1 hEq
  have chEra := box2_c0 hEr
  have chErb := box2_c1 hEr
  go_wp2_with fail
  refine (zfloor hm' hn' (by omega) (by omega) (by decide)).mono ?_
  rintro e w7 ⟨s, ds, t, dt, rfl, hs, ht, hsn, htn, hb7⟩
  have ha7 : Grew w7 (((w7.alloc (.cells #[.slice s.ao s.n s.c, .bool ds] 33)).alloc (.cells #[.slice t.ao t.n t.c, .bool dt] 33))) := ((Grew.refl w7).alloc (.cells #[.slice s.ao s.n s.c, .bool ds] 33)).alloc (.cells #[.slice t.ao t.n t.c, .bool dt] 33)
  have hg7' := (Grew.call (Grew.refl _) hb7).trans ha7
  replace hq := hq.grew hg7'
  replace hr := hr.grew hg7'
  replace hm' := hm'.grew hg7'
  replace hn' := hn'.grew hg7'
  replace hEa := ent_grew hg7' hEa
  replace hEq := ent_grew hg7' hEq
  replace hEr := ent_grew hg7' hEr
  replace hs := hs.grew ha7
  replace ht := ht.grew ha7
  obtain ⟨hEs, hEt, -⟩ := ents2 w7 (.cells #[.slice s.ao s.n s.c, .bool ds] 33) (.cells #[.slice t.ao t.n t.c, .bool dt] 33)
  replace hB := hB.trans hg7'
  clear hg7' ha7 hb7 chEaa chEab chEqa chEqb chEra chErb
  have chEaa := box2_c0 hEa
  have chEab := box2_c1 hEa
  have chEqa := box2_c0 hEq
  have chEqb := box2_c1 hEq
  have chEra := box2_c0 hEr
  have chErb := box2_c1 hEr
  have chEsa := box2_c0 hEs
  have chEsb := box2_c1 hEs
  have chEta := box2_c0 hEt
  have chEtb := box2_c1 hEt
  go_wp2_with fail
  generalize ((w7.alloc (.cells #[.slice s.ao s.n s.c, .bool ds] 33)).alloc (.cells #[.slice t.ao t.n t.c, .bool dt] 33)) = W7 at *
  clear hm' hn'
  refine (ztext_is ⟨#[45, 52]⟩ hq (by omega) (by decide +kernel)).mono ?_
  rintro e w8 ⟨rfl, hb8⟩
  have ha8 : Grew w8 (w8) := Grew.refl w8
  have hg8' := (Grew.call (Grew.refl _) hb8).trans ha8
  replace hq := hq.grew hg8'
  replace hr := hr.grew hg8'
  replace hs := hs.grew hg8'
  replace ht := ht.grew hg8'
  replace hEa := ent_grew hg8' hEa
  replace hEq := ent_grew hg8' hEq
  replace hEr := ent_grew hg8' hEr
  replace hEs := ent_grew hg8' hEs
  replace hEt := ent_grew hg8' hEt
  replace hB := hB.trans hg8'
  clear hg8' ha8 hb8 chEaa chEab chEqa chEqb chEra chErb chEsa chEsb chEta chEtb
  have chEaa := box2_c0 hEa
  have chEab := box2_c1 hEa
  have chEqa := box2_c0 hEq
  have chEqb := box2_c1 hEq
  have chEra := box2_c0 hEr
  have chErb := box2_c1 hEr
  have chEsa := box2_c0 hEs
  have chEsb := box2_c1 hEs
  have chEta := box2_c0 hEt
  have chEtb := box2_c1 hEt
  go_wp2_with fail
  refine (ztext_is ⟨#[49]⟩ hr (by omega) (by decide +kernel)).mono ?_
  rintro e w9 ⟨rfl, hb9⟩
  have ha9 : Grew w9 (w9) := Grew.refl w9
  have hg9' := (Grew.call (Grew.refl _) hb9).trans ha9
  replace hq := hq.grew hg9'
  replace hr := hr.grew hg9'
  replace hs := hs.grew hg9'
  replace ht := ht.grew hg9'
  replace hEa := ent_grew hg9' hEa
  replace hEq := ent_grew hg9' hEq
  replace hEr := ent_grew hg9' hEr
  replace hEs := ent_grew hg9' hEs
  replace hEt := ent_grew hg9' hEt
  replace hB := hB.trans hg9'
  clear hg9' ha9 hb9 chEaa chEab chEqa chEqb chEra chErb chEsa chEsb chEta chEtb
  have chEaa := box2_c0 hEa
  have chEab := box2_c1 hEa
  have chEqa := box2_c0 hEq
  have chEqb := box2_c1 hEq
  have chEra := box2_c0 hEr
  have chErb := box2_c1 hEr
  have chEsa := box2_c0 hEs
  have chEsb := box2_c1 hEs
  have chEta := box2_c0 hEt
  have chEtb := box2_c1 hEt
  go_wp2_with fail
  refine (ztext_is ⟨#[45, 51]⟩ hs (by omega) (by decide +kernel)).mono ?_
  rintro e w10 ⟨rfl, hb10⟩
  have ha10 : Grew w10 (w10) := Grew.refl w10
  have hg10' := (Grew.call (Grew.refl _) hb10).trans ha10
  replace hq := hq.grew hg10'
  replace hr := hr.grew hg10'
  replace hs := hs.grew hg10'
  replace ht := ht.grew hg10'
  replace hEa := ent_grew hg10' hEa
  replace hEq := ent_grew hg10' hEq
  replace hEr := ent_grew hg10' hEr
  replace hEs := ent_grew hg10' hEs
  replace hEt := ent_grew hg10' hEt
  replace hB := hB.trans hg10'
  clear hg10' ha10 hb10 chEaa chEab chEqa chEqb chEra chErb chEsa chEsb chEta chEtb
  have chEaa := box2_c0 hEa
  have chEab := box2_c1 hEa
  have chEqa := box2_c0 hEq
  have chEqb := box2_c1 hEq
  have chEra := box2_c0 hEr
  have chErb := box2_c1 hEr
  have chEsa := box2_c0 hEs
  have chEsb := box2_c1 hEs
  have chEta := box2_c0 hEt
  have chEtb := box2_c1 hEt
  go_wp2_with fail
  refine (ztext_is ⟨#[49]⟩ ht (by omega) (by decide +kernel)).mono ?_
  rintro e w11 ⟨rfl, hb11⟩
  have ha11 : Grew w11 (w11) := Grew.refl w11
  have hg11' := (Grew.call (Grew.refl _) hb11).trans ha11
  replace hq := hq.grew hg11'
  replace hr := hr.grew hg11'
  replace hs := hs.grew hg11'
  replace ht := ht.grew hg11'
  replace hEa := ent_grew hg11' hEa
  replace hEq := ent_grew hg11' hEq
  replace hEr := ent_grew hg11' hEr
  replace hEs := ent_grew hg11' hEs
  replace hEt := ent_grew hg11' hEt
  replace hB := hB.trans hg11'
  clear hg11' ha11 hb11 chEaa chEab chEqa chEqb chEra chErb chEsa chEsb chEta chEtb
  have chEaa := box2_c0 hEa
  have chEab := box2_c1 hEa
  have chEqa := box2_c0 hEq
  have chEqb := box2_c1 hEq
  have chEra := box2_c0 hEr
  have chErb := box2_c1 hEr
  have chEsa := box2_c0 hEs
  have chEsb := box2_c1 hEs
  have chEta := box2_c0 hEt
  have chEtb := box2_c1 hEt
  go_wp2
  go_ret
  exact ⟨rfl, hB⟩


end Go.Proofs.Ytnjohlimjbmkgaa
