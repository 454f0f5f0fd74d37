/- ZedRing returns true at every input: the rules of a ring and of its order hold of zed; no condition. -/
import Derived.Test.YtnjohlimjbmkgaaRows
import Derived.Test.YtnjohlimjbmkgaaProg
import Derived.Test.YtnjohlimjbmkgaaZedN
import Derived.Deep.CutBlock
import Derived.Test.YtnjohlimjbmkgaaLawZ
set_option linter.unusedSimpArgs false
set_option linter.unusedVariables false
namespace Go.Proofs.Ytnjohlimjbmkgaa
open Go.RowKit

theorem zcmp_is {w : World} {s t : Sl} {b c : Bool} {x y : Int} (k : Int) (hk : cmpZ x y = k) (h : ZS w s b x) (h' : ZS w t c y) (hn : s.n ≤ 100000000000) (hm : t.n ≤ 100000000000) :
    Calls Try.prog 29 #[.agg #[.slice s.ao s.n s.c, .bool b], .agg #[.slice t.ao t.n t.c, .bool c]] w fun e w' => e = .returned (.int .i64 k) ∧ Below w.heap.size w w' := by
  subst hk
  exact zcmp h h' hn hm
theorem zsign_is {w : World} {s : Sl} {b : Bool} {x : Int} (k : Int) (hk : x.sign = k) (h : ZS w s b x) (hn : s.n ≤ 100000000000) :
    Calls Try.prog 22 #[.agg #[.slice s.ao s.n s.c, .bool b]] w fun e w' => e = .returned (.int .i64 k) ∧ Below w.heap.size w w' := by
  subst hk
  exact zsign h hn
theorem cmpZ_self (x : Int) : cmpZ x x = 0 := by unfold cmpZ; rw [if_neg (by omega), if_pos rfl]
theorem cmpZ_eq {x y : Int} (h : x = y) : cmpZ x y = 0 := by rw [h, cmpZ_self]
theorem cmpZ_sub (x y : Int) : (x - y).sign = cmpZ x y := by
  unfold cmpZ
  rcases Int.lt_trichotomy x y with h | h | h
  · rw [if_pos h, sgn_n (by omega)]
  · rw [if_neg (by omega), if_pos h, sgn_z (by omega)]
  · rw [if_neg (by omega), if_neg (by omega), sgn_p (by omega)]
theorem cmpZ_add (x y z : Int) : cmpZ (x + z) (y + z) = cmpZ x y := by
  rw [← cmpZ_sub, ← cmpZ_sub, show x + z - (y + z) = x - y by omega]
theorem cmpZ_mul (x y z : Int) : cmpZ (x * z) (y * z) = cmpZ x y * z.sign := by
  rw [← cmpZ_sub, ← cmpZ_sub, ← Int.sub_mul, Int.sign_mul]
theorem cmpZ_swap (x y : Int) : cmpZ y x = -cmpZ x y := by
  rw [← cmpZ_sub, ← cmpZ_sub, show y - x = -(x - y) by omega, Int.sign_neg]
theorem cmpZ_two (x y : Int) : cmpZ x y = -1 ∨ cmpZ x y = 0 ∨ cmpZ x y = 1 := by
  unfold cmpZ
  split
  · exact .inl rfl
  · split
    · exact .inr (.inl rfl)
    · exact .inr (.inr rfl)
theorem sign_two (x : Int) : x.sign = -1 ∨ x.sign = 0 ∨ x.sign = 1 := by
  rw [show x.sign = cmpZ x 0 by rw [← cmpZ_sub, Int.sub_zero]]
  exact cmpZ_two x 0

set_option maxRecDepth 100000 in
set_option maxHeartbeats 1600000 in
theorem zedRing_n {w : World} (s t u : ByteArray) (hk1 : zok s = false) :
    Calls Try.prog 8 #[.string s, .string t, .string u] w fun e w' => e = .returned (.bool true) ∧ Below w.heap.size w w' := by
  have hB := Grew.refl w
  go_enter Try.func8, Try.ntmps8
  go_wp2_with fail
  refine (zone s _).mono ?_
  rintro e w1 ⟨a, da, x, Sx, rfl, ha, hx, han, hxn, hb1⟩
  rw [hk1]
  have ha1 : Grew w1 (((w1.alloc (.cells #[.slice a.ao a.n a.c, .bool da] 33)).alloc (.cells #[.int .i64 Sx, .slice x.ao x.n x.c] 28))) := ((Grew.refl w1).alloc (.cells #[.slice a.ao a.n a.c, .bool da] 33)).alloc (.cells #[.int .i64 Sx, .slice x.ao x.n x.c] 28)
  have hg1' := (Grew.call (Grew.refl _) hb1).trans ha1
  replace ha := ha.grew ha1
  obtain ⟨hEa, hEx, -⟩ := ents2 w1 (.cells #[.slice a.ao a.n a.c, .bool da] 33) (.cells #[.int .i64 Sx, .slice x.ao x.n x.c] 28)
  replace hB := hB.trans hg1'
  clear hg1' ha1 hb1
  have chEaa := box2_c0 hEa
  have chEab := box2_c1 hEa
  have chExa := box2_c0 hEx
  have chExb := box2_c1 hEx
  go_wp2_with fail
  generalize ((w1.alloc (.cells #[.slice a.ao a.n a.c, .bool da] 33)).alloc (.cells #[.int .i64 Sx, .slice x.ao x.n x.c] 28)) = W1 at *
  refine (zone t _).mono ?_
  rintro e w2 ⟨b, db, y, Sy, rfl, hbz, hy, hbn, hyn, hb2⟩
  have ha2 : Grew w2 (((w2.alloc (.cells #[.slice b.ao b.n b.c, .bool db] 33)).alloc (.cells #[.int .i64 Sy, .slice y.ao y.n y.c] 28))) := ((Grew.refl w2).alloc (.cells #[.slice b.ao b.n b.c, .bool db] 33)).alloc (.cells #[.int .i64 Sy, .slice y.ao y.n y.c] 28)
  have hg2' := (Grew.call (Grew.refl _) hb2).trans ha2
  replace ha := ha.grew hg2'
  replace hEa := ent_grew hg2' hEa
  replace hEx := ent_grew hg2' hEx
  replace hbz := hbz.grew ha2
  obtain ⟨hEb, hEy, -⟩ := ents2 w2 (.cells #[.slice b.ao b.n b.c, .bool db] 33) (.cells #[.int .i64 Sy, .slice y.ao y.n y.c] 28)
  replace hB := hB.trans hg2'
  clear hg2' ha2 hb2 chEaa chEab chExa chExb
  have chEaa := box2_c0 hEa
  have chEab := box2_c1 hEa
  have chExa := box2_c0 hEx
  have chExb := box2_c1 hEx
  have chEba := box2_c0 hEb
  have chEbb := box2_c1 hEb
  have chEya := box2_c0 hEy
  have chEyb := box2_c1 hEy
  go_wp2_with fail
  generalize ((w2.alloc (.cells #[.slice b.ao b.n b.c, .bool db] 33)).alloc (.cells #[.int .i64 Sy, .slice y.ao y.n y.c] 28)) = W2 at *
  refine (zone u _).mono ?_
  rintro e w3 ⟨c, dc, z, Sz, rfl, hc, hz, hcn, hzn, hb3⟩
  have ha3 : Grew w3 (((w3.alloc (.cells #[.slice c.ao c.n c.c, .bool dc] 33)).alloc (.cells #[.int .i64 Sz, .slice z.ao z.n z.c] 28))) := ((Grew.refl w3).alloc (.cells #[.slice c.ao c.n c.c, .bool dc] 33)).alloc (.cells #[.int .i64 Sz, .slice z.ao z.n z.c] 28)
  have hg3' := (Grew.call (Grew.refl _) hb3).trans ha3
  replace ha := ha.grew hg3'
  replace hbz := hbz.grew hg3'
  replace hEa := ent_grew hg3' hEa
  replace hEx := ent_grew hg3' hEx
  replace hEb := ent_grew hg3' hEb
  replace hEy := ent_grew hg3' hEy
  replace hc := hc.grew ha3
  obtain ⟨hEc, hEz, -⟩ := ents2 w3 (.cells #[.slice c.ao c.n c.c, .bool dc] 33) (.cells #[.int .i64 Sz, .slice z.ao z.n z.c] 28)
  replace hB := hB.trans hg3'
  clear hg3' ha3 hb3 chEaa chEab chExa chExb chEba chEbb chEya chEyb
  have chEaa := box2_c0 hEa
  have chEab := box2_c1 hEa
  have chExa := box2_c0 hEx
  have chExb := box2_c1 hEx
  have chEba := box2_c0 hEb
  have chEbb := box2_c1 hEb
  have chEya := box2_c0 hEy
  have chEyb := box2_c1 hEy
  have chEca := box2_c0 hEc
  have chEcb := box2_c1 hEc
  have chEza := box2_c0 hEz
  have chEzb := box2_c1 hEz
  go_wp2_with fail
  generalize ((w3.alloc (.cells #[.slice c.ao c.n c.c, .bool dc] 33)).alloc (.cells #[.int .i64 Sz, .slice z.ao z.n z.c] 28)) = W3 at *
  clear hEx hEy hEz hx hy hz chExa chExb chEya chEyb chEza chEzb
  refine (zknown).mono ?_
  rintro e w4 ⟨rfl, hb4⟩
  have ha4 : Grew w4 (w4) := Grew.refl w4
  have hg4' := (Grew.call (Grew.refl _) hb4).trans ha4
  replace ha := ha.grew hg4'
  replace hbz := hbz.grew hg4'
  replace hc := hc.grew hg4'
  replace hEa := ent_grew hg4' hEa
  replace hEb := ent_grew hg4' hEb
  replace hEc := ent_grew hg4' hEc
  replace hB := hB.trans hg4'
  clear hg4' ha4 hb4 chEaa chEab chEba chEbb chEca chEcb
  have chEaa := box2_c0 hEa
  have chEab := box2_c1 hEa
  have chEba := box2_c0 hEb
  have chEbb := box2_c1 hEb
  have chEca := box2_c0 hEc
  have chEcb := box2_c1 hEc
  go_wp2_with fail
  refine (zknown).mono ?_
  rintro e w5 ⟨rfl, hb5⟩
  have ha5 : Grew w5 (w5) := Grew.refl w5
  have hg5' := (Grew.call (Grew.refl _) hb5).trans ha5
  replace ha := ha.grew hg5'
  replace hbz := hbz.grew hg5'
  replace hc := hc.grew hg5'
  replace hEa := ent_grew hg5' hEa
  replace hEb := ent_grew hg5' hEb
  replace hEc := ent_grew hg5' hEc
  replace hB := hB.trans hg5'
  clear hg5' ha5 hb5 chEaa chEab chEba chEbb chEca chEcb
  have chEaa := box2_c0 hEa
  have chEab := box2_c1 hEa
  have chEba := box2_c0 hEb
  have chEbb := box2_c1 hEb
  have chEca := box2_c0 hEc
  have chEcb := box2_c1 hEc
  go_wp2
  go_ret
  exact ⟨rfl, hB⟩

set_option maxRecDepth 100000 in
set_option maxHeartbeats 1600000 in
theorem zedRing_yn {w : World} (s t u : ByteArray) (hk1 : zok s = true) (hk2 : zok t = false) :
    Calls Try.prog 8 #[.string s, .string t, .string u] w fun e w' => e = .returned (.bool true) ∧ Below w.heap.size w w' := by
  have hB := Grew.refl w
  go_enter Try.func8, Try.ntmps8
  go_wp2_with fail
  refine (zone s _).mono ?_
  rintro e w1 ⟨a, da, x, Sx, rfl, ha, hx, han, hxn, hb1⟩
  rw [hk1]
  have ha1 : Grew w1 (((w1.alloc (.cells #[.slice a.ao a.n a.c, .bool da] 33)).alloc (.cells #[.int .i64 Sx, .slice x.ao x.n x.c] 28))) := ((Grew.refl w1).alloc (.cells #[.slice a.ao a.n a.c, .bool da] 33)).alloc (.cells #[.int .i64 Sx, .slice x.ao x.n x.c] 28)
  have hg1' := (Grew.call (Grew.refl _) hb1).trans ha1
  replace ha := ha.grew ha1
  obtain ⟨hEa, hEx, -⟩ := ents2 w1 (.cells #[.slice a.ao a.n a.c, .bool da] 33) (.cells #[.int .i64 Sx, .slice x.ao x.n x.c] 28)
  replace hB := hB.trans hg1'
  clear hg1' ha1 hb1
  have chEaa := box2_c0 hEa
  have chEab := box2_c1 hEa
  have chExa := box2_c0 hEx
  have chExb := box2_c1 hEx
  go_wp2_with fail
  generalize ((w1.alloc (.cells #[.slice a.ao a.n a.c, .bool da] 33)).alloc (.cells #[.int .i64 Sx, .slice x.ao x.n x.c] 28)) = W1 at *
  refine (zone t _).mono ?_
  rintro e w2 ⟨b, db, y, Sy, rfl, hbz, hy, hbn, hyn, hb2⟩
  rw [hk2]
  have ha2 : Grew w2 (((w2.alloc (.cells #[.slice b.ao b.n b.c, .bool db] 33)).alloc (.cells #[.int .i64 Sy, .slice y.ao y.n y.c] 28))) := ((Grew.refl w2).alloc (.cells #[.slice b.ao b.n b.c, .bool db] 33)).alloc (.cells #[.int .i64 Sy, .slice y.ao y.n y.c] 28)
  have hg2' := (Grew.call (Grew.refl _) hb2).trans ha2
  replace ha := ha.grew hg2'
  replace hEa := ent_grew hg2' hEa
  replace hEx := ent_grew hg2' hEx
  replace hbz := hbz.grew ha2
  obtain ⟨hEb, hEy, -⟩ := ents2 w2 (.cells #[.slice b.ao b.n b.c, .bool db] 33) (.cells #[.int .i64 Sy, .slice y.ao y.n y.c] 28)
  replace hB := hB.trans hg2'
  clear hg2' ha2 hb2 chEaa chEab chExa chExb
  have chEaa := box2_c0 hEa
  have chEab := box2_c1 hEa
  have chExa := box2_c0 hEx
  have chExb := box2_c1 hEx
  have chEba := box2_c0 hEb
  have chEbb := box2_c1 hEb
  have chEya := box2_c0 hEy
  have chEyb := box2_c1 hEy
  go_wp2_with fail
  generalize ((w2.alloc (.cells #[.slice b.ao b.n b.c, .bool db] 33)).alloc (.cells #[.int .i64 Sy, .slice y.ao y.n y.c] 28)) = W2 at *
  refine (zone u _).mono ?_
  rintro e w3 ⟨c, dc, z, Sz, rfl, hc, hz, hcn, hzn, hb3⟩
  have ha3 : Grew w3 (((w3.alloc (.cells #[.slice c.ao c.n c.c, .bool dc] 33)).alloc (.cells #[.int .i64 Sz, .slice z.ao z.n z.c] 28))) := ((Grew.refl w3).alloc (.cells #[.slice c.ao c.n c.c, .bool dc] 33)).alloc (.cells #[.int .i64 Sz, .slice z.ao z.n z.c] 28)
  have hg3' := (Grew.call (Grew.refl _) hb3).trans ha3
  replace ha := ha.grew hg3'
  replace hbz := hbz.grew hg3'
  replace hEa := ent_grew hg3' hEa
  replace hEx := ent_grew hg3' hEx
  replace hEb := ent_grew hg3' hEb
  replace hEy := ent_grew hg3' hEy
  replace hc := hc.grew ha3
  obtain ⟨hEc, hEz, -⟩ := ents2 w3 (.cells #[.slice c.ao c.n c.c, .bool dc] 33) (.cells #[.int .i64 Sz, .slice z.ao z.n z.c] 28)
  replace hB := hB.trans hg3'
  clear hg3' ha3 hb3 chEaa chEab chExa chExb chEba chEbb chEya chEyb
  have chEaa := box2_c0 hEa
  have chEab := box2_c1 hEa
  have chExa := box2_c0 hEx
  have chExb := box2_c1 hEx
  have chEba := box2_c0 hEb
  have chEbb := box2_c1 hEb
  have chEya := box2_c0 hEy
  have chEyb := box2_c1 hEy
  have chEca := box2_c0 hEc
  have chEcb := box2_c1 hEc
  have chEza := box2_c0 hEz
  have chEzb := box2_c1 hEz
  go_wp2_with fail
  generalize ((w3.alloc (.cells #[.slice c.ao c.n c.c, .bool dc] 33)).alloc (.cells #[.int .i64 Sz, .slice z.ao z.n z.c] 28)) = W3 at *
  clear hEx hEy hEz hx hy hz chExa chExb chEya chEyb chEza chEzb
  refine (zknown).mono ?_
  rintro e w4 ⟨rfl, hb4⟩
  have ha4 : Grew w4 (w4) := Grew.refl w4
  have hg4' := (Grew.call (Grew.refl _) hb4).trans ha4
  replace ha := ha.grew hg4'
  replace hbz := hbz.grew hg4'
  replace hc := hc.grew hg4'
  replace hEa := ent_grew hg4' hEa
  replace hEb := ent_grew hg4' hEb
  replace hEc := ent_grew hg4' hEc
  replace hB := hB.trans hg4'
  clear hg4' ha4 hb4 chEaa chEab chEba chEbb chEca chEcb
  have chEaa := box2_c0 hEa
  have chEab := box2_c1 hEa
  have chEba := box2_c0 hEb
  have chEbb := box2_c1 hEb
  have chEca := box2_c0 hEc
  have chEcb := box2_c1 hEc
  go_wp2_with fail
  refine (zknown).mono ?_
  rintro e w5 ⟨rfl, hb5⟩
  have ha5 : Grew w5 (w5) := Grew.refl w5
  have hg5' := (Grew.call (Grew.refl _) hb5).trans ha5
  replace ha := ha.grew hg5'
  replace hbz := hbz.grew hg5'
  replace hc := hc.grew hg5'
  replace hEa := ent_grew hg5' hEa
  replace hEb := ent_grew hg5' hEb
  replace hEc := ent_grew hg5' hEc
  replace hB := hB.trans hg5'
  clear hg5' ha5 hb5 chEaa chEab chEba chEbb chEca chEcb
  have chEaa := box2_c0 hEa
  have chEab := box2_c1 hEa
  have chEba := box2_c0 hEb
  have chEbb := box2_c1 hEb
  have chEca := box2_c0 hEc
  have chEcb := box2_c1 hEc
  go_wp2
  go_ret
  exact ⟨rfl, hB⟩

set_option maxRecDepth 100000 in
set_option maxHeartbeats 1600000 in
theorem zedRing_yyn {w : World} (s t u : ByteArray) (hk1 : zok s = true) (hk2 : zok t = true) (hk3 : zok u = false) :
    Calls Try.prog 8 #[.string s, .string t, .string u] w fun e w' => e = .returned (.bool true) ∧ Below w.heap.size w w' := by
  have hB := Grew.refl w
  go_enter Try.func8, Try.ntmps8
  go_wp2_with fail
  refine (zone s _).mono ?_
  rintro e w1 ⟨a, da, x, Sx, rfl, ha, hx, han, hxn, hb1⟩
  rw [hk1]
  have ha1 : Grew w1 (((w1.alloc (.cells #[.slice a.ao a.n a.c, .bool da] 33)).alloc (.cells #[.int .i64 Sx, .slice x.ao x.n x.c] 28))) := ((Grew.refl w1).alloc (.cells #[.slice a.ao a.n a.c, .bool da] 33)).alloc (.cells #[.int .i64 Sx, .slice x.ao x.n x.c] 28)
  have hg1' := (Grew.call (Grew.refl _) hb1).trans ha1
  replace ha := ha.grew ha1
  obtain ⟨hEa, hEx, -⟩ := ents2 w1 (.cells #[.slice a.ao a.n a.c, .bool da] 33) (.cells #[.int .i64 Sx, .slice x.ao x.n x.c] 28)
  replace hB := hB.trans hg1'
  clear hg1' ha1 hb1
  have chEaa := box2_c0 hEa
  have chEab := box2_c1 hEa
  have chExa := box2_c0 hEx
  have chExb := box2_c1 hEx
  go_wp2_with fail
  generalize ((w1.alloc (.cells #[.slice a.ao a.n a.c, .bool da] 33)).alloc (.cells #[.int .i64 Sx, .slice x.ao x.n x.c] 28)) = W1 at *
  refine (zone t _).mono ?_
  rintro e w2 ⟨b, db, y, Sy, rfl, hbz, hy, hbn, hyn, hb2⟩
  rw [hk2]
  have ha2 : Grew w2 (((w2.alloc (.cells #[.slice b.ao b.n b.c, .bool db] 33)).alloc (.cells #[.int .i64 Sy, .slice y.ao y.n y.c] 28))) := ((Grew.refl w2).alloc (.cells #[.slice b.ao b.n b.c, .bool db] 33)).alloc (.cells #[.int .i64 Sy, .slice y.ao y.n y.c] 28)
  have hg2' := (Grew.call (Grew.refl _) hb2).trans ha2
  replace ha := ha.grew hg2'
  replace hEa := ent_grew hg2' hEa
  replace hEx := ent_grew hg2' hEx
  replace hbz := hbz.grew ha2
  obtain ⟨hEb, hEy, -⟩ := ents2 w2 (.cells #[.slice b.ao b.n b.c, .bool db] 33) (.cells #[.int .i64 Sy, .slice y.ao y.n y.c] 28)
  replace hB := hB.trans hg2'
  clear hg2' ha2 hb2 chEaa chEab chExa chExb
  have chEaa := box2_c0 hEa
  have chEab := box2_c1 hEa
  have chExa := box2_c0 hEx
  have chExb := box2_c1 hEx
  have chEba := box2_c0 hEb
  have chEbb := box2_c1 hEb
  have chEya := box2_c0 hEy
  have chEyb := box2_c1 hEy
  go_wp2_with fail
  generalize ((w2.alloc (.cells #[.slice b.ao b.n b.c, .bool db] 33)).alloc (.cells #[.int .i64 Sy, .slice y.ao y.n y.c] 28)) = W2 at *
  refine (zone u _).mono ?_
  rintro e w3 ⟨c, dc, z, Sz, rfl, hc, hz, hcn, hzn, hb3⟩
  rw [hk3]
  have ha3 : Grew w3 (((w3.alloc (.cells #[.slice c.ao c.n c.c, .bool dc] 33)).alloc (.cells #[.int .i64 Sz, .slice z.ao z.n z.c] 28))) := ((Grew.refl w3).alloc (.cells #[.slice c.ao c.n c.c, .bool dc] 33)).alloc (.cells #[.int .i64 Sz, .slice z.ao z.n z.c] 28)
  have hg3' := (Grew.call (Grew.refl _) hb3).trans ha3
  replace ha := ha.grew hg3'
  replace hbz := hbz.grew hg3'
  replace hEa := ent_grew hg3' hEa
  replace hEx := ent_grew hg3' hEx
  replace hEb := ent_grew hg3' hEb
  replace hEy := ent_grew hg3' hEy
  replace hc := hc.grew ha3
  obtain ⟨hEc, hEz, -⟩ := ents2 w3 (.cells #[.slice c.ao c.n c.c, .bool dc] 33) (.cells #[.int .i64 Sz, .slice z.ao z.n z.c] 28)
  replace hB := hB.trans hg3'
  clear hg3' ha3 hb3 chEaa chEab chExa chExb chEba chEbb chEya chEyb
  have chEaa := box2_c0 hEa
  have chEab := box2_c1 hEa
  have chExa := box2_c0 hEx
  have chExb := box2_c1 hEx
  have chEba := box2_c0 hEb
  have chEbb := box2_c1 hEb
  have chEya := box2_c0 hEy
  have chEyb := box2_c1 hEy
  have chEca := box2_c0 hEc
  have chEcb := box2_c1 hEc
  have chEza := box2_c0 hEz
  have chEzb := box2_c1 hEz
  go_wp2_with fail
  generalize ((w3.alloc (.cells #[.slice c.ao c.n c.c, .bool dc] 33)).alloc (.cells #[.int .i64 Sz, .slice z.ao z.n z.c] 28)) = W3 at *
  clear hEx hEy hEz hx hy hz chExa chExb chEya chEyb chEza chEzb
  refine (zknown).mono ?_
  rintro e w4 ⟨rfl, hb4⟩
  have ha4 : Grew w4 (w4) := Grew.refl w4
  have hg4' := (Grew.call (Grew.refl _) hb4).trans ha4
  replace ha := ha.grew hg4'
  replace hbz := hbz.grew hg4'
  replace hc := hc.grew hg4'
  replace hEa := ent_grew hg4' hEa
  replace hEb := ent_grew hg4' hEb
  replace hEc := ent_grew hg4' hEc
  replace hB := hB.trans hg4'
  clear hg4' ha4 hb4 chEaa chEab chEba chEbb chEca chEcb
  have chEaa := box2_c0 hEa
  have chEab := box2_c1 hEa
  have chEba := box2_c0 hEb
  have chEbb := box2_c1 hEb
  have chEca := box2_c0 hEc
  have chEcb := box2_c1 hEc
  go_wp2_with fail
  refine (zknown).mono ?_
  rintro e w5 ⟨rfl, hb5⟩
  have ha5 : Grew w5 (w5) := Grew.refl w5
  have hg5' := (Grew.call (Grew.refl _) hb5).trans ha5
  replace ha := ha.grew hg5'
  replace hbz := hbz.grew hg5'
  replace hc := hc.grew hg5'
  replace hEa := ent_grew hg5' hEa
  replace hEb := ent_grew hg5' hEb
  replace hEc := ent_grew hg5' hEc
  replace hB := hB.trans hg5'
  clear hg5' ha5 hb5 chEaa chEab chEba chEbb chEca chEcb
  have chEaa := box2_c0 hEa
  have chEab := box2_c1 hEa
  have chEba := box2_c0 hEb
  have chEbb := box2_c1 hEb
  have chEca := box2_c0 hEc
  have chEcb := box2_c1 hEc
  go_wp2
  go_ret
  exact ⟨rfl, hB⟩

set_option maxRecDepth 100000 in
set_option maxHeartbeats 1600000 in
theorem zedRing_yyy {w : World} (s t u : ByteArray) (hk1 : zok s = true) (hk2 : zok t = true) (hk3 : zok u = true) :
    Calls Try.prog 8 #[.string s, .string t, .string u] w fun e w' => e = .returned (.bool true) ∧ Below w.heap.size w w' := by
  have hB := Grew.refl w
  obtain ⟨k, hk⟩ : ∃ k, k = cmpZ (zfv s) (zfv t) := ⟨_, rfl⟩
  obtain ⟨k2, hk2'⟩ : ∃ k2, k2 = cmpZ (zfv t) (zfv s) := ⟨_, rfl⟩
  obtain ⟨g, hg9⟩ : ∃ g, g = (zfv u).sign := ⟨_, rfl⟩
  obtain ⟨r, hr9⟩ : ∃ r, r = cmpZ (zfv s * zfv u) (zfv t * zfv u) := ⟨_, rfl⟩
  have hw1 : IntKind.i64.wrap (k * g) = r := by
    rw [hr9, cmpZ_mul, ← hk, ← hg9]
    have h1 := cmpZ_two (zfv s) (zfv t)
    have h2 := sign_two (zfv u)
    rw [← hk] at h1
    rw [← hg9] at h2
    rcases h1 with h1 | h1 | h1 <;> rcases h2 with h2 | h2 | h2 <;> rw [h1, h2] <;> decide
  have hw2 : IntKind.i64.wrap (-k2) = k := by
    rw [hk2', cmpZ_swap, Int.neg_neg, ← hk]
    have h1 := cmpZ_two (zfv s) (zfv t)
    rw [← hk] at h1
    rcases h1 with h1 | h1 | h1 <;> rw [h1] <;> decide
  have HK := Lib.hid hk.symm
  have HK2 := Lib.hid hk2'.symm
  have HG := Lib.hid hg9.symm
  have HR := Lib.hid hr9.symm
  clear hk hk2' hg9 hr9
  go_enter Try.func8, Try.ntmps8
  go_wp2_with fail
  refine (zone s _).mono ?_
  rintro e w1 ⟨a, da, x, Sx, rfl, ha, hx, han, hxn, hb1⟩
  rw [hk1]
  have ha1 : Grew w1 (((w1.alloc (.cells #[.slice a.ao a.n a.c, .bool da] 33)).alloc (.cells #[.int .i64 Sx, .slice x.ao x.n x.c] 28))) := ((Grew.refl w1).alloc (.cells #[.slice a.ao a.n a.c, .bool da] 33)).alloc (.cells #[.int .i64 Sx, .slice x.ao x.n x.c] 28)
  have hg1' := (Grew.call (Grew.refl _) hb1).trans ha1
  replace ha := ha.grew ha1
  obtain ⟨hEa, hEx, -⟩ := ents2 w1 (.cells #[.slice a.ao a.n a.c, .bool da] 33) (.cells #[.int .i64 Sx, .slice x.ao x.n x.c] 28)
  replace hB := hB.trans hg1'
  clear hg1' ha1 hb1
  have chEaa := box2_c0 hEa
  have chEab := box2_c1 hEa
  have chExa := box2_c0 hEx
  have chExb := box2_c1 hEx
  go_wp2_with fail
  generalize ((w1.alloc (.cells #[.slice a.ao a.n a.c, .bool da] 33)).alloc (.cells #[.int .i64 Sx, .slice x.ao x.n x.c] 28)) = W1 at *
  refine (zone t _).mono ?_
  rintro e w2 ⟨b, db, y, Sy, rfl, hbz, hy, hbn, hyn, hb2⟩
  rw [hk2]
  have ha2 : Grew w2 (((w2.alloc (.cells #[.slice b.ao b.n b.c, .bool db] 33)).alloc (.cells #[.int .i64 Sy, .slice y.ao y.n y.c] 28))) := ((Grew.refl w2).alloc (.cells #[.slice b.ao b.n b.c, .bool db] 33)).alloc (.cells #[.int .i64 Sy, .slice y.ao y.n y.c] 28)
  have hg2' := (Grew.call (Grew.refl _) hb2).trans ha2
  replace ha := ha.grew hg2'
  replace hEa := ent_grew hg2' hEa
  replace hEx := ent_grew hg2' hEx
  replace hbz := hbz.grew ha2
  obtain ⟨hEb, hEy, -⟩ := ents2 w2 (.cells #[.slice b.ao b.n b.c, .bool db] 33) (.cells #[.int .i64 Sy, .slice y.ao y.n y.c] 28)
  replace hB := hB.trans hg2'
  clear hg2' ha2 hb2 chEaa chEab chExa chExb
  have chEaa := box2_c0 hEa
  have chEab := box2_c1 hEa
  have chExa := box2_c0 hEx
  have chExb := box2_c1 hEx
  have chEba := box2_c0 hEb
  have chEbb := box2_c1 hEb
  have chEya := box2_c0 hEy
  have chEyb := box2_c1 hEy
  go_wp2_with fail
  generalize ((w2.alloc (.cells #[.slice b.ao b.n b.c, .bool db] 33)).alloc (.cells #[.int .i64 Sy, .slice y.ao y.n y.c] 28)) = W2 at *
  refine (zone u _).mono ?_
  rintro e w3 ⟨c, dc, z, Sz, rfl, hc, hz, hcn, hzn, hb3⟩
  rw [hk3]
  have ha3 : Grew w3 (((w3.alloc (.cells #[.slice c.ao c.n c.c, .bool dc] 33)).alloc (.cells #[.int .i64 Sz, .slice z.ao z.n z.c] 28))) := ((Grew.refl w3).alloc (.cells #[.slice c.ao c.n c.c, .bool dc] 33)).alloc (.cells #[.int .i64 Sz, .slice z.ao z.n z.c] 28)
  have hg3' := (Grew.call (Grew.refl _) hb3).trans ha3
  replace ha := ha.grew hg3'
  replace hbz := hbz.grew hg3'
  replace hEa := ent_grew hg3' hEa
  replace hEx := ent_grew hg3' hEx
  replace hEb := ent_grew hg3' hEb
  replace hEy := ent_grew hg3' hEy
  replace hc := hc.grew ha3
  obtain ⟨hEc, hEz, -⟩ := ents2 w3 (.cells #[.slice c.ao c.n c.c, .bool dc] 33) (.cells #[.int .i64 Sz, .slice z.ao z.n z.c] 28)
  replace hB := hB.trans hg3'
  clear hg3' ha3 hb3 chEaa chEab chExa chExb chEba chEbb chEya chEyb
  have chEaa := box2_c0 hEa
  have chEab := box2_c1 hEa
  have chExa := box2_c0 hEx
  have chExb := box2_c1 hEx
  have chEba := box2_c0 hEb
  have chEbb := box2_c1 hEb
  have chEya := box2_c0 hEy
  have chEyb := box2_c1 hEy
  have chEca := box2_c0 hEc
  have chEcb := box2_c1 hEc
  have chEza := box2_c0 hEz
  have chEzb := box2_c1 hEz
  go_wp2_with fail
  generalize ((w3.alloc (.cells #[.slice c.ao c.n c.c, .bool dc] 33)).alloc (.cells #[.int .i64 Sz, .slice z.ao z.n z.c] 28)) = W3 at *
  clear hEx hEy hEz hx hy hz chExa chExb chEya chEyb chEza chEzb
  refine (zknown).mono ?_
  rintro e w4 ⟨rfl, hb4⟩
  have ha4 : Grew w4 (w4) := Grew.refl w4
  have hg4' := (Grew.call (Grew.refl _) hb4).trans ha4
  replace ha := ha.grew hg4'
  replace hbz := hbz.grew hg4'
  replace hc := hc.grew hg4'
  replace hEa := ent_grew hg4' hEa
  replace hEb := ent_grew hg4' hEb
  replace hEc := ent_grew hg4' hEc
  replace hB := hB.trans hg4'
  clear hg4' ha4 hb4 chEaa chEab chEba chEbb chEca chEcb
  have chEaa := box2_c0 hEa
  have chEab := box2_c1 hEa
  have chEba := box2_c0 hEb
  have chEbb := box2_c1 hEb
  have chEca := box2_c0 hEc
  have chEcb := box2_c1 hEc
  go_upto_region 6 with fail
  clear chEaa chEab chEba chEbb chEca chEcb
  refine wp_region_held_drew (S := (fun w' => Grew w4 w')) (by kernel_rfl) ?hSz494 (fun hHeld => ?restz494)
  case hSz494 => (try dsimp only); (first | exact (Grew.refl _).drew | exact Grew.call hHeld ‹Below _ _ _›)
  refine wpAnyH_take (i := 0) (oi := ?oiz495) (v := ?vz495) ?hiz495 (by kernel_rfl) (by kernel_rfl) (by kernel_rfl) ?hqz495 ?hyz495 hHeld ?restz495
  case hiz495 => simp only [List.getElem?_toArray, List.getElem?_cons_zero]; exact rfl
  case hqz495 => exact fun _ _ _ h => h
  case hyz495 => refine Or.inl ⟨by rfl, ?_⟩; intro w hSw; have phEa := ent_grew hSw hEa; have qhEa := box2_c0 phEa; have rhEa := box2_c1 phEa; have phEb := ent_grew hSw hEb; have qhEb := box2_c0 phEb; have rhEb := box2_c1 phEb; have phEc := ent_grew hSw hEc; have qhEc := box2_c0 phEc; have rhEc := box2_c1 phEc; go_simp; try with_reducible rfl
  (try simp only [Act.put, List.setIfInBounds_toArray, List.set_cons_zero, List.set_cons_succ])
  refine wpAnyH_take (i := 1) (oi := ?oiz496) (v := ?vz496) ?hiz496 (by kernel_rfl) (by kernel_rfl) (by kernel_rfl) ?hqz496 ?hyz496 hHeld ?restz496
  case hiz496 => simp only [List.getElem?_toArray, List.getElem?_cons_succ, List.getElem?_cons_zero]; exact rfl
  case hqz496 => exact fun _ _ _ h => h
  case hyz496 => refine Or.inl ⟨by rfl, ?_⟩; intro w hSw; have phEa := ent_grew hSw hEa; have qhEa := box2_c0 phEa; have rhEa := box2_c1 phEa; have phEb := ent_grew hSw hEb; have qhEb := box2_c0 phEb; have rhEb := box2_c1 phEb; have phEc := ent_grew hSw hEc; have qhEc := box2_c0 phEc; have rhEc := box2_c1 phEc; go_simp; try with_reducible rfl
  (try simp only [Act.put, List.setIfInBounds_toArray, List.set_cons_zero, List.set_cons_succ])
  refine wpAnyH_take (i := 3) (oi := ?oiz497) (v := ?vz497) ?hiz497 (by kernel_rfl) (by kernel_rfl) (by kernel_rfl) ?hqz497 ?hyz497 hHeld ?restz497
  case hiz497 => simp only [List.getElem?_toArray, List.getElem?_cons_succ, List.getElem?_cons_zero]; exact rfl
  case hqz497 => exact fun _ _ _ h => h
  case hyz497 => refine Or.inl ⟨by rfl, ?_⟩; intro w hSw; have phEa := ent_grew hSw hEa; have qhEa := box2_c0 phEa; have rhEa := box2_c1 phEa; have phEb := ent_grew hSw hEb; have qhEb := box2_c0 phEb; have rhEb := box2_c1 phEb; have phEc := ent_grew hSw hEc; have qhEc := box2_c0 phEc; have rhEc := box2_c1 phEc; go_simp; try with_reducible rfl
  (try simp only [Act.put, List.setIfInBounds_toArray, List.set_cons_zero, List.set_cons_succ])
  refine wpAnyH_take (i := 4) (oi := ?oiz498) (v := ?vz498) ?hiz498 (by kernel_rfl) (by kernel_rfl) (by kernel_rfl) ?hqz498 ?hyz498 hHeld ?restz498
  case hiz498 => simp only [List.getElem?_toArray, List.getElem?_cons_succ, List.getElem?_cons_zero]; exact rfl
  case hqz498 => exact fun _ _ _ h => h
  case hyz498 => refine Or.inl ⟨by rfl, ?_⟩; intro w hSw; have phEa := ent_grew hSw hEa; have qhEa := box2_c0 phEa; have rhEa := box2_c1 phEa; have phEb := ent_grew hSw hEb; have qhEb := box2_c0 phEb; have rhEb := box2_c1 phEb; have phEc := ent_grew hSw hEc; have qhEc := box2_c0 phEc; have rhEc := box2_c1 phEc; go_simp; try with_reducible rfl
  (try simp only [Act.put, List.setIfInBounds_toArray, List.set_cons_zero, List.set_cons_succ])
  refine wpAnyH_ready (rs := [2]) (by kernel_rfl) (by simp) ?_
  refine AllReadyH.cons (o := ?oiz499) ?hiz499 (fun K hK => ?stepz499) AllReadyH.nil
  case hiz499 => simp only [List.getElem?_toArray, List.getElem?_cons_succ, List.getElem?_cons_zero]; exact rfl
  go_simp
  (go_at_call 24; refine (zadd (ha.grew hHeld) (hbz.grew hHeld) (by omega) (by omega)).mono ?_; rintro e v1 ⟨u1, d1, rfl, hu1, hun1, hv1⟩)
  refine hK.out _ _ ?hSz499 (fun hHeld' => ?restz499)
  case hSz499 => (try dsimp only); (first | exact (Grew.refl _).drew | exact Grew.call hHeld ‹Below _ _ _›)
  clear hK K hHeld
  have hHeld := hHeld'
  clear hHeld'
  (try simp only [Act.put, List.setIfInBounds_toArray, List.set_cons_zero, List.set_cons_succ])
  refine wpAnyH_ready (rs := [5]) (by kernel_rfl) (by simp) ?_
  refine AllReadyH.cons (o := ?oiz500) ?hiz500 (fun K hK => ?stepz500) AllReadyH.nil
  case hiz500 => simp only [List.getElem?_toArray, List.getElem?_cons_succ, List.getElem?_cons_zero]; exact rfl
  go_simp
  (go_at_call 24; have h0 := hv1; clear h0; refine (zadd (hbz.grew hHeld) (ha.grew hHeld) (by omega) (by omega)).mono ?_; rintro e v2 ⟨u2, d2, rfl, hu2, hun2, hv2⟩)
  refine hK.out _ _ ?hSz500 (fun hHeld' => ?restz500)
  case hSz500 => (try dsimp only); (first | exact (Grew.refl _).drew | exact Grew.call hHeld ‹Below _ _ _›)
  clear hK K hHeld
  have hHeld := hHeld'
  clear hHeld'
  (try simp only [Act.put, List.setIfInBounds_toArray, List.set_cons_zero, List.set_cons_succ])
  refine wpAnyH_ready (rs := [6]) (by kernel_rfl) (by simp) ?_
  refine AllReadyH.cons (o := ?oiz501) ?hiz501 (fun K hK => ?stepz501) AllReadyH.nil
  case hiz501 => simp only [List.getElem?_toArray, List.getElem?_cons_succ, List.getElem?_cons_zero]; exact rfl
  go_simp
  (go_at_call 29; refine (zcmp_is 0 (cmpZ_eq (Int.add_comm _ _)) (hu1.up hv2) hu2 (by omega) (by omega)).mono ?_; rintro e v3 ⟨rfl, hv3⟩)
  refine hK.out _ _ ?hSz501 (fun hHeld' => ?restz501)
  case hSz501 => (try dsimp only); (first | exact (Grew.refl _).drew | exact Grew.call hHeld ‹Below _ _ _›)
  clear hK K hHeld
  have hHeld := hHeld'
  clear hHeld'
  (try simp only [Act.put, List.setIfInBounds_toArray, List.set_cons_zero, List.set_cons_succ])
  refine wpAnyH_take (i := 7) (oi := ?oiz502) (v := ?vz502) ?hiz502 (by kernel_rfl) (by kernel_rfl) (by kernel_rfl) ?hqz502 ?hyz502 hHeld ?restz502
  case hiz502 => simp only [List.getElem?_toArray, List.getElem?_cons_succ, List.getElem?_cons_zero]; exact rfl
  case hqz502 => exact fun _ _ _ h => h
  case hyz502 => refine Or.inl ⟨by rfl, ?_⟩; intro w hSw; (try dsimp only at hSw); go_simp; try with_reducible rfl
  (try simp only [Act.put, List.setIfInBounds_toArray, List.set_cons_zero, List.set_cons_succ])
  refine wpAnyH_take (i := 8) (oi := ?oiz503) (v := ?vz503) ?hiz503 (by kernel_rfl) (by kernel_rfl) (by kernel_rfl) ?hqz503 ?hyz503 hHeld ?restz503
  case hiz503 => simp only [List.getElem?_toArray, List.getElem?_cons_succ, List.getElem?_cons_zero]; exact rfl
  case hqz503 => exact fun _ _ _ h => h
  case hyz503 => refine Or.inl ⟨by rfl, ?_⟩; intro w hSw; (try dsimp only at hSw); go_simp; try with_reducible rfl
  (try simp only [Act.put, List.setIfInBounds_toArray, List.set_cons_zero, List.set_cons_succ])
  refine wpAnyH_take (i := 9) (oi := ?oiz504) (v := ?vz504) ?hiz504 (by kernel_rfl) (by kernel_rfl) (by kernel_rfl) ?hqz504 ?hyz504 hHeld ?restz504
  case hiz504 => simp only [List.getElem?_toArray, List.getElem?_cons_succ, List.getElem?_cons_zero]; exact rfl
  case hqz504 => exact fun _ _ _ h => h
  case hyz504 => refine Or.inl ⟨by rfl, ?_⟩; intro w hSw; have phEa := ent_grew hSw hEa; have qhEa := box2_c0 phEa; have rhEa := box2_c1 phEa; have phEb := ent_grew hSw hEb; have qhEb := box2_c0 phEb; have rhEb := box2_c1 phEb; have phEc := ent_grew hSw hEc; have qhEc := box2_c0 phEc; have rhEc := box2_c1 phEc; go_simp; try with_reducible rfl
  (try simp only [Act.put, List.setIfInBounds_toArray, List.set_cons_zero, List.set_cons_succ])
  refine wpAnyH_take (i := 10) (oi := ?oiz505) (v := ?vz505) ?hiz505 (by kernel_rfl) (by kernel_rfl) (by kernel_rfl) ?hqz505 ?hyz505 hHeld ?restz505
  case hiz505 => simp only [List.getElem?_toArray, List.getElem?_cons_succ, List.getElem?_cons_zero]; exact rfl
  case hqz505 => exact fun _ _ _ h => h
  case hyz505 => refine Or.inl ⟨by rfl, ?_⟩; intro w hSw; have phEa := ent_grew hSw hEa; have qhEa := box2_c0 phEa; have rhEa := box2_c1 phEa; have phEb := ent_grew hSw hEb; have qhEb := box2_c0 phEb; have rhEb := box2_c1 phEb; have phEc := ent_grew hSw hEc; have qhEc := box2_c0 phEc; have rhEc := box2_c1 phEc; go_simp; try with_reducible rfl
  (try simp only [Act.put, List.setIfInBounds_toArray, List.set_cons_zero, List.set_cons_succ])
  refine wpAnyH_take (i := 12) (oi := ?oiz506) (v := ?vz506) ?hiz506 (by kernel_rfl) (by kernel_rfl) (by kernel_rfl) ?hqz506 ?hyz506 hHeld ?restz506
  case hiz506 => simp only [List.getElem?_toArray, List.getElem?_cons_succ, List.getElem?_cons_zero]; exact rfl
  case hqz506 => exact fun _ _ _ h => h
  case hyz506 => refine Or.inl ⟨by rfl, ?_⟩; intro w hSw; have phEa := ent_grew hSw hEa; have qhEa := box2_c0 phEa; have rhEa := box2_c1 phEa; have phEb := ent_grew hSw hEb; have qhEb := box2_c0 phEb; have rhEb := box2_c1 phEb; have phEc := ent_grew hSw hEc; have qhEc := box2_c0 phEc; have rhEc := box2_c1 phEc; go_simp; try with_reducible rfl
  (try simp only [Act.put, List.setIfInBounds_toArray, List.set_cons_zero, List.set_cons_succ])
  refine wpAnyH_take (i := 13) (oi := ?oiz507) (v := ?vz507) ?hiz507 (by kernel_rfl) (by kernel_rfl) (by kernel_rfl) ?hqz507 ?hyz507 hHeld ?restz507
  case hiz507 => simp only [List.getElem?_toArray, List.getElem?_cons_succ, List.getElem?_cons_zero]; exact rfl
  case hqz507 => exact fun _ _ _ h => h
  case hyz507 => refine Or.inl ⟨by rfl, ?_⟩; intro w hSw; have phEa := ent_grew hSw hEa; have qhEa := box2_c0 phEa; have rhEa := box2_c1 phEa; have phEb := ent_grew hSw hEb; have qhEb := box2_c0 phEb; have rhEb := box2_c1 phEb; have phEc := ent_grew hSw hEc; have qhEc := box2_c0 phEc; have rhEc := box2_c1 phEc; go_simp; try with_reducible rfl
  (try simp only [Act.put, List.setIfInBounds_toArray, List.set_cons_zero, List.set_cons_succ])
  refine wpAnyH_ready (rs := [11]) (by kernel_rfl) (by simp) ?_
  refine AllReadyH.cons (o := ?oiz508) ?hiz508 (fun K hK => ?stepz508) AllReadyH.nil
  case hiz508 => simp only [List.getElem?_toArray, List.getElem?_cons_succ, List.getElem?_cons_zero]; exact rfl
  go_simp
  (go_at_call 31; have h0 := hv3; clear h0; refine (zmul (ha.grew hHeld) (hbz.grew hHeld) (by omega) (by omega)).mono ?_; rintro e v4 ⟨u4, d4, rfl, hu4, hun4, hv4⟩)
  refine hK.out _ _ ?hSz508 (fun hHeld' => ?restz508)
  case hSz508 => (try dsimp only); (first | exact (Grew.refl _).drew | exact Grew.call hHeld ‹Below _ _ _›)
  clear hK K hHeld
  have hHeld := hHeld'
  clear hHeld'
  (try simp only [Act.put, List.setIfInBounds_toArray, List.set_cons_zero, List.set_cons_succ])
  refine wpAnyH_ready (rs := [14]) (by kernel_rfl) (by simp) ?_
  refine AllReadyH.cons (o := ?oiz509) ?hiz509 (fun K hK => ?stepz509) AllReadyH.nil
  case hiz509 => simp only [List.getElem?_toArray, List.getElem?_cons_succ, List.getElem?_cons_zero]; exact rfl
  go_simp
  (go_at_call 31; have h0 := hv4; clear h0; refine (zmul (hbz.grew hHeld) (ha.grew hHeld) (by omega) (by omega)).mono ?_; rintro e v5 ⟨u5, d5, rfl, hu5, hun5, hv5⟩)
  refine hK.out _ _ ?hSz509 (fun hHeld' => ?restz509)
  case hSz509 => (try dsimp only); (first | exact (Grew.refl _).drew | exact Grew.call hHeld ‹Below _ _ _›)
  clear hK K hHeld
  have hHeld := hHeld'
  clear hHeld'
  (try simp only [Act.put, List.setIfInBounds_toArray, List.set_cons_zero, List.set_cons_succ])
  refine wpAnyH_ready (rs := [15]) (by kernel_rfl) (by simp) ?_
  refine AllReadyH.cons (o := ?oiz510) ?hiz510 (fun K hK => ?stepz510) AllReadyH.nil
  case hiz510 => simp only [List.getElem?_toArray, List.getElem?_cons_succ, List.getElem?_cons_zero]; exact rfl
  go_simp
  (go_at_call 29; refine (zcmp_is 0 (cmpZ_eq (Int.mul_comm _ _)) (hu4.up hv5) hu5 (by omega) (by omega)).mono ?_; rintro e v6 ⟨rfl, hv6⟩)
  refine hK.out _ _ ?hSz510 (fun hHeld' => ?restz510)
  case hSz510 => (try dsimp only); (first | exact (Grew.refl _).drew | exact Grew.call hHeld ‹Below _ _ _›)
  clear hK K hHeld
  have hHeld := hHeld'
  clear hHeld'
  (try simp only [Act.put, List.setIfInBounds_toArray, List.set_cons_zero, List.set_cons_succ])
  refine wpAnyH_take (i := 16) (oi := ?oiz511) (v := ?vz511) ?hiz511 (by kernel_rfl) (by kernel_rfl) (by kernel_rfl) ?hqz511 ?hyz511 hHeld ?restz511
  case hiz511 => simp only [List.getElem?_toArray, List.getElem?_cons_succ, List.getElem?_cons_zero]; exact rfl
  case hqz511 => exact fun _ _ _ h => h
  case hyz511 => refine Or.inl ⟨by rfl, ?_⟩; intro w hSw; (try dsimp only at hSw); go_simp; try with_reducible rfl
  (try simp only [Act.put, List.setIfInBounds_toArray, List.set_cons_zero, List.set_cons_succ])
  refine wpAnyH_take (i := 17) (oi := ?oiz512) (v := ?vz512) ?hiz512 (by kernel_rfl) (by kernel_rfl) (by kernel_rfl) ?hqz512 ?hyz512 hHeld ?restz512
  case hiz512 => simp only [List.getElem?_toArray, List.getElem?_cons_succ, List.getElem?_cons_zero]; exact rfl
  case hqz512 => exact fun _ _ _ h => h
  case hyz512 => refine Or.inl ⟨by rfl, ?_⟩; intro w hSw; (try dsimp only at hSw); go_simp; try with_reducible rfl
  (try simp only [Act.put, List.setIfInBounds_toArray, List.set_cons_zero, List.set_cons_succ])
  refine wpAnyH_take (i := 18) (oi := ?oiz513) (v := ?vz513) ?hiz513 (by kernel_rfl) (by kernel_rfl) (by kernel_rfl) ?hqz513 ?hyz513 hHeld ?restz513
  case hiz513 => simp only [List.getElem?_toArray, List.getElem?_cons_succ, List.getElem?_cons_zero]; exact rfl
  case hqz513 => exact fun _ _ _ h => h
  case hyz513 => refine Or.inl ⟨by rfl, ?_⟩; intro w hSw; (try dsimp only at hSw); go_simp; try with_reducible rfl
  (try simp only [Act.put, List.setIfInBounds_toArray, List.set_cons_zero, List.set_cons_succ])
  refine wpAnyH_take (i := 19) (oi := ?oiz514) (v := ?vz514) ?hiz514 (by kernel_rfl) (by kernel_rfl) (by kernel_rfl) ?hqz514 ?hyz514 hHeld ?restz514
  case hiz514 => simp only [List.getElem?_toArray, List.getElem?_cons_succ, List.getElem?_cons_zero]; exact rfl
  case hqz514 => exact fun _ _ _ h => h
  case hyz514 => refine Or.inl ⟨by rfl, ?_⟩; intro w hSw; have phEa := ent_grew hSw hEa; have qhEa := box2_c0 phEa; have rhEa := box2_c1 phEa; have phEb := ent_grew hSw hEb; have qhEb := box2_c0 phEb; have rhEb := box2_c1 phEb; have phEc := ent_grew hSw hEc; have qhEc := box2_c0 phEc; have rhEc := box2_c1 phEc; go_simp; try with_reducible rfl
  (try simp only [Act.put, List.setIfInBounds_toArray, List.set_cons_zero, List.set_cons_succ])
  refine wpAnyH_take (i := 20) (oi := ?oiz515) (v := ?vz515) ?hiz515 (by kernel_rfl) (by kernel_rfl) (by kernel_rfl) ?hqz515 ?hyz515 hHeld ?restz515
  case hiz515 => simp only [List.getElem?_toArray, List.getElem?_cons_succ, List.getElem?_cons_zero]; exact rfl
  case hqz515 => exact fun _ _ _ h => h
  case hyz515 => refine Or.inl ⟨by rfl, ?_⟩; intro w hSw; have phEa := ent_grew hSw hEa; have qhEa := box2_c0 phEa; have rhEa := box2_c1 phEa; have phEb := ent_grew hSw hEb; have qhEb := box2_c0 phEb; have rhEb := box2_c1 phEb; have phEc := ent_grew hSw hEc; have qhEc := box2_c0 phEc; have rhEc := box2_c1 phEc; go_simp; try with_reducible rfl
  (try simp only [Act.put, List.setIfInBounds_toArray, List.set_cons_zero, List.set_cons_succ])
  refine wpAnyH_take (i := 22) (oi := ?oiz516) (v := ?vz516) ?hiz516 (by kernel_rfl) (by kernel_rfl) (by kernel_rfl) ?hqz516 ?hyz516 hHeld ?restz516
  case hiz516 => simp only [List.getElem?_toArray, List.getElem?_cons_succ, List.getElem?_cons_zero]; exact rfl
  case hqz516 => exact fun _ _ _ h => h
  case hyz516 => refine Or.inl ⟨by rfl, ?_⟩; intro w hSw; have phEa := ent_grew hSw hEa; have qhEa := box2_c0 phEa; have rhEa := box2_c1 phEa; have phEb := ent_grew hSw hEb; have qhEb := box2_c0 phEb; have rhEb := box2_c1 phEb; have phEc := ent_grew hSw hEc; have qhEc := box2_c0 phEc; have rhEc := box2_c1 phEc; go_simp; try with_reducible rfl
  (try simp only [Act.put, List.setIfInBounds_toArray, List.set_cons_zero, List.set_cons_succ])
  refine wpAnyH_take (i := 24) (oi := ?oiz517) (v := ?vz517) ?hiz517 (by kernel_rfl) (by kernel_rfl) (by kernel_rfl) ?hqz517 ?hyz517 hHeld ?restz517
  case hiz517 => simp only [List.getElem?_toArray, List.getElem?_cons_succ, List.getElem?_cons_zero]; exact rfl
  case hqz517 => exact fun _ _ _ h => h
  case hyz517 => refine Or.inl ⟨by rfl, ?_⟩; intro w hSw; have phEa := ent_grew hSw hEa; have qhEa := box2_c0 phEa; have rhEa := box2_c1 phEa; have phEb := ent_grew hSw hEb; have qhEb := box2_c0 phEb; have rhEb := box2_c1 phEb; have phEc := ent_grew hSw hEc; have qhEc := box2_c0 phEc; have rhEc := box2_c1 phEc; go_simp; try with_reducible rfl
  (try simp only [Act.put, List.setIfInBounds_toArray, List.set_cons_zero, List.set_cons_succ])
  refine wpAnyH_take (i := 25) (oi := ?oiz518) (v := ?vz518) ?hiz518 (by kernel_rfl) (by kernel_rfl) (by kernel_rfl) ?hqz518 ?hyz518 hHeld ?restz518
  case hiz518 => simp only [List.getElem?_toArray, List.getElem?_cons_succ, List.getElem?_cons_zero]; exact rfl
  case hqz518 => exact fun _ _ _ h => h
  case hyz518 => refine Or.inl ⟨by rfl, ?_⟩; intro w hSw; have phEa := ent_grew hSw hEa; have qhEa := box2_c0 phEa; have rhEa := box2_c1 phEa; have phEb := ent_grew hSw hEb; have qhEb := box2_c0 phEb; have rhEb := box2_c1 phEb; have phEc := ent_grew hSw hEc; have qhEc := box2_c0 phEc; have rhEc := box2_c1 phEc; go_simp; try with_reducible rfl
  (try simp only [Act.put, List.setIfInBounds_toArray, List.set_cons_zero, List.set_cons_succ])
  refine wpAnyH_take (i := 26) (oi := ?oiz519) (v := ?vz519) ?hiz519 (by kernel_rfl) (by kernel_rfl) (by kernel_rfl) ?hqz519 ?hyz519 hHeld ?restz519
  case hiz519 => simp only [List.getElem?_toArray, List.getElem?_cons_succ, List.getElem?_cons_zero]; exact rfl
  case hqz519 => exact fun _ _ _ h => h
  case hyz519 => refine Or.inl ⟨by rfl, ?_⟩; intro w hSw; have phEa := ent_grew hSw hEa; have qhEa := box2_c0 phEa; have rhEa := box2_c1 phEa; have phEb := ent_grew hSw hEb; have qhEb := box2_c0 phEb; have rhEb := box2_c1 phEb; have phEc := ent_grew hSw hEc; have qhEc := box2_c0 phEc; have rhEc := box2_c1 phEc; go_simp; try with_reducible rfl
  (try simp only [Act.put, List.setIfInBounds_toArray, List.set_cons_zero, List.set_cons_succ])
  refine wpAnyH_ready (rs := [21]) (by kernel_rfl) (by simp) ?_
  refine AllReadyH.cons (o := ?oiz520) ?hiz520 (fun K hK => ?stepz520) AllReadyH.nil
  case hiz520 => simp only [List.getElem?_toArray, List.getElem?_cons_succ, List.getElem?_cons_zero]; exact rfl
  go_simp
  (go_at_call 24; have h0 := hv6; clear h0; refine (zadd (ha.grew hHeld) (hbz.grew hHeld) (by omega) (by omega)).mono ?_; rintro e v7 ⟨u7, d7, rfl, hu7, hun7, hv7⟩)
  refine hK.out _ _ ?hSz520 (fun hHeld' => ?restz520)
  case hSz520 => (try dsimp only); (first | exact (Grew.refl _).drew | exact Grew.call hHeld ‹Below _ _ _›)
  clear hK K hHeld
  have hHeld := hHeld'
  clear hHeld'
  (try simp only [Act.put, List.setIfInBounds_toArray, List.set_cons_zero, List.set_cons_succ])
  refine wpAnyH_ready (rs := [23]) (by kernel_rfl) (by simp) ?_
  refine AllReadyH.cons (o := ?oiz521) ?hiz521 (fun K hK => ?stepz521) AllReadyH.nil
  case hiz521 => simp only [List.getElem?_toArray, List.getElem?_cons_succ, List.getElem?_cons_zero]; exact rfl
  go_simp
  (go_at_call 24; have h0 := hv7; clear h0; refine (zadd hu7 (hc.grew hHeld) (by omega) (by omega)).mono ?_; rintro e v8 ⟨u8, d8, rfl, hu8, hun8, hv8⟩)
  refine hK.out _ _ ?hSz521 (fun hHeld' => ?restz521)
  case hSz521 => (try dsimp only); (first | exact (Grew.refl _).drew | exact Grew.call hHeld ‹Below _ _ _›)
  clear hK K hHeld
  have hHeld := hHeld'
  clear hHeld'
  (try simp only [Act.put, List.setIfInBounds_toArray, List.set_cons_zero, List.set_cons_succ])
  refine wpAnyH_ready (rs := [27]) (by kernel_rfl) (by simp) ?_
  refine AllReadyH.cons (o := ?oiz522) ?hiz522 (fun K hK => ?stepz522) AllReadyH.nil
  case hiz522 => simp only [List.getElem?_toArray, List.getElem?_cons_succ, List.getElem?_cons_zero]; exact rfl
  go_simp
  (go_at_call 24; have h0 := hv8; clear h0; refine (zadd (hbz.grew hHeld) (hc.grew hHeld) (by omega) (by omega)).mono ?_; rintro e v9 ⟨u9, d9, rfl, hu9, hun9, hv9⟩)
  refine hK.out _ _ ?hSz522 (fun hHeld' => ?restz522)
  case hSz522 => (try dsimp only); (first | exact (Grew.refl _).drew | exact Grew.call hHeld ‹Below _ _ _›)
  clear hK K hHeld
  have hHeld := hHeld'
  clear hHeld'
  (try simp only [Act.put, List.setIfInBounds_toArray, List.set_cons_zero, List.set_cons_succ])
  refine wpAnyH_ready (rs := [28]) (by kernel_rfl) (by simp) ?_
  refine AllReadyH.cons (o := ?oiz523) ?hiz523 (fun K hK => ?stepz523) AllReadyH.nil
  case hiz523 => simp only [List.getElem?_toArray, List.getElem?_cons_succ, List.getElem?_cons_zero]; exact rfl
  go_simp
  (go_at_call 24; have h0 := hv9; clear h0; refine (zadd (ha.grew hHeld) hu9 (by omega) (by omega)).mono ?_; rintro e v10 ⟨u10, d10, rfl, hu10, hun10, hv10⟩)
  refine hK.out _ _ ?hSz523 (fun hHeld' => ?restz523)
  case hSz523 => (try dsimp only); (first | exact (Grew.refl _).drew | exact Grew.call hHeld ‹Below _ _ _›)
  clear hK K hHeld
  have hHeld := hHeld'
  clear hHeld'
  (try simp only [Act.put, List.setIfInBounds_toArray, List.set_cons_zero, List.set_cons_succ])
  refine wpAnyH_ready (rs := [29]) (by kernel_rfl) (by simp) ?_
  refine AllReadyH.cons (o := ?oiz524) ?hiz524 (fun K hK => ?stepz524) AllReadyH.nil
  case hiz524 => simp only [List.getElem?_toArray, List.getElem?_cons_succ, List.getElem?_cons_zero]; exact rfl
  go_simp
  (go_at_call 29; refine (zcmp_is 0 (cmpZ_eq (Int.add_assoc _ _ _)) ((hu8.up hv9).up hv10) hu10 (by omega) (by omega)).mono ?_; rintro e v11 ⟨rfl, hv11⟩)
  refine hK.out _ _ ?hSz524 (fun hHeld' => ?restz524)
  case hSz524 => (try dsimp only); (first | exact (Grew.refl _).drew | exact Grew.call hHeld ‹Below _ _ _›)
  clear hK K hHeld
  have hHeld := hHeld'
  clear hHeld'
  (try simp only [Act.put, List.setIfInBounds_toArray, List.set_cons_zero, List.set_cons_succ])
  refine wpAnyH_take (i := 30) (oi := ?oiz525) (v := ?vz525) ?hiz525 (by kernel_rfl) (by kernel_rfl) (by kernel_rfl) ?hqz525 ?hyz525 hHeld ?restz525
  case hiz525 => simp only [List.getElem?_toArray, List.getElem?_cons_succ, List.getElem?_cons_zero]; exact rfl
  case hqz525 => exact fun _ _ _ h => h
  case hyz525 => refine Or.inl ⟨by rfl, ?_⟩; intro w hSw; (try dsimp only at hSw); go_simp; try with_reducible rfl
  (try simp only [Act.put, List.setIfInBounds_toArray, List.set_cons_zero, List.set_cons_succ])
  refine wpAnyH_take (i := 31) (oi := ?oiz526) (v := ?vz526) ?hiz526 (by kernel_rfl) (by kernel_rfl) (by kernel_rfl) ?hqz526 ?hyz526 hHeld ?restz526
  case hiz526 => simp only [List.getElem?_toArray, List.getElem?_cons_succ, List.getElem?_cons_zero]; exact rfl
  case hqz526 => exact fun _ _ _ h => h
  case hyz526 => refine Or.inl ⟨by rfl, ?_⟩; intro w hSw; (try dsimp only at hSw); go_simp; try with_reducible rfl
  (try simp only [Act.put, List.setIfInBounds_toArray, List.set_cons_zero, List.set_cons_succ])
  refine wpAnyH_take (i := 32) (oi := ?oiz527) (v := ?vz527) ?hiz527 (by kernel_rfl) (by kernel_rfl) (by kernel_rfl) ?hqz527 ?hyz527 hHeld ?restz527
  case hiz527 => simp only [List.getElem?_toArray, List.getElem?_cons_succ, List.getElem?_cons_zero]; exact rfl
  case hqz527 => exact fun _ _ _ h => h
  case hyz527 => refine Or.inl ⟨by rfl, ?_⟩; intro w hSw; (try dsimp only at hSw); go_simp; try with_reducible rfl
  (try simp only [Act.put, List.setIfInBounds_toArray, List.set_cons_zero, List.set_cons_succ])
  refine wpAnyH_take (i := 33) (oi := ?oiz528) (v := ?vz528) ?hiz528 (by kernel_rfl) (by kernel_rfl) (by kernel_rfl) ?hqz528 ?hyz528 hHeld ?restz528
  case hiz528 => simp only [List.getElem?_toArray, List.getElem?_cons_succ, List.getElem?_cons_zero]; exact rfl
  case hqz528 => exact fun _ _ _ h => h
  case hyz528 => refine Or.inl ⟨by rfl, ?_⟩; intro w hSw; have phEa := ent_grew hSw hEa; have qhEa := box2_c0 phEa; have rhEa := box2_c1 phEa; have phEb := ent_grew hSw hEb; have qhEb := box2_c0 phEb; have rhEb := box2_c1 phEb; have phEc := ent_grew hSw hEc; have qhEc := box2_c0 phEc; have rhEc := box2_c1 phEc; go_simp; try with_reducible rfl
  (try simp only [Act.put, List.setIfInBounds_toArray, List.set_cons_zero, List.set_cons_succ])
  refine wpAnyH_take (i := 34) (oi := ?oiz529) (v := ?vz529) ?hiz529 (by kernel_rfl) (by kernel_rfl) (by kernel_rfl) ?hqz529 ?hyz529 hHeld ?restz529
  case hiz529 => simp only [List.getElem?_toArray, List.getElem?_cons_succ, List.getElem?_cons_zero]; exact rfl
  case hqz529 => exact fun _ _ _ h => h
  case hyz529 => refine Or.inl ⟨by rfl, ?_⟩; intro w hSw; have phEa := ent_grew hSw hEa; have qhEa := box2_c0 phEa; have rhEa := box2_c1 phEa; have phEb := ent_grew hSw hEb; have qhEb := box2_c0 phEb; have rhEb := box2_c1 phEb; have phEc := ent_grew hSw hEc; have qhEc := box2_c0 phEc; have rhEc := box2_c1 phEc; go_simp; try with_reducible rfl
  (try simp only [Act.put, List.setIfInBounds_toArray, List.set_cons_zero, List.set_cons_succ])
  refine wpAnyH_take (i := 36) (oi := ?oiz530) (v := ?vz530) ?hiz530 (by kernel_rfl) (by kernel_rfl) (by kernel_rfl) ?hqz530 ?hyz530 hHeld ?restz530
  case hiz530 => simp only [List.getElem?_toArray, List.getElem?_cons_succ, List.getElem?_cons_zero]; exact rfl
  case hqz530 => exact fun _ _ _ h => h
  case hyz530 => refine Or.inl ⟨by rfl, ?_⟩; intro w hSw; have phEa := ent_grew hSw hEa; have qhEa := box2_c0 phEa; have rhEa := box2_c1 phEa; have phEb := ent_grew hSw hEb; have qhEb := box2_c0 phEb; have rhEb := box2_c1 phEb; have phEc := ent_grew hSw hEc; have qhEc := box2_c0 phEc; have rhEc := box2_c1 phEc; go_simp; try with_reducible rfl
  (try simp only [Act.put, List.setIfInBounds_toArray, List.set_cons_zero, List.set_cons_succ])
  refine wpAnyH_take (i := 38) (oi := ?oiz531) (v := ?vz531) ?hiz531 (by kernel_rfl) (by kernel_rfl) (by kernel_rfl) ?hqz531 ?hyz531 hHeld ?restz531
  case hiz531 => simp only [List.getElem?_toArray, List.getElem?_cons_succ, List.getElem?_cons_zero]; exact rfl
  case hqz531 => exact fun _ _ _ h => h
  case hyz531 => refine Or.inl ⟨by rfl, ?_⟩; intro w hSw; have phEa := ent_grew hSw hEa; have qhEa := box2_c0 phEa; have rhEa := box2_c1 phEa; have phEb := ent_grew hSw hEb; have qhEb := box2_c0 phEb; have rhEb := box2_c1 phEb; have phEc := ent_grew hSw hEc; have qhEc := box2_c0 phEc; have rhEc := box2_c1 phEc; go_simp; try with_reducible rfl
  (try simp only [Act.put, List.setIfInBounds_toArray, List.set_cons_zero, List.set_cons_succ])
  refine wpAnyH_take (i := 39) (oi := ?oiz532) (v := ?vz532) ?hiz532 (by kernel_rfl) (by kernel_rfl) (by kernel_rfl) ?hqz532 ?hyz532 hHeld ?restz532
  case hiz532 => simp only [List.getElem?_toArray, List.getElem?_cons_succ, List.getElem?_cons_zero]; exact rfl
  case hqz532 => exact fun _ _ _ h => h
  case hyz532 => refine Or.inl ⟨by rfl, ?_⟩; intro w hSw; have phEa := ent_grew hSw hEa; have qhEa := box2_c0 phEa; have rhEa := box2_c1 phEa; have phEb := ent_grew hSw hEb; have qhEb := box2_c0 phEb; have rhEb := box2_c1 phEb; have phEc := ent_grew hSw hEc; have qhEc := box2_c0 phEc; have rhEc := box2_c1 phEc; go_simp; try with_reducible rfl
  (try simp only [Act.put, List.setIfInBounds_toArray, List.set_cons_zero, List.set_cons_succ])
  refine wpAnyH_take (i := 40) (oi := ?oiz533) (v := ?vz533) ?hiz533 (by kernel_rfl) (by kernel_rfl) (by kernel_rfl) ?hqz533 ?hyz533 hHeld ?restz533
  case hiz533 => simp only [List.getElem?_toArray, List.getElem?_cons_succ, List.getElem?_cons_zero]; exact rfl
  case hqz533 => exact fun _ _ _ h => h
  case hyz533 => refine Or.inl ⟨by rfl, ?_⟩; intro w hSw; have phEa := ent_grew hSw hEa; have qhEa := box2_c0 phEa; have rhEa := box2_c1 phEa; have phEb := ent_grew hSw hEb; have qhEb := box2_c0 phEb; have rhEb := box2_c1 phEb; have phEc := ent_grew hSw hEc; have qhEc := box2_c0 phEc; have rhEc := box2_c1 phEc; go_simp; try with_reducible rfl
  (try simp only [Act.put, List.setIfInBounds_toArray, List.set_cons_zero, List.set_cons_succ])
  refine wpAnyH_ready (rs := [35]) (by kernel_rfl) (by simp) ?_
  refine AllReadyH.cons (o := ?oiz534) ?hiz534 (fun K hK => ?stepz534) AllReadyH.nil
  case hiz534 => simp only [List.getElem?_toArray, List.getElem?_cons_succ, List.getElem?_cons_zero]; exact rfl
  go_simp
  (go_at_call 31; have h0 := hv11; clear h0; refine (zmul (ha.grew hHeld) (hbz.grew hHeld) (by omega) (by omega)).mono ?_; rintro e v12 ⟨u12, d12, rfl, hu12, hun12, hv12⟩)
  refine hK.out _ _ ?hSz534 (fun hHeld' => ?restz534)
  case hSz534 => (try dsimp only); (first | exact (Grew.refl _).drew | exact Grew.call hHeld ‹Below _ _ _›)
  clear hK K hHeld
  have hHeld := hHeld'
  clear hHeld'
  (try simp only [Act.put, List.setIfInBounds_toArray, List.set_cons_zero, List.set_cons_succ])
  refine wpAnyH_ready (rs := [37]) (by kernel_rfl) (by simp) ?_
  refine AllReadyH.cons (o := ?oiz535) ?hiz535 (fun K hK => ?stepz535) AllReadyH.nil
  case hiz535 => simp only [List.getElem?_toArray, List.getElem?_cons_succ, List.getElem?_cons_zero]; exact rfl
  go_simp
  (go_at_call 31; have h0 := hv12; clear h0; refine (zmul hu12 (hc.grew hHeld) (by omega) (by omega)).mono ?_; rintro e v13 ⟨u13, d13, rfl, hu13, hun13, hv13⟩)
  refine hK.out _ _ ?hSz535 (fun hHeld' => ?restz535)
  case hSz535 => (try dsimp only); (first | exact (Grew.refl _).drew | exact Grew.call hHeld ‹Below _ _ _›)
  clear hK K hHeld
  have hHeld := hHeld'
  clear hHeld'
  (try simp only [Act.put, List.setIfInBounds_toArray, List.set_cons_zero, List.set_cons_succ])
  refine wpAnyH_ready (rs := [41]) (by kernel_rfl) (by simp) ?_
  refine AllReadyH.cons (o := ?oiz536) ?hiz536 (fun K hK => ?stepz536) AllReadyH.nil
  case hiz536 => simp only [List.getElem?_toArray, List.getElem?_cons_succ, List.getElem?_cons_zero]; exact rfl
  go_simp
  (go_at_call 31; have h0 := hv13; clear h0; refine (zmul (hbz.grew hHeld) (hc.grew hHeld) (by omega) (by omega)).mono ?_; rintro e v14 ⟨u14, d14, rfl, hu14, hun14, hv14⟩)
  refine hK.out _ _ ?hSz536 (fun hHeld' => ?restz536)
  case hSz536 => (try dsimp only); (first | exact (Grew.refl _).drew | exact Grew.call hHeld ‹Below _ _ _›)
  clear hK K hHeld
  have hHeld := hHeld'
  clear hHeld'
  (try simp only [Act.put, List.setIfInBounds_toArray, List.set_cons_zero, List.set_cons_succ])
  refine wpAnyH_ready (rs := [42]) (by kernel_rfl) (by simp) ?_
  refine AllReadyH.cons (o := ?oiz537) ?hiz537 (fun K hK => ?stepz537) AllReadyH.nil
  case hiz537 => simp only [List.getElem?_toArray, List.getElem?_cons_succ, List.getElem?_cons_zero]; exact rfl
  go_simp
  (go_at_call 31; have h0 := hv14; clear h0; refine (zmul (ha.grew hHeld) hu14 (by omega) (by omega)).mono ?_; rintro e v15 ⟨u15, d15, rfl, hu15, hun15, hv15⟩)
  refine hK.out _ _ ?hSz537 (fun hHeld' => ?restz537)
  case hSz537 => (try dsimp only); (first | exact (Grew.refl _).drew | exact Grew.call hHeld ‹Below _ _ _›)
  clear hK K hHeld
  have hHeld := hHeld'
  clear hHeld'
  (try simp only [Act.put, List.setIfInBounds_toArray, List.set_cons_zero, List.set_cons_succ])
  refine wpAnyH_ready (rs := [43]) (by kernel_rfl) (by simp) ?_
  refine AllReadyH.cons (o := ?oiz538) ?hiz538 (fun K hK => ?stepz538) AllReadyH.nil
  case hiz538 => simp only [List.getElem?_toArray, List.getElem?_cons_succ, List.getElem?_cons_zero]; exact rfl
  go_simp
  (go_at_call 29; refine (zcmp_is 0 (cmpZ_eq (Int.mul_assoc _ _ _)) ((hu13.up hv14).up hv15) hu15 (by omega) (by omega)).mono ?_; rintro e v16 ⟨rfl, hv16⟩)
  refine hK.out _ _ ?hSz538 (fun hHeld' => ?restz538)
  case hSz538 => (try dsimp only); (first | exact (Grew.refl _).drew | exact Grew.call hHeld ‹Below _ _ _›)
  clear hK K hHeld
  have hHeld := hHeld'
  clear hHeld'
  (try simp only [Act.put, List.setIfInBounds_toArray, List.set_cons_zero, List.set_cons_succ])
  refine wpAnyH_take (i := 44) (oi := ?oiz539) (v := ?vz539) ?hiz539 (by kernel_rfl) (by kernel_rfl) (by kernel_rfl) ?hqz539 ?hyz539 hHeld ?restz539
  case hiz539 => simp only [List.getElem?_toArray, List.getElem?_cons_succ, List.getElem?_cons_zero]; exact rfl
  case hqz539 => exact fun _ _ _ h => h
  case hyz539 => refine Or.inl ⟨by rfl, ?_⟩; intro w hSw; (try dsimp only at hSw); go_simp; try with_reducible rfl
  (try simp only [Act.put, List.setIfInBounds_toArray, List.set_cons_zero, List.set_cons_succ])
  refine wpAnyH_take (i := 45) (oi := ?oiz540) (v := ?vz540) ?hiz540 (by kernel_rfl) (by kernel_rfl) (by kernel_rfl) ?hqz540 ?hyz540 hHeld ?restz540
  case hiz540 => simp only [List.getElem?_toArray, List.getElem?_cons_succ, List.getElem?_cons_zero]; exact rfl
  case hqz540 => exact fun _ _ _ h => h
  case hyz540 => refine Or.inl ⟨by rfl, ?_⟩; intro w hSw; (try dsimp only at hSw); go_simp; try with_reducible rfl
  (try simp only [Act.put, List.setIfInBounds_toArray, List.set_cons_zero, List.set_cons_succ])
  refine wpAnyH_take (i := 46) (oi := ?oiz541) (v := ?vz541) ?hiz541 (by kernel_rfl) (by kernel_rfl) (by kernel_rfl) ?hqz541 ?hyz541 hHeld ?restz541
  case hiz541 => simp only [List.getElem?_toArray, List.getElem?_cons_succ, List.getElem?_cons_zero]; exact rfl
  case hqz541 => exact fun _ _ _ h => h
  case hyz541 => refine Or.inl ⟨by rfl, ?_⟩; intro w hSw; (try dsimp only at hSw); go_simp; try with_reducible rfl
  (try simp only [Act.put, List.setIfInBounds_toArray, List.set_cons_zero, List.set_cons_succ])
  refine wpAnyH_take (i := 47) (oi := ?oiz542) (v := ?vz542) ?hiz542 (by kernel_rfl) (by kernel_rfl) (by kernel_rfl) ?hqz542 ?hyz542 hHeld ?restz542
  case hiz542 => simp only [List.getElem?_toArray, List.getElem?_cons_succ, List.getElem?_cons_zero]; exact rfl
  case hqz542 => exact fun _ _ _ h => h
  case hyz542 => refine Or.inl ⟨by rfl, ?_⟩; intro w hSw; have phEa := ent_grew hSw hEa; have qhEa := box2_c0 phEa; have rhEa := box2_c1 phEa; have phEb := ent_grew hSw hEb; have qhEb := box2_c0 phEb; have rhEb := box2_c1 phEb; have phEc := ent_grew hSw hEc; have qhEc := box2_c0 phEc; have rhEc := box2_c1 phEc; go_simp; try with_reducible rfl
  (try simp only [Act.put, List.setIfInBounds_toArray, List.set_cons_zero, List.set_cons_succ])
  refine wpAnyH_take (i := 48) (oi := ?oiz543) (v := ?vz543) ?hiz543 (by kernel_rfl) (by kernel_rfl) (by kernel_rfl) ?hqz543 ?hyz543 hHeld ?restz543
  case hiz543 => simp only [List.getElem?_toArray, List.getElem?_cons_succ, List.getElem?_cons_zero]; exact rfl
  case hqz543 => exact fun _ _ _ h => h
  case hyz543 => refine Or.inl ⟨by rfl, ?_⟩; intro w hSw; have phEa := ent_grew hSw hEa; have qhEa := box2_c0 phEa; have rhEa := box2_c1 phEa; have phEb := ent_grew hSw hEb; have qhEb := box2_c0 phEb; have rhEb := box2_c1 phEb; have phEc := ent_grew hSw hEc; have qhEc := box2_c0 phEc; have rhEc := box2_c1 phEc; go_simp; try with_reducible rfl
  (try simp only [Act.put, List.setIfInBounds_toArray, List.set_cons_zero, List.set_cons_succ])
  refine wpAnyH_take (i := 49) (oi := ?oiz544) (v := ?vz544) ?hiz544 (by kernel_rfl) (by kernel_rfl) (by kernel_rfl) ?hqz544 ?hyz544 hHeld ?restz544
  case hiz544 => simp only [List.getElem?_toArray, List.getElem?_cons_succ, List.getElem?_cons_zero]; exact rfl
  case hqz544 => exact fun _ _ _ h => h
  case hyz544 => refine Or.inl ⟨by rfl, ?_⟩; intro w hSw; have phEa := ent_grew hSw hEa; have qhEa := box2_c0 phEa; have rhEa := box2_c1 phEa; have phEb := ent_grew hSw hEb; have qhEb := box2_c0 phEb; have rhEb := box2_c1 phEb; have phEc := ent_grew hSw hEc; have qhEc := box2_c0 phEc; have rhEc := box2_c1 phEc; go_simp; try with_reducible rfl
  (try simp only [Act.put, List.setIfInBounds_toArray, List.set_cons_zero, List.set_cons_succ])
  refine wpAnyH_take (i := 52) (oi := ?oiz545) (v := ?vz545) ?hiz545 (by kernel_rfl) (by kernel_rfl) (by kernel_rfl) ?hqz545 ?hyz545 hHeld ?restz545
  case hiz545 => simp only [List.getElem?_toArray, List.getElem?_cons_succ, List.getElem?_cons_zero]; exact rfl
  case hqz545 => exact fun _ _ _ h => h
  case hyz545 => refine Or.inl ⟨by rfl, ?_⟩; intro w hSw; have phEa := ent_grew hSw hEa; have qhEa := box2_c0 phEa; have rhEa := box2_c1 phEa; have phEb := ent_grew hSw hEb; have qhEb := box2_c0 phEb; have rhEb := box2_c1 phEb; have phEc := ent_grew hSw hEc; have qhEc := box2_c0 phEc; have rhEc := box2_c1 phEc; go_simp; try with_reducible rfl
  (try simp only [Act.put, List.setIfInBounds_toArray, List.set_cons_zero, List.set_cons_succ])
  refine wpAnyH_take (i := 53) (oi := ?oiz546) (v := ?vz546) ?hiz546 (by kernel_rfl) (by kernel_rfl) (by kernel_rfl) ?hqz546 ?hyz546 hHeld ?restz546
  case hiz546 => simp only [List.getElem?_toArray, List.getElem?_cons_succ, List.getElem?_cons_zero]; exact rfl
  case hqz546 => exact fun _ _ _ h => h
  case hyz546 => refine Or.inl ⟨by rfl, ?_⟩; intro w hSw; have phEa := ent_grew hSw hEa; have qhEa := box2_c0 phEa; have rhEa := box2_c1 phEa; have phEb := ent_grew hSw hEb; have qhEb := box2_c0 phEb; have rhEb := box2_c1 phEb; have phEc := ent_grew hSw hEc; have qhEc := box2_c0 phEc; have rhEc := box2_c1 phEc; go_simp; try with_reducible rfl
  (try simp only [Act.put, List.setIfInBounds_toArray, List.set_cons_zero, List.set_cons_succ])
  refine wpAnyH_take (i := 55) (oi := ?oiz547) (v := ?vz547) ?hiz547 (by kernel_rfl) (by kernel_rfl) (by kernel_rfl) ?hqz547 ?hyz547 hHeld ?restz547
  case hiz547 => simp only [List.getElem?_toArray, List.getElem?_cons_succ, List.getElem?_cons_zero]; exact rfl
  case hqz547 => exact fun _ _ _ h => h
  case hyz547 => refine Or.inl ⟨by rfl, ?_⟩; intro w hSw; have phEa := ent_grew hSw hEa; have qhEa := box2_c0 phEa; have rhEa := box2_c1 phEa; have phEb := ent_grew hSw hEb; have qhEb := box2_c0 phEb; have rhEb := box2_c1 phEb; have phEc := ent_grew hSw hEc; have qhEc := box2_c0 phEc; have rhEc := box2_c1 phEc; go_simp; try with_reducible rfl
  (try simp only [Act.put, List.setIfInBounds_toArray, List.set_cons_zero, List.set_cons_succ])
  refine wpAnyH_take (i := 56) (oi := ?oiz548) (v := ?vz548) ?hiz548 (by kernel_rfl) (by kernel_rfl) (by kernel_rfl) ?hqz548 ?hyz548 hHeld ?restz548
  case hiz548 => simp only [List.getElem?_toArray, List.getElem?_cons_succ, List.getElem?_cons_zero]; exact rfl
  case hqz548 => exact fun _ _ _ h => h
  case hyz548 => refine Or.inl ⟨by rfl, ?_⟩; intro w hSw; have phEa := ent_grew hSw hEa; have qhEa := box2_c0 phEa; have rhEa := box2_c1 phEa; have phEb := ent_grew hSw hEb; have qhEb := box2_c0 phEb; have rhEb := box2_c1 phEb; have phEc := ent_grew hSw hEc; have qhEc := box2_c0 phEc; have rhEc := box2_c1 phEc; go_simp; try with_reducible rfl
  (try simp only [Act.put, List.setIfInBounds_toArray, List.set_cons_zero, List.set_cons_succ])
  refine wpAnyH_ready (rs := [50]) (by kernel_rfl) (by simp) ?_
  refine AllReadyH.cons (o := ?oiz549) ?hiz549 (fun K hK => ?stepz549) AllReadyH.nil
  case hiz549 => simp only [List.getElem?_toArray, List.getElem?_cons_succ, List.getElem?_cons_zero]; exact rfl
  go_simp
  (go_at_call 24; have h0 := hv16; clear h0; refine (zadd (hbz.grew hHeld) (hc.grew hHeld) (by omega) (by omega)).mono ?_; rintro e v17 ⟨u17, d17, rfl, hu17, hun17, hv17⟩)
  refine hK.out _ _ ?hSz549 (fun hHeld' => ?restz549)
  case hSz549 => (try dsimp only); (first | exact (Grew.refl _).drew | exact Grew.call hHeld ‹Below _ _ _›)
  clear hK K hHeld
  have hHeld := hHeld'
  clear hHeld'
  (try simp only [Act.put, List.setIfInBounds_toArray, List.set_cons_zero, List.set_cons_succ])
  refine wpAnyH_ready (rs := [51]) (by kernel_rfl) (by simp) ?_
  refine AllReadyH.cons (o := ?oiz550) ?hiz550 (fun K hK => ?stepz550) AllReadyH.nil
  case hiz550 => simp only [List.getElem?_toArray, List.getElem?_cons_succ, List.getElem?_cons_zero]; exact rfl
  go_simp
  (go_at_call 31; have h0 := hv17; clear h0; refine (zmul (ha.grew hHeld) hu17 (by omega) (by omega)).mono ?_; rintro e v18 ⟨u18, d18, rfl, hu18, hun18, hv18⟩)
  refine hK.out _ _ ?hSz550 (fun hHeld' => ?restz550)
  case hSz550 => (try dsimp only); (first | exact (Grew.refl _).drew | exact Grew.call hHeld ‹Below _ _ _›)
  clear hK K hHeld
  have hHeld := hHeld'
  clear hHeld'
  (try simp only [Act.put, List.setIfInBounds_toArray, List.set_cons_zero, List.set_cons_succ])
  refine wpAnyH_ready (rs := [54]) (by kernel_rfl) (by simp) ?_
  refine AllReadyH.cons (o := ?oiz551) ?hiz551 (fun K hK => ?stepz551) AllReadyH.nil
  case hiz551 => simp only [List.getElem?_toArray, List.getElem?_cons_succ, List.getElem?_cons_zero]; exact rfl
  go_simp
  (go_at_call 31; have h0 := hv18; clear h0; refine (zmul (ha.grew hHeld) (hbz.grew hHeld) (by omega) (by omega)).mono ?_; rintro e v19 ⟨u19, d19, rfl, hu19, hun19, hv19⟩)
  refine hK.out _ _ ?hSz551 (fun hHeld' => ?restz551)
  case hSz551 => (try dsimp only); (first | exact (Grew.refl _).drew | exact Grew.call hHeld ‹Below _ _ _›)
  clear hK K hHeld
  have hHeld := hHeld'
  clear hHeld'
  (try simp only [Act.put, List.setIfInBounds_toArray, List.set_cons_zero, List.set_cons_succ])
  refine wpAnyH_ready (rs := [57]) (by kernel_rfl) (by simp) ?_
  refine AllReadyH.cons (o := ?oiz552) ?hiz552 (fun K hK => ?stepz552) AllReadyH.nil
  case hiz552 => simp only [List.getElem?_toArray, List.getElem?_cons_succ, List.getElem?_cons_zero]; exact rfl
  go_simp
  (go_at_call 31; have h0 := hv19; clear h0; refine (zmul (ha.grew hHeld) (hc.grew hHeld) (by omega) (by omega)).mono ?_; rintro e v20 ⟨u20, d20, rfl, hu20, hun20, hv20⟩)
  refine hK.out _ _ ?hSz552 (fun hHeld' => ?restz552)
  case hSz552 => (try dsimp only); (first | exact (Grew.refl _).drew | exact Grew.call hHeld ‹Below _ _ _›)
  clear hK K hHeld
  have hHeld := hHeld'
  clear hHeld'
  (try simp only [Act.put, List.setIfInBounds_toArray, List.set_cons_zero, List.set_cons_succ])
  refine wpAnyH_ready (rs := [58]) (by kernel_rfl) (by simp) ?_
  refine AllReadyH.cons (o := ?oiz553) ?hiz553 (fun K hK => ?stepz553) AllReadyH.nil
  case hiz553 => simp only [List.getElem?_toArray, List.getElem?_cons_succ, List.getElem?_cons_zero]; exact rfl
  go_simp
  (go_at_call 24; have h0 := hv20; clear h0; refine (zadd (hu19.up hv20) hu20 (by omega) (by omega)).mono ?_; rintro e v21 ⟨u21, d21, rfl, hu21, hun21, hv21⟩)
  refine hK.out _ _ ?hSz553 (fun hHeld' => ?restz553)
  case hSz553 => (try dsimp only); (first | exact (Grew.refl _).drew | exact Grew.call hHeld ‹Below _ _ _›)
  clear hK K hHeld
  have hHeld := hHeld'
  clear hHeld'
  (try simp only [Act.put, List.setIfInBounds_toArray, List.set_cons_zero, List.set_cons_succ])
  refine wpAnyH_ready (rs := [59]) (by kernel_rfl) (by simp) ?_
  refine AllReadyH.cons (o := ?oiz554) ?hiz554 (fun K hK => ?stepz554) AllReadyH.nil
  case hiz554 => simp only [List.getElem?_toArray, List.getElem?_cons_succ, List.getElem?_cons_zero]; exact rfl
  go_simp
  (go_at_call 29; refine (zcmp_is 0 (cmpZ_eq (Int.mul_add _ _ _)) (((hu18.up hv19).up hv20).up hv21) hu21 (by omega) (by omega)).mono ?_; rintro e v22 ⟨rfl, hv22⟩)
  refine hK.out _ _ ?hSz554 (fun hHeld' => ?restz554)
  case hSz554 => (try dsimp only); (first | exact (Grew.refl _).drew | exact Grew.call hHeld ‹Below _ _ _›)
  clear hK K hHeld
  have hHeld := hHeld'
  clear hHeld'
  (try simp only [Act.put, List.setIfInBounds_toArray, List.set_cons_zero, List.set_cons_succ])
  refine wpAnyH_take (i := 60) (oi := ?oiz555) (v := ?vz555) ?hiz555 (by kernel_rfl) (by kernel_rfl) (by kernel_rfl) ?hqz555 ?hyz555 hHeld ?restz555
  case hiz555 => simp only [List.getElem?_toArray, List.getElem?_cons_succ, List.getElem?_cons_zero]; exact rfl
  case hqz555 => exact fun _ _ _ h => h
  case hyz555 => refine Or.inl ⟨by rfl, ?_⟩; intro w hSw; (try dsimp only at hSw); go_simp; try with_reducible rfl
  (try simp only [Act.put, List.setIfInBounds_toArray, List.set_cons_zero, List.set_cons_succ])
  refine wpAnyH_take (i := 61) (oi := ?oiz556) (v := ?vz556) ?hiz556 (by kernel_rfl) (by kernel_rfl) (by kernel_rfl) ?hqz556 ?hyz556 hHeld ?restz556
  case hiz556 => simp only [List.getElem?_toArray, List.getElem?_cons_succ, List.getElem?_cons_zero]; exact rfl
  case hqz556 => exact fun _ _ _ h => h
  case hyz556 => refine Or.inl ⟨by rfl, ?_⟩; intro w hSw; (try dsimp only at hSw); go_simp; try with_reducible rfl
  (try simp only [Act.put, List.setIfInBounds_toArray, List.set_cons_zero, List.set_cons_succ])
  refine wpAnyH_take (i := 62) (oi := ?oiz557) (v := ?vz557) ?hiz557 (by kernel_rfl) (by kernel_rfl) (by kernel_rfl) ?hqz557 ?hyz557 hHeld ?restz557
  case hiz557 => simp only [List.getElem?_toArray, List.getElem?_cons_succ, List.getElem?_cons_zero]; exact rfl
  case hqz557 => exact fun _ _ _ h => h
  case hyz557 => refine Or.inl ⟨by rfl, ?_⟩; intro w hSw; (try dsimp only at hSw); go_simp; try with_reducible rfl
  (try simp only [Act.put, List.setIfInBounds_toArray, List.set_cons_zero, List.set_cons_succ])
  refine wpAnyH_take (i := 63) (oi := ?oiz558) (v := ?vz558) ?hiz558 (by kernel_rfl) (by kernel_rfl) (by kernel_rfl) ?hqz558 ?hyz558 hHeld ?restz558
  case hiz558 => simp only [List.getElem?_toArray, List.getElem?_cons_succ, List.getElem?_cons_zero]; exact rfl
  case hqz558 => exact fun _ _ _ h => h
  case hyz558 => refine Or.inl ⟨by rfl, ?_⟩; intro w hSw; have phEa := ent_grew hSw hEa; have qhEa := box2_c0 phEa; have rhEa := box2_c1 phEa; have phEb := ent_grew hSw hEb; have qhEb := box2_c0 phEb; have rhEb := box2_c1 phEb; have phEc := ent_grew hSw hEc; have qhEc := box2_c0 phEc; have rhEc := box2_c1 phEc; go_simp; try with_reducible rfl
  (try simp only [Act.put, List.setIfInBounds_toArray, List.set_cons_zero, List.set_cons_succ])
  refine wpAnyH_take (i := 64) (oi := ?oiz559) (v := ?vz559) ?hiz559 (by kernel_rfl) (by kernel_rfl) (by kernel_rfl) ?hqz559 ?hyz559 hHeld ?restz559
  case hiz559 => simp only [List.getElem?_toArray, List.getElem?_cons_succ, List.getElem?_cons_zero]; exact rfl
  case hqz559 => exact fun _ _ _ h => h
  case hyz559 => refine Or.inl ⟨by rfl, ?_⟩; intro w hSw; have phEa := ent_grew hSw hEa; have qhEa := box2_c0 phEa; have rhEa := box2_c1 phEa; have phEb := ent_grew hSw hEb; have qhEb := box2_c0 phEb; have rhEb := box2_c1 phEb; have phEc := ent_grew hSw hEc; have qhEc := box2_c0 phEc; have rhEc := box2_c1 phEc; go_simp; try with_reducible rfl
  (try simp only [Act.put, List.setIfInBounds_toArray, List.set_cons_zero, List.set_cons_succ])
  refine wpAnyH_ready (rs := [65]) (by kernel_rfl) (by simp) ?_
  refine AllReadyH.cons (o := ?oiz560) ?hiz560 (fun K hK => ?stepz560) AllReadyH.nil
  case hiz560 => simp only [List.getElem?_toArray, List.getElem?_cons_succ, List.getElem?_cons_zero]; exact rfl
  go_simp
  (go_at_call 25; have h0 := hv22; clear h0; refine (zsub (ha.grew hHeld) (ha.grew hHeld) (by omega) (by omega)).mono ?_; rintro e v23 ⟨u23, d23, rfl, hu23, hun23, hv23⟩)
  refine hK.out _ _ ?hSz560 (fun hHeld' => ?restz560)
  case hSz560 => (try dsimp only); (first | exact (Grew.refl _).drew | exact Grew.call hHeld ‹Below _ _ _›)
  clear hK K hHeld
  have hHeld := hHeld'
  clear hHeld'
  (try simp only [Act.put, List.setIfInBounds_toArray, List.set_cons_zero, List.set_cons_succ])
  refine wpAnyH_ready (rs := [66]) (by kernel_rfl) (by simp) ?_
  refine AllReadyH.cons (o := ?oiz561) ?hiz561 (fun K hK => ?stepz561) AllReadyH.nil
  case hiz561 => simp only [List.getElem?_toArray, List.getElem?_cons_succ, List.getElem?_cons_zero]; exact rfl
  go_simp
  (go_at_call 22; refine (zsign_is 0 (sgn_z (Int.sub_self _)) hu23 (by omega)).mono ?_; rintro e v24 ⟨rfl, hv24⟩)
  refine hK.out _ _ ?hSz561 (fun hHeld' => ?restz561)
  case hSz561 => (try dsimp only); (first | exact (Grew.refl _).drew | exact Grew.call hHeld ‹Below _ _ _›)
  clear hK K hHeld
  have hHeld := hHeld'
  clear hHeld'
  (try simp only [Act.put, List.setIfInBounds_toArray, List.set_cons_zero, List.set_cons_succ])
  refine wpAnyH_take (i := 67) (oi := ?oiz562) (v := ?vz562) ?hiz562 (by kernel_rfl) (by kernel_rfl) (by kernel_rfl) ?hqz562 ?hyz562 hHeld ?restz562
  case hiz562 => simp only [List.getElem?_toArray, List.getElem?_cons_succ, List.getElem?_cons_zero]; exact rfl
  case hqz562 => exact fun _ _ _ h => h
  case hyz562 => refine Or.inl ⟨by rfl, ?_⟩; intro w hSw; (try dsimp only at hSw); go_simp; try with_reducible rfl
  (try simp only [Act.put, List.setIfInBounds_toArray, List.set_cons_zero, List.set_cons_succ])
  refine wpAnyH_take (i := 68) (oi := ?oiz563) (v := ?vz563) ?hiz563 (by kernel_rfl) (by kernel_rfl) (by kernel_rfl) ?hqz563 ?hyz563 hHeld ?restz563
  case hiz563 => simp only [List.getElem?_toArray, List.getElem?_cons_succ, List.getElem?_cons_zero]; exact rfl
  case hqz563 => exact fun _ _ _ h => h
  case hyz563 => refine Or.inl ⟨by rfl, ?_⟩; intro w hSw; (try dsimp only at hSw); go_simp; try with_reducible rfl
  (try simp only [Act.put, List.setIfInBounds_toArray, List.set_cons_zero, List.set_cons_succ])
  refine wpAnyH_take (i := 69) (oi := ?oiz564) (v := ?vz564) ?hiz564 (by kernel_rfl) (by kernel_rfl) (by kernel_rfl) ?hqz564 ?hyz564 hHeld ?restz564
  case hiz564 => simp only [List.getElem?_toArray, List.getElem?_cons_succ, List.getElem?_cons_zero]; exact rfl
  case hqz564 => exact fun _ _ _ h => h
  case hyz564 => refine Or.inl ⟨by rfl, ?_⟩; intro w hSw; (try dsimp only at hSw); go_simp; try with_reducible rfl
  (try simp only [Act.put, List.setIfInBounds_toArray, List.set_cons_zero, List.set_cons_succ])
  refine wpAnyH_take (i := 70) (oi := ?oiz565) (v := ?vz565) ?hiz565 (by kernel_rfl) (by kernel_rfl) (by kernel_rfl) ?hqz565 ?hyz565 hHeld ?restz565
  case hiz565 => simp only [List.getElem?_toArray, List.getElem?_cons_succ, List.getElem?_cons_zero]; exact rfl
  case hqz565 => exact fun _ _ _ h => h
  case hyz565 => refine Or.inl ⟨by rfl, ?_⟩; intro w hSw; have phEa := ent_grew hSw hEa; have qhEa := box2_c0 phEa; have rhEa := box2_c1 phEa; have phEb := ent_grew hSw hEb; have qhEb := box2_c0 phEb; have rhEb := box2_c1 phEb; have phEc := ent_grew hSw hEc; have qhEc := box2_c0 phEc; have rhEc := box2_c1 phEc; go_simp; try with_reducible rfl
  (try simp only [Act.put, List.setIfInBounds_toArray, List.set_cons_zero, List.set_cons_succ])
  refine wpAnyH_take (i := 73) (oi := ?oiz566) (v := ?vz566) ?hiz566 (by kernel_rfl) (by kernel_rfl) (by kernel_rfl) ?hqz566 ?hyz566 hHeld ?restz566
  case hiz566 => simp only [List.getElem?_toArray, List.getElem?_cons_succ, List.getElem?_cons_zero]; exact rfl
  case hqz566 => exact fun _ _ _ h => h
  case hyz566 => refine Or.inl ⟨by rfl, ?_⟩; intro w hSw; have phEa := ent_grew hSw hEa; have qhEa := box2_c0 phEa; have rhEa := box2_c1 phEa; have phEb := ent_grew hSw hEb; have qhEb := box2_c0 phEb; have rhEb := box2_c1 phEb; have phEc := ent_grew hSw hEc; have qhEc := box2_c0 phEc; have rhEc := box2_c1 phEc; go_simp; try with_reducible rfl
  (try simp only [Act.put, List.setIfInBounds_toArray, List.set_cons_zero, List.set_cons_succ])
  refine wpAnyH_ready (rs := [71]) (by kernel_rfl) (by simp) ?_
  refine AllReadyH.cons (o := ?oiz567) ?hiz567 (fun K hK => ?stepz567) AllReadyH.nil
  case hiz567 => simp only [List.getElem?_toArray, List.getElem?_cons_succ, List.getElem?_cons_zero]; exact rfl
  go_simp
  (go_at_call 27; have h0 := hv24; clear h0; refine (zneg (ha.grew hHeld) (by omega)).mono ?_; rintro e v25 ⟨u25, d25, rfl, hu25, hun25, hv25⟩)
  refine hK.out _ _ ?hSz567 (fun hHeld' => ?restz567)
  case hSz567 => (try dsimp only); (first | exact (Grew.refl _).drew | exact Grew.call hHeld ‹Below _ _ _›)
  clear hK K hHeld
  have hHeld := hHeld'
  clear hHeld'
  (try simp only [Act.put, List.setIfInBounds_toArray, List.set_cons_zero, List.set_cons_succ])
  refine wpAnyH_ready (rs := [72]) (by kernel_rfl) (by simp) ?_
  refine AllReadyH.cons (o := ?oiz568) ?hiz568 (fun K hK => ?stepz568) AllReadyH.nil
  case hiz568 => simp only [List.getElem?_toArray, List.getElem?_cons_succ, List.getElem?_cons_zero]; exact rfl
  go_simp
  (go_at_call 27; have h0 := hv25; clear h0; refine (zneg hu25 (by omega)).mono ?_; rintro e v26 ⟨u26, d26, rfl, hu26, hun26, hv26⟩)
  refine hK.out _ _ ?hSz568 (fun hHeld' => ?restz568)
  case hSz568 => (try dsimp only); (first | exact (Grew.refl _).drew | exact Grew.call hHeld ‹Below _ _ _›)
  clear hK K hHeld
  have hHeld := hHeld'
  clear hHeld'
  (try simp only [Act.put, List.setIfInBounds_toArray, List.set_cons_zero, List.set_cons_succ])
  refine wpAnyH_ready (rs := [74]) (by kernel_rfl) (by simp) ?_
  refine AllReadyH.cons (o := ?oiz569) ?hiz569 (fun K hK => ?stepz569) AllReadyH.nil
  case hiz569 => simp only [List.getElem?_toArray, List.getElem?_cons_succ, List.getElem?_cons_zero]; exact rfl
  go_simp
  (go_at_call 29; refine (zcmp_is 0 (cmpZ_eq (Int.neg_neg _)) hu26 (ha.grew hHeld) (by omega) (by omega)).mono ?_; rintro e v27 ⟨rfl, hv27⟩)
  refine hK.out _ _ ?hSz569 (fun hHeld' => ?restz569)
  case hSz569 => (try dsimp only); (first | exact (Grew.refl _).drew | exact Grew.call hHeld ‹Below _ _ _›)
  clear hK K hHeld
  have hHeld := hHeld'
  clear hHeld'
  (try simp only [Act.put, List.setIfInBounds_toArray, List.set_cons_zero, List.set_cons_succ])
  refine wpAnyH_take (i := 75) (oi := ?oiz570) (v := ?vz570) ?hiz570 (by kernel_rfl) (by kernel_rfl) (by kernel_rfl) ?hqz570 ?hyz570 hHeld ?restz570
  case hiz570 => simp only [List.getElem?_toArray, List.getElem?_cons_succ, List.getElem?_cons_zero]; exact rfl
  case hqz570 => exact fun _ _ _ h => h
  case hyz570 => refine Or.inl ⟨by rfl, ?_⟩; intro w hSw; (try dsimp only at hSw); go_simp; try with_reducible rfl
  (try simp only [Act.put, List.setIfInBounds_toArray, List.set_cons_zero, List.set_cons_succ])
  refine wpAnyH_take (i := 76) (oi := ?oiz571) (v := ?vz571) ?hiz571 (by kernel_rfl) (by kernel_rfl) (by kernel_rfl) ?hqz571 ?hyz571 hHeld ?restz571
  case hiz571 => simp only [List.getElem?_toArray, List.getElem?_cons_succ, List.getElem?_cons_zero]; exact rfl
  case hqz571 => exact fun _ _ _ h => h
  case hyz571 => refine Or.inl ⟨by rfl, ?_⟩; intro w hSw; (try dsimp only at hSw); go_simp; try with_reducible rfl
  (try simp only [Act.put, List.setIfInBounds_toArray, List.set_cons_zero, List.set_cons_succ])
  refine wpAnyH_done (by kernel_rfl) ?_ _
  have hgr : Grew w4 v27 := hHeld
  clear hHeld
  replace hEa := ent_grew hgr hEa
  replace hEb := ent_grew hgr hEb
  replace hEc := ent_grew hgr hEc
  replace ha := ha.grew hgr
  replace hbz := hbz.grew hgr
  replace hc := hc.grew hgr
  replace hB := hB.trans hgr
  clear hgr
  have chEaa := box2_c0 hEa
  have chEab := box2_c1 hEa
  have chEba := box2_c0 hEb
  have chEbb := box2_c1 hEb
  have chEca := box2_c0 hEc
  have chEcb := box2_c1 hEc
  go_upto_region 8 with fail
  clear chEaa chEab chEba chEbb chEca chEcb
  refine wp_region_held_drew (S := (fun w' => Grew v27 w')) (by kernel_rfl) ?hSz572 (fun hHeld => ?restz572)
  case hSz572 => (try dsimp only); (first | exact (Grew.refl _).drew | exact Grew.call hHeld ‹Below _ _ _›)
  refine wpAnyH_take (i := 0) (oi := ?oiz573) (v := ?vz573) ?hiz573 (by kernel_rfl) (by kernel_rfl) (by kernel_rfl) ?hqz573 ?hyz573 hHeld ?restz573
  case hiz573 => simp only [List.getElem?_toArray, List.getElem?_cons_zero]; exact rfl
  case hqz573 => exact fun _ _ _ h => h
  case hyz573 => refine Or.inl ⟨by rfl, ?_⟩; intro w hSw; have phEa := ent_grew hSw hEa; have qhEa := box2_c0 phEa; have rhEa := box2_c1 phEa; have phEb := ent_grew hSw hEb; have qhEb := box2_c0 phEb; have rhEb := box2_c1 phEb; have phEc := ent_grew hSw hEc; have qhEc := box2_c0 phEc; have rhEc := box2_c1 phEc; go_simp; try with_reducible rfl
  (try simp only [Act.put, List.setIfInBounds_toArray, List.set_cons_zero, List.set_cons_succ])
  refine wpAnyH_take (i := 1) (oi := ?oiz574) (v := ?vz574) ?hiz574 (by kernel_rfl) (by kernel_rfl) (by kernel_rfl) ?hqz574 ?hyz574 hHeld ?restz574
  case hiz574 => simp only [List.getElem?_toArray, List.getElem?_cons_succ, List.getElem?_cons_zero]; exact rfl
  case hqz574 => exact fun _ _ _ h => h
  case hyz574 => refine Or.inl ⟨by rfl, ?_⟩; intro w hSw; have phEa := ent_grew hSw hEa; have qhEa := box2_c0 phEa; have rhEa := box2_c1 phEa; have phEb := ent_grew hSw hEb; have qhEb := box2_c0 phEb; have rhEb := box2_c1 phEb; have phEc := ent_grew hSw hEc; have qhEc := box2_c0 phEc; have rhEc := box2_c1 phEc; go_simp; try with_reducible rfl
  (try simp only [Act.put, List.setIfInBounds_toArray, List.set_cons_zero, List.set_cons_succ])
  refine wpAnyH_take (i := 3) (oi := ?oiz575) (v := ?vz575) ?hiz575 (by kernel_rfl) (by kernel_rfl) (by kernel_rfl) ?hqz575 ?hyz575 hHeld ?restz575
  case hiz575 => simp only [List.getElem?_toArray, List.getElem?_cons_succ, List.getElem?_cons_zero]; exact rfl
  case hqz575 => exact fun _ _ _ h => h
  case hyz575 => refine Or.inl ⟨by rfl, ?_⟩; intro w hSw; have phEa := ent_grew hSw hEa; have qhEa := box2_c0 phEa; have rhEa := box2_c1 phEa; have phEb := ent_grew hSw hEb; have qhEb := box2_c0 phEb; have rhEb := box2_c1 phEb; have phEc := ent_grew hSw hEc; have qhEc := box2_c0 phEc; have rhEc := box2_c1 phEc; go_simp; try with_reducible rfl
  (try simp only [Act.put, List.setIfInBounds_toArray, List.set_cons_zero, List.set_cons_succ])
  refine wpAnyH_take (i := 4) (oi := ?oiz576) (v := ?vz576) ?hiz576 (by kernel_rfl) (by kernel_rfl) (by kernel_rfl) ?hqz576 ?hyz576 hHeld ?restz576
  case hiz576 => simp only [List.getElem?_toArray, List.getElem?_cons_succ, List.getElem?_cons_zero]; exact rfl
  case hqz576 => exact fun _ _ _ h => h
  case hyz576 => refine Or.inl ⟨by rfl, ?_⟩; intro w hSw; have phEa := ent_grew hSw hEa; have qhEa := box2_c0 phEa; have rhEa := box2_c1 phEa; have phEb := ent_grew hSw hEb; have qhEb := box2_c0 phEb; have rhEb := box2_c1 phEb; have phEc := ent_grew hSw hEc; have qhEc := box2_c0 phEc; have rhEc := box2_c1 phEc; go_simp; try with_reducible rfl
  (try simp only [Act.put, List.setIfInBounds_toArray, List.set_cons_zero, List.set_cons_succ])
  refine wpAnyH_take (i := 7) (oi := ?oiz577) (v := ?vz577) ?hiz577 (by kernel_rfl) (by kernel_rfl) (by kernel_rfl) ?hqz577 ?hyz577 hHeld ?restz577
  case hiz577 => simp only [List.getElem?_toArray, List.getElem?_cons_succ, List.getElem?_cons_zero]; exact rfl
  case hqz577 => exact fun _ _ _ h => h
  case hyz577 => refine Or.inl ⟨by rfl, ?_⟩; intro w hSw; have phEa := ent_grew hSw hEa; have qhEa := box2_c0 phEa; have rhEa := box2_c1 phEa; have phEb := ent_grew hSw hEb; have qhEb := box2_c0 phEb; have rhEb := box2_c1 phEb; have phEc := ent_grew hSw hEc; have qhEc := box2_c0 phEc; have rhEc := box2_c1 phEc; go_simp; try with_reducible rfl
  (try simp only [Act.put, List.setIfInBounds_toArray, List.set_cons_zero, List.set_cons_succ])
  refine wpAnyH_take (i := 8) (oi := ?oiz578) (v := ?vz578) ?hiz578 (by kernel_rfl) (by kernel_rfl) (by kernel_rfl) ?hqz578 ?hyz578 hHeld ?restz578
  case hiz578 => simp only [List.getElem?_toArray, List.getElem?_cons_succ, List.getElem?_cons_zero]; exact rfl
  case hqz578 => exact fun _ _ _ h => h
  case hyz578 => refine Or.inl ⟨by rfl, ?_⟩; intro w hSw; have phEa := ent_grew hSw hEa; have qhEa := box2_c0 phEa; have rhEa := box2_c1 phEa; have phEb := ent_grew hSw hEb; have qhEb := box2_c0 phEb; have rhEb := box2_c1 phEb; have phEc := ent_grew hSw hEc; have qhEc := box2_c0 phEc; have rhEc := box2_c1 phEc; go_simp; try with_reducible rfl
  (try simp only [Act.put, List.setIfInBounds_toArray, List.set_cons_zero, List.set_cons_succ])
  refine wpAnyH_ready (rs := [2]) (by kernel_rfl) (by simp) ?_
  refine AllReadyH.cons (o := ?oiz579) ?hiz579 (fun K hK => ?stepz579) AllReadyH.nil
  case hiz579 => simp only [List.getElem?_toArray, List.getElem?_cons_succ, List.getElem?_cons_zero]; exact rfl
  go_simp
  (go_at_call 24; have h0 := hv27; clear h0; refine (zadd (ha.grew hHeld) (hc.grew hHeld) (by omega) (by omega)).mono ?_; rintro e v28 ⟨u28, d28, rfl, hu28, hun28, hv28⟩)
  refine hK.out _ _ ?hSz579 (fun hHeld' => ?restz579)
  case hSz579 => (try dsimp only); (first | exact (Grew.refl _).drew | exact Grew.call hHeld ‹Below _ _ _›)
  clear hK K hHeld
  have hHeld := hHeld'
  clear hHeld'
  (try simp only [Act.put, List.setIfInBounds_toArray, List.set_cons_zero, List.set_cons_succ])
  refine wpAnyH_ready (rs := [5]) (by kernel_rfl) (by simp) ?_
  refine AllReadyH.cons (o := ?oiz580) ?hiz580 (fun K hK => ?stepz580) AllReadyH.nil
  case hiz580 => simp only [List.getElem?_toArray, List.getElem?_cons_succ, List.getElem?_cons_zero]; exact rfl
  go_simp
  (go_at_call 24; have h0 := hv28; clear h0; refine (zadd (hbz.grew hHeld) (hc.grew hHeld) (by omega) (by omega)).mono ?_; rintro e v29 ⟨u29, d29, rfl, hu29, hun29, hv29⟩)
  refine hK.out _ _ ?hSz580 (fun hHeld' => ?restz580)
  case hSz580 => (try dsimp only); (first | exact (Grew.refl _).drew | exact Grew.call hHeld ‹Below _ _ _›)
  clear hK K hHeld
  have hHeld := hHeld'
  clear hHeld'
  (try simp only [Act.put, List.setIfInBounds_toArray, List.set_cons_zero, List.set_cons_succ])
  refine wpAnyH_ready (rs := [6]) (by kernel_rfl) (by simp) ?_
  refine AllReadyH.cons (o := ?oiz581) ?hiz581 (fun K hK => ?stepz581) AllReadyH.nil
  case hiz581 => simp only [List.getElem?_toArray, List.getElem?_cons_succ, List.getElem?_cons_zero]; exact rfl
  go_simp
  (go_at_call 29; refine (zcmp_is k ((cmpZ_add _ _ _).trans HK.out) (hu28.up hv29) hu29 (by omega) (by omega)).mono ?_; rintro e v30 ⟨rfl, hv30⟩)
  refine hK.out _ _ ?hSz581 (fun hHeld' => ?restz581)
  case hSz581 => (try dsimp only); (first | exact (Grew.refl _).drew | exact Grew.call hHeld ‹Below _ _ _›)
  clear hK K hHeld
  have hHeld := hHeld'
  clear hHeld'
  (try simp only [Act.put, List.setIfInBounds_toArray, List.set_cons_zero, List.set_cons_succ])
  refine wpAnyH_ready (rs := [9]) (by kernel_rfl) (by simp) ?_
  refine AllReadyH.cons (o := ?oiz582) ?hiz582 (fun K hK => ?stepz582) AllReadyH.nil
  case hiz582 => simp only [List.getElem?_toArray, List.getElem?_cons_succ, List.getElem?_cons_zero]; exact rfl
  go_simp
  (go_at_call 29; refine (zcmp_is k (HK.out) (ha.grew hHeld) (hbz.grew hHeld) (by omega) (by omega)).mono ?_; rintro e v31 ⟨rfl, hv31⟩)
  refine hK.out _ _ ?hSz582 (fun hHeld' => ?restz582)
  case hSz582 => (try dsimp only); (first | exact (Grew.refl _).drew | exact Grew.call hHeld ‹Below _ _ _›)
  clear hK K hHeld
  have hHeld := hHeld'
  clear hHeld'
  (try simp only [Act.put, List.setIfInBounds_toArray, List.set_cons_zero, List.set_cons_succ])
  refine wpAnyH_take (i := 10) (oi := ?oiz583) (v := ?vz583) ?hiz583 (by kernel_rfl) (by kernel_rfl) (by kernel_rfl) ?hqz583 ?hyz583 hHeld ?restz583
  case hiz583 => simp only [List.getElem?_toArray, List.getElem?_cons_succ, List.getElem?_cons_zero]; exact rfl
  case hqz583 => exact fun _ _ _ h => h
  case hyz583 => refine Or.inl ⟨by rfl, ?_⟩; intro w hSw; (try dsimp only at hSw); go_simp; try with_reducible rfl
  (try simp only [Act.put, List.setIfInBounds_toArray, List.set_cons_zero, List.set_cons_succ])
  refine wpAnyH_take (i := 11) (oi := ?oiz584) (v := ?vz584) ?hiz584 (by kernel_rfl) (by kernel_rfl) (by kernel_rfl) ?hqz584 ?hyz584 hHeld ?restz584
  case hiz584 => simp only [List.getElem?_toArray, List.getElem?_cons_succ, List.getElem?_cons_zero]; exact rfl
  case hqz584 => exact fun _ _ _ h => h
  case hyz584 => refine Or.inl ⟨by rfl, ?_⟩; intro w hSw; (try dsimp only at hSw); go_simp; try with_reducible rfl
  (try simp only [Act.put, List.setIfInBounds_toArray, List.set_cons_zero, List.set_cons_succ])
  refine wpAnyH_take (i := 12) (oi := ?oiz585) (v := ?vz585) ?hiz585 (by kernel_rfl) (by kernel_rfl) (by kernel_rfl) ?hqz585 ?hyz585 hHeld ?restz585
  case hiz585 => simp only [List.getElem?_toArray, List.getElem?_cons_succ, List.getElem?_cons_zero]; exact rfl
  case hqz585 => exact fun _ _ _ h => h
  case hyz585 => refine Or.inl ⟨by rfl, ?_⟩; intro w hSw; have phEa := ent_grew hSw hEa; have qhEa := box2_c0 phEa; have rhEa := box2_c1 phEa; have phEb := ent_grew hSw hEb; have qhEb := box2_c0 phEb; have rhEb := box2_c1 phEb; have phEc := ent_grew hSw hEc; have qhEc := box2_c0 phEc; have rhEc := box2_c1 phEc; go_simp; try with_reducible rfl
  (try simp only [Act.put, List.setIfInBounds_toArray, List.set_cons_zero, List.set_cons_succ])
  refine wpAnyH_take (i := 13) (oi := ?oiz586) (v := ?vz586) ?hiz586 (by kernel_rfl) (by kernel_rfl) (by kernel_rfl) ?hqz586 ?hyz586 hHeld ?restz586
  case hiz586 => simp only [List.getElem?_toArray, List.getElem?_cons_succ, List.getElem?_cons_zero]; exact rfl
  case hqz586 => exact fun _ _ _ h => h
  case hyz586 => refine Or.inl ⟨by rfl, ?_⟩; intro w hSw; have phEa := ent_grew hSw hEa; have qhEa := box2_c0 phEa; have rhEa := box2_c1 phEa; have phEb := ent_grew hSw hEb; have qhEb := box2_c0 phEb; have rhEb := box2_c1 phEb; have phEc := ent_grew hSw hEc; have qhEc := box2_c0 phEc; have rhEc := box2_c1 phEc; go_simp; try with_reducible rfl
  (try simp only [Act.put, List.setIfInBounds_toArray, List.set_cons_zero, List.set_cons_succ])
  refine wpAnyH_take (i := 15) (oi := ?oiz587) (v := ?vz587) ?hiz587 (by kernel_rfl) (by kernel_rfl) (by kernel_rfl) ?hqz587 ?hyz587 hHeld ?restz587
  case hiz587 => simp only [List.getElem?_toArray, List.getElem?_cons_succ, List.getElem?_cons_zero]; exact rfl
  case hqz587 => exact fun _ _ _ h => h
  case hyz587 => refine Or.inl ⟨by rfl, ?_⟩; intro w hSw; have phEa := ent_grew hSw hEa; have qhEa := box2_c0 phEa; have rhEa := box2_c1 phEa; have phEb := ent_grew hSw hEb; have qhEb := box2_c0 phEb; have rhEb := box2_c1 phEb; have phEc := ent_grew hSw hEc; have qhEc := box2_c0 phEc; have rhEc := box2_c1 phEc; go_simp; try with_reducible rfl
  (try simp only [Act.put, List.setIfInBounds_toArray, List.set_cons_zero, List.set_cons_succ])
  refine wpAnyH_take (i := 16) (oi := ?oiz588) (v := ?vz588) ?hiz588 (by kernel_rfl) (by kernel_rfl) (by kernel_rfl) ?hqz588 ?hyz588 hHeld ?restz588
  case hiz588 => simp only [List.getElem?_toArray, List.getElem?_cons_succ, List.getElem?_cons_zero]; exact rfl
  case hqz588 => exact fun _ _ _ h => h
  case hyz588 => refine Or.inl ⟨by rfl, ?_⟩; intro w hSw; have phEa := ent_grew hSw hEa; have qhEa := box2_c0 phEa; have rhEa := box2_c1 phEa; have phEb := ent_grew hSw hEb; have qhEb := box2_c0 phEb; have rhEb := box2_c1 phEb; have phEc := ent_grew hSw hEc; have qhEc := box2_c0 phEc; have rhEc := box2_c1 phEc; go_simp; try with_reducible rfl
  (try simp only [Act.put, List.setIfInBounds_toArray, List.set_cons_zero, List.set_cons_succ])
  refine wpAnyH_take (i := 19) (oi := ?oiz589) (v := ?vz589) ?hiz589 (by kernel_rfl) (by kernel_rfl) (by kernel_rfl) ?hqz589 ?hyz589 hHeld ?restz589
  case hiz589 => simp only [List.getElem?_toArray, List.getElem?_cons_succ, List.getElem?_cons_zero]; exact rfl
  case hqz589 => exact fun _ _ _ h => h
  case hyz589 => refine Or.inl ⟨by rfl, ?_⟩; intro w hSw; have phEa := ent_grew hSw hEa; have qhEa := box2_c0 phEa; have rhEa := box2_c1 phEa; have phEb := ent_grew hSw hEb; have qhEb := box2_c0 phEb; have rhEb := box2_c1 phEb; have phEc := ent_grew hSw hEc; have qhEc := box2_c0 phEc; have rhEc := box2_c1 phEc; go_simp; try with_reducible rfl
  (try simp only [Act.put, List.setIfInBounds_toArray, List.set_cons_zero, List.set_cons_succ])
  refine wpAnyH_take (i := 20) (oi := ?oiz590) (v := ?vz590) ?hiz590 (by kernel_rfl) (by kernel_rfl) (by kernel_rfl) ?hqz590 ?hyz590 hHeld ?restz590
  case hiz590 => simp only [List.getElem?_toArray, List.getElem?_cons_succ, List.getElem?_cons_zero]; exact rfl
  case hqz590 => exact fun _ _ _ h => h
  case hyz590 => refine Or.inl ⟨by rfl, ?_⟩; intro w hSw; have phEa := ent_grew hSw hEa; have qhEa := box2_c0 phEa; have rhEa := box2_c1 phEa; have phEb := ent_grew hSw hEb; have qhEb := box2_c0 phEb; have rhEb := box2_c1 phEb; have phEc := ent_grew hSw hEc; have qhEc := box2_c0 phEc; have rhEc := box2_c1 phEc; go_simp; try with_reducible rfl
  (try simp only [Act.put, List.setIfInBounds_toArray, List.set_cons_zero, List.set_cons_succ])
  refine wpAnyH_take (i := 22) (oi := ?oiz591) (v := ?vz591) ?hiz591 (by kernel_rfl) (by kernel_rfl) (by kernel_rfl) ?hqz591 ?hyz591 hHeld ?restz591
  case hiz591 => simp only [List.getElem?_toArray, List.getElem?_cons_succ, List.getElem?_cons_zero]; exact rfl
  case hqz591 => exact fun _ _ _ h => h
  case hyz591 => refine Or.inl ⟨by rfl, ?_⟩; intro w hSw; have phEa := ent_grew hSw hEa; have qhEa := box2_c0 phEa; have rhEa := box2_c1 phEa; have phEb := ent_grew hSw hEb; have qhEb := box2_c0 phEb; have rhEb := box2_c1 phEb; have phEc := ent_grew hSw hEc; have qhEc := box2_c0 phEc; have rhEc := box2_c1 phEc; go_simp; try with_reducible rfl
  (try simp only [Act.put, List.setIfInBounds_toArray, List.set_cons_zero, List.set_cons_succ])
  refine wpAnyH_ready (rs := [14]) (by kernel_rfl) (by simp) ?_
  refine AllReadyH.cons (o := ?oiz592) ?hiz592 (fun K hK => ?stepz592) AllReadyH.nil
  case hiz592 => simp only [List.getElem?_toArray, List.getElem?_cons_succ, List.getElem?_cons_zero]; exact rfl
  go_simp
  (go_at_call 31; have h0 := hv31; clear h0; refine (zmul (ha.grew hHeld) (hc.grew hHeld) (by omega) (by omega)).mono ?_; rintro e v32 ⟨u32, d32, rfl, hu32, hun32, hv32⟩)
  refine hK.out _ _ ?hSz592 (fun hHeld' => ?restz592)
  case hSz592 => (try dsimp only); (first | exact (Grew.refl _).drew | exact Grew.call hHeld ‹Below _ _ _›)
  clear hK K hHeld
  have hHeld := hHeld'
  clear hHeld'
  (try simp only [Act.put, List.setIfInBounds_toArray, List.set_cons_zero, List.set_cons_succ])
  refine wpAnyH_ready (rs := [17]) (by kernel_rfl) (by simp) ?_
  refine AllReadyH.cons (o := ?oiz593) ?hiz593 (fun K hK => ?stepz593) AllReadyH.nil
  case hiz593 => simp only [List.getElem?_toArray, List.getElem?_cons_succ, List.getElem?_cons_zero]; exact rfl
  go_simp
  (go_at_call 31; have h0 := hv32; clear h0; refine (zmul (hbz.grew hHeld) (hc.grew hHeld) (by omega) (by omega)).mono ?_; rintro e v33 ⟨u33, d33, rfl, hu33, hun33, hv33⟩)
  refine hK.out _ _ ?hSz593 (fun hHeld' => ?restz593)
  case hSz593 => (try dsimp only); (first | exact (Grew.refl _).drew | exact Grew.call hHeld ‹Below _ _ _›)
  clear hK K hHeld
  have hHeld := hHeld'
  clear hHeld'
  (try simp only [Act.put, List.setIfInBounds_toArray, List.set_cons_zero, List.set_cons_succ])
  refine wpAnyH_ready (rs := [18]) (by kernel_rfl) (by simp) ?_
  refine AllReadyH.cons (o := ?oiz594) ?hiz594 (fun K hK => ?stepz594) AllReadyH.nil
  case hiz594 => simp only [List.getElem?_toArray, List.getElem?_cons_succ, List.getElem?_cons_zero]; exact rfl
  go_simp
  (go_at_call 29; refine (zcmp_is r (HR.out) (hu32.up hv33) hu33 (by omega) (by omega)).mono ?_; rintro e v34 ⟨rfl, hv34⟩)
  refine hK.out _ _ ?hSz594 (fun hHeld' => ?restz594)
  case hSz594 => (try dsimp only); (first | exact (Grew.refl _).drew | exact Grew.call hHeld ‹Below _ _ _›)
  clear hK K hHeld
  have hHeld := hHeld'
  clear hHeld'
  (try simp only [Act.put, List.setIfInBounds_toArray, List.set_cons_zero, List.set_cons_succ])
  refine wpAnyH_ready (rs := [21]) (by kernel_rfl) (by simp) ?_
  refine AllReadyH.cons (o := ?oiz595) ?hiz595 (fun K hK => ?stepz595) AllReadyH.nil
  case hiz595 => simp only [List.getElem?_toArray, List.getElem?_cons_succ, List.getElem?_cons_zero]; exact rfl
  go_simp
  (go_at_call 29; refine (zcmp_is k (HK.out) (ha.grew hHeld) (hbz.grew hHeld) (by omega) (by omega)).mono ?_; rintro e v35 ⟨rfl, hv35⟩)
  refine hK.out _ _ ?hSz595 (fun hHeld' => ?restz595)
  case hSz595 => (try dsimp only); (first | exact (Grew.refl _).drew | exact Grew.call hHeld ‹Below _ _ _›)
  clear hK K hHeld
  have hHeld := hHeld'
  clear hHeld'
  (try simp only [Act.put, List.setIfInBounds_toArray, List.set_cons_zero, List.set_cons_succ])
  refine wpAnyH_ready (rs := [23]) (by kernel_rfl) (by simp) ?_
  refine AllReadyH.cons (o := ?oiz596) ?hiz596 (fun K hK => ?stepz596) AllReadyH.nil
  case hiz596 => simp only [List.getElem?_toArray, List.getElem?_cons_succ, List.getElem?_cons_zero]; exact rfl
  go_simp
  (go_at_call 22; refine (zsign_is g (HG.out) (hc.grew hHeld) (by omega)).mono ?_; rintro e v36 ⟨rfl, hv36⟩)
  refine hK.out _ _ ?hSz596 (fun hHeld' => ?restz596)
  case hSz596 => (try dsimp only); (first | exact (Grew.refl _).drew | exact Grew.call hHeld ‹Below _ _ _›)
  clear hK K hHeld
  have hHeld := hHeld'
  clear hHeld'
  (try simp only [Act.put, List.setIfInBounds_toArray, List.set_cons_zero, List.set_cons_succ])
  refine wpAnyH_take (i := 24) (oi := ?oiz597) (v := ?vz597) ?hiz597 (by kernel_rfl) (by kernel_rfl) (by kernel_rfl) ?hqz597 ?hyz597 hHeld ?restz597
  case hiz597 => simp only [List.getElem?_toArray, List.getElem?_cons_succ, List.getElem?_cons_zero]; exact rfl
  case hqz597 => exact fun _ _ _ h => h
  case hyz597 => refine Or.inl ⟨by rfl, ?_⟩; intro w hSw; (try dsimp only at hSw); go_simp; try with_reducible rfl
  (try simp only [Act.put, List.setIfInBounds_toArray, List.set_cons_zero, List.set_cons_succ])
  refine wpAnyH_take (i := 25) (oi := ?oiz598) (v := ?vz598) ?hiz598 (by kernel_rfl) (by kernel_rfl) (by kernel_rfl) ?hqz598 ?hyz598 hHeld ?restz598
  case hiz598 => simp only [List.getElem?_toArray, List.getElem?_cons_succ, List.getElem?_cons_zero]; exact rfl
  case hqz598 => exact fun _ _ _ h => h
  case hyz598 => refine Or.inl ⟨by rfl, ?_⟩; intro w hSw; (try dsimp only at hSw); go_simp; try with_reducible rfl
  (try simp only [Act.put, List.setIfInBounds_toArray, List.set_cons_zero, List.set_cons_succ])
  refine wpAnyH_take (i := 26) (oi := ?oiz599) (v := ?vz599) ?hiz599 (by kernel_rfl) (by kernel_rfl) (by kernel_rfl) ?hqz599 ?hyz599 hHeld ?restz599
  case hiz599 => simp only [List.getElem?_toArray, List.getElem?_cons_succ, List.getElem?_cons_zero]; exact rfl
  case hqz599 => exact fun _ _ _ h => h
  case hyz599 => refine Or.inl ⟨by rfl, ?_⟩; intro w hSw; (try dsimp only at hSw); go_simp; try with_reducible rfl
  (try simp only [Act.put, List.setIfInBounds_toArray, List.set_cons_zero, List.set_cons_succ])
  refine wpAnyH_take (i := 27) (oi := ?oiz600) (v := ?vz600) ?hiz600 (by kernel_rfl) (by kernel_rfl) (by kernel_rfl) ?hqz600 ?hyz600 hHeld ?restz600
  case hiz600 => simp only [List.getElem?_toArray, List.getElem?_cons_succ, List.getElem?_cons_zero]; exact rfl
  case hqz600 => exact fun _ _ _ h => h
  case hyz600 => refine Or.inl ⟨by rfl, ?_⟩; intro w hSw; (try dsimp only at hSw); go_simp; try with_reducible rfl
  (try simp only [Act.put, List.setIfInBounds_toArray, List.set_cons_zero, List.set_cons_succ])
  refine wpAnyH_take (i := 28) (oi := ?oiz601) (v := ?vz601) ?hiz601 (by kernel_rfl) (by kernel_rfl) (by kernel_rfl) ?hqz601 ?hyz601 hHeld ?restz601
  case hiz601 => simp only [List.getElem?_toArray, List.getElem?_cons_succ, List.getElem?_cons_zero]; exact rfl
  case hqz601 => exact fun _ _ _ h => h
  case hyz601 => refine Or.inl ⟨by rfl, ?_⟩; intro w hSw; have phEa := ent_grew hSw hEa; have qhEa := box2_c0 phEa; have rhEa := box2_c1 phEa; have phEb := ent_grew hSw hEb; have qhEb := box2_c0 phEb; have rhEb := box2_c1 phEb; have phEc := ent_grew hSw hEc; have qhEc := box2_c0 phEc; have rhEc := box2_c1 phEc; go_simp; try with_reducible rfl
  (try simp only [Act.put, List.setIfInBounds_toArray, List.set_cons_zero, List.set_cons_succ])
  refine wpAnyH_take (i := 29) (oi := ?oiz602) (v := ?vz602) ?hiz602 (by kernel_rfl) (by kernel_rfl) (by kernel_rfl) ?hqz602 ?hyz602 hHeld ?restz602
  case hiz602 => simp only [List.getElem?_toArray, List.getElem?_cons_succ, List.getElem?_cons_zero]; exact rfl
  case hqz602 => exact fun _ _ _ h => h
  case hyz602 => refine Or.inl ⟨by rfl, ?_⟩; intro w hSw; have phEa := ent_grew hSw hEa; have qhEa := box2_c0 phEa; have rhEa := box2_c1 phEa; have phEb := ent_grew hSw hEb; have qhEb := box2_c0 phEb; have rhEb := box2_c1 phEb; have phEc := ent_grew hSw hEc; have qhEc := box2_c0 phEc; have rhEc := box2_c1 phEc; go_simp; try with_reducible rfl
  (try simp only [Act.put, List.setIfInBounds_toArray, List.set_cons_zero, List.set_cons_succ])
  refine wpAnyH_take (i := 31) (oi := ?oiz603) (v := ?vz603) ?hiz603 (by kernel_rfl) (by kernel_rfl) (by kernel_rfl) ?hqz603 ?hyz603 hHeld ?restz603
  case hiz603 => simp only [List.getElem?_toArray, List.getElem?_cons_succ, List.getElem?_cons_zero]; exact rfl
  case hqz603 => exact fun _ _ _ h => h
  case hyz603 => refine Or.inl ⟨by rfl, ?_⟩; intro w hSw; have phEa := ent_grew hSw hEa; have qhEa := box2_c0 phEa; have rhEa := box2_c1 phEa; have phEb := ent_grew hSw hEb; have qhEb := box2_c0 phEb; have rhEb := box2_c1 phEb; have phEc := ent_grew hSw hEc; have qhEc := box2_c0 phEc; have rhEc := box2_c1 phEc; go_simp; try with_reducible rfl
  (try simp only [Act.put, List.setIfInBounds_toArray, List.set_cons_zero, List.set_cons_succ])
  refine wpAnyH_take (i := 32) (oi := ?oiz604) (v := ?vz604) ?hiz604 (by kernel_rfl) (by kernel_rfl) (by kernel_rfl) ?hqz604 ?hyz604 hHeld ?restz604
  case hiz604 => simp only [List.getElem?_toArray, List.getElem?_cons_succ, List.getElem?_cons_zero]; exact rfl
  case hqz604 => exact fun _ _ _ h => h
  case hyz604 => refine Or.inl ⟨by rfl, ?_⟩; intro w hSw; have phEa := ent_grew hSw hEa; have qhEa := box2_c0 phEa; have rhEa := box2_c1 phEa; have phEb := ent_grew hSw hEb; have qhEb := box2_c0 phEb; have rhEb := box2_c1 phEb; have phEc := ent_grew hSw hEc; have qhEc := box2_c0 phEc; have rhEc := box2_c1 phEc; go_simp; try with_reducible rfl
  (try simp only [Act.put, List.setIfInBounds_toArray, List.set_cons_zero, List.set_cons_succ])
  refine wpAnyH_ready (rs := [30]) (by kernel_rfl) (by simp) ?_
  refine AllReadyH.cons (o := ?oiz605) ?hiz605 (fun K hK => ?stepz605) AllReadyH.nil
  case hiz605 => simp only [List.getElem?_toArray, List.getElem?_cons_succ, List.getElem?_cons_zero]; exact rfl
  go_simp
  (go_at_call 29; refine (zcmp_is k (HK.out) (ha.grew hHeld) (hbz.grew hHeld) (by omega) (by omega)).mono ?_; rintro e v37 ⟨rfl, hv37⟩)
  refine hK.out _ _ ?hSz605 (fun hHeld' => ?restz605)
  case hSz605 => (try dsimp only); (first | exact (Grew.refl _).drew | exact Grew.call hHeld ‹Below _ _ _›)
  clear hK K hHeld
  have hHeld := hHeld'
  clear hHeld'
  (try simp only [Act.put, List.setIfInBounds_toArray, List.set_cons_zero, List.set_cons_succ])
  refine wpAnyH_ready (rs := [33]) (by kernel_rfl) (by simp) ?_
  refine AllReadyH.cons (o := ?oiz606) ?hiz606 (fun K hK => ?stepz606) AllReadyH.nil
  case hiz606 => simp only [List.getElem?_toArray, List.getElem?_cons_succ, List.getElem?_cons_zero]; exact rfl
  go_simp
  (go_at_call 25; have h0 := hv37; clear h0; refine (zsub (ha.grew hHeld) (hbz.grew hHeld) (by omega) (by omega)).mono ?_; rintro e v38 ⟨u38, d38, rfl, hu38, hun38, hv38⟩)
  refine hK.out _ _ ?hSz606 (fun hHeld' => ?restz606)
  case hSz606 => (try dsimp only); (first | exact (Grew.refl _).drew | exact Grew.call hHeld ‹Below _ _ _›)
  clear hK K hHeld
  have hHeld := hHeld'
  clear hHeld'
  (try simp only [Act.put, List.setIfInBounds_toArray, List.set_cons_zero, List.set_cons_succ])
  refine wpAnyH_ready (rs := [34]) (by kernel_rfl) (by simp) ?_
  refine AllReadyH.cons (o := ?oiz607) ?hiz607 (fun K hK => ?stepz607) AllReadyH.nil
  case hiz607 => simp only [List.getElem?_toArray, List.getElem?_cons_succ, List.getElem?_cons_zero]; exact rfl
  go_simp
  (go_at_call 22; refine (zsign_is k ((cmpZ_sub _ _).trans HK.out) hu38 (by omega)).mono ?_; rintro e v39 ⟨rfl, hv39⟩)
  refine hK.out _ _ ?hSz607 (fun hHeld' => ?restz607)
  case hSz607 => (try dsimp only); (first | exact (Grew.refl _).drew | exact Grew.call hHeld ‹Below _ _ _›)
  clear hK K hHeld
  have hHeld := hHeld'
  clear hHeld'
  (try simp only [Act.put, List.setIfInBounds_toArray, List.set_cons_zero, List.set_cons_succ])
  refine wpAnyH_take (i := 35) (oi := ?oiz608) (v := ?vz608) ?hiz608 (by kernel_rfl) (by kernel_rfl) (by kernel_rfl) ?hqz608 ?hyz608 hHeld ?restz608
  case hiz608 => simp only [List.getElem?_toArray, List.getElem?_cons_succ, List.getElem?_cons_zero]; exact rfl
  case hqz608 => exact fun _ _ _ h => h
  case hyz608 => refine Or.inl ⟨by rfl, ?_⟩; intro w hSw; (try dsimp only at hSw); go_simp; try with_reducible rfl
  (try simp only [Act.put, List.setIfInBounds_toArray, List.set_cons_zero, List.set_cons_succ])
  refine wpAnyH_take (i := 36) (oi := ?oiz609) (v := ?vz609) ?hiz609 (by kernel_rfl) (by kernel_rfl) (by kernel_rfl) ?hqz609 ?hyz609 hHeld ?restz609
  case hiz609 => simp only [List.getElem?_toArray, List.getElem?_cons_succ, List.getElem?_cons_zero]; exact rfl
  case hqz609 => exact fun _ _ _ h => h
  case hyz609 => refine Or.inl ⟨by rfl, ?_⟩; intro w hSw; (try dsimp only at hSw); go_simp; try with_reducible rfl
  (try simp only [Act.put, List.setIfInBounds_toArray, List.set_cons_zero, List.set_cons_succ])
  refine wpAnyH_take (i := 37) (oi := ?oiz610) (v := ?vz610) ?hiz610 (by kernel_rfl) (by kernel_rfl) (by kernel_rfl) ?hqz610 ?hyz610 hHeld ?restz610
  case hiz610 => simp only [List.getElem?_toArray, List.getElem?_cons_succ, List.getElem?_cons_zero]; exact rfl
  case hqz610 => exact fun _ _ _ h => h
  case hyz610 => refine Or.inl ⟨by rfl, ?_⟩; intro w hSw; (try dsimp only at hSw); go_simp; try with_reducible rfl
  (try simp only [Act.put, List.setIfInBounds_toArray, List.set_cons_zero, List.set_cons_succ])
  refine wpAnyH_take (i := 38) (oi := ?oiz611) (v := ?vz611) ?hiz611 (by kernel_rfl) (by kernel_rfl) (by kernel_rfl) ?hqz611 ?hyz611 hHeld ?restz611
  case hiz611 => simp only [List.getElem?_toArray, List.getElem?_cons_succ, List.getElem?_cons_zero]; exact rfl
  case hqz611 => exact fun _ _ _ h => h
  case hyz611 => refine Or.inl ⟨by rfl, ?_⟩; intro w hSw; have phEa := ent_grew hSw hEa; have qhEa := box2_c0 phEa; have rhEa := box2_c1 phEa; have phEb := ent_grew hSw hEb; have qhEb := box2_c0 phEb; have rhEb := box2_c1 phEb; have phEc := ent_grew hSw hEc; have qhEc := box2_c0 phEc; have rhEc := box2_c1 phEc; go_simp; try with_reducible rfl
  (try simp only [Act.put, List.setIfInBounds_toArray, List.set_cons_zero, List.set_cons_succ])
  refine wpAnyH_take (i := 39) (oi := ?oiz612) (v := ?vz612) ?hiz612 (by kernel_rfl) (by kernel_rfl) (by kernel_rfl) ?hqz612 ?hyz612 hHeld ?restz612
  case hiz612 => simp only [List.getElem?_toArray, List.getElem?_cons_succ, List.getElem?_cons_zero]; exact rfl
  case hqz612 => exact fun _ _ _ h => h
  case hyz612 => refine Or.inl ⟨by rfl, ?_⟩; intro w hSw; have phEa := ent_grew hSw hEa; have qhEa := box2_c0 phEa; have rhEa := box2_c1 phEa; have phEb := ent_grew hSw hEb; have qhEb := box2_c0 phEb; have rhEb := box2_c1 phEb; have phEc := ent_grew hSw hEc; have qhEc := box2_c0 phEc; have rhEc := box2_c1 phEc; go_simp; try with_reducible rfl
  (try simp only [Act.put, List.setIfInBounds_toArray, List.set_cons_zero, List.set_cons_succ])
  refine wpAnyH_take (i := 41) (oi := ?oiz613) (v := ?vz613) ?hiz613 (by kernel_rfl) (by kernel_rfl) (by kernel_rfl) ?hqz613 ?hyz613 hHeld ?restz613
  case hiz613 => simp only [List.getElem?_toArray, List.getElem?_cons_succ, List.getElem?_cons_zero]; exact rfl
  case hqz613 => exact fun _ _ _ h => h
  case hyz613 => refine Or.inl ⟨by rfl, ?_⟩; intro w hSw; have phEa := ent_grew hSw hEa; have qhEa := box2_c0 phEa; have rhEa := box2_c1 phEa; have phEb := ent_grew hSw hEb; have qhEb := box2_c0 phEb; have rhEb := box2_c1 phEb; have phEc := ent_grew hSw hEc; have qhEc := box2_c0 phEc; have rhEc := box2_c1 phEc; go_simp; try with_reducible rfl
  (try simp only [Act.put, List.setIfInBounds_toArray, List.set_cons_zero, List.set_cons_succ])
  refine wpAnyH_take (i := 42) (oi := ?oiz614) (v := ?vz614) ?hiz614 (by kernel_rfl) (by kernel_rfl) (by kernel_rfl) ?hqz614 ?hyz614 hHeld ?restz614
  case hiz614 => simp only [List.getElem?_toArray, List.getElem?_cons_succ, List.getElem?_cons_zero]; exact rfl
  case hqz614 => exact fun _ _ _ h => h
  case hyz614 => refine Or.inl ⟨by rfl, ?_⟩; intro w hSw; have phEa := ent_grew hSw hEa; have qhEa := box2_c0 phEa; have rhEa := box2_c1 phEa; have phEb := ent_grew hSw hEb; have qhEb := box2_c0 phEb; have rhEb := box2_c1 phEb; have phEc := ent_grew hSw hEc; have qhEc := box2_c0 phEc; have rhEc := box2_c1 phEc; go_simp; try with_reducible rfl
  (try simp only [Act.put, List.setIfInBounds_toArray, List.set_cons_zero, List.set_cons_succ])
  refine wpAnyH_ready (rs := [40]) (by kernel_rfl) (by simp) ?_
  refine AllReadyH.cons (o := ?oiz615) ?hiz615 (fun K hK => ?stepz615) AllReadyH.nil
  case hiz615 => simp only [List.getElem?_toArray, List.getElem?_cons_succ, List.getElem?_cons_zero]; exact rfl
  go_simp
  (go_at_call 29; refine (zcmp_is k (HK.out) (ha.grew hHeld) (hbz.grew hHeld) (by omega) (by omega)).mono ?_; rintro e v40 ⟨rfl, hv40⟩)
  refine hK.out _ _ ?hSz615 (fun hHeld' => ?restz615)
  case hSz615 => (try dsimp only); (first | exact (Grew.refl _).drew | exact Grew.call hHeld ‹Below _ _ _›)
  clear hK K hHeld
  have hHeld := hHeld'
  clear hHeld'
  (try simp only [Act.put, List.setIfInBounds_toArray, List.set_cons_zero, List.set_cons_succ])
  refine wpAnyH_ready (rs := [43]) (by kernel_rfl) (by simp) ?_
  refine AllReadyH.cons (o := ?oiz616) ?hiz616 (fun K hK => ?stepz616) AllReadyH.nil
  case hiz616 => simp only [List.getElem?_toArray, List.getElem?_cons_succ, List.getElem?_cons_zero]; exact rfl
  go_simp
  (go_at_call 29; refine (zcmp_is k2 (HK2.out) (hbz.grew hHeld) (ha.grew hHeld) (by omega) (by omega)).mono ?_; rintro e v41 ⟨rfl, hv41⟩)
  refine hK.out _ _ ?hSz616 (fun hHeld' => ?restz616)
  case hSz616 => (try dsimp only); (first | exact (Grew.refl _).drew | exact Grew.call hHeld ‹Below _ _ _›)
  clear hK K hHeld
  have hHeld := hHeld'
  clear hHeld'
  (try simp only [Act.put, List.setIfInBounds_toArray, List.set_cons_zero, List.set_cons_succ])
  refine wpAnyH_take (i := 44) (oi := ?oiz617) (v := ?vz617) ?hiz617 (by kernel_rfl) (by kernel_rfl) (by kernel_rfl) ?hqz617 ?hyz617 hHeld ?restz617
  case hiz617 => simp only [List.getElem?_toArray, List.getElem?_cons_succ, List.getElem?_cons_zero]; exact rfl
  case hqz617 => exact fun _ _ _ h => h
  case hyz617 => refine Or.inl ⟨by rfl, ?_⟩; intro w hSw; (try dsimp only at hSw); go_simp; try with_reducible rfl
  (try simp only [Act.put, List.setIfInBounds_toArray, List.set_cons_zero, List.set_cons_succ])
  refine wpAnyH_take (i := 45) (oi := ?oiz618) (v := ?vz618) ?hiz618 (by kernel_rfl) (by kernel_rfl) (by kernel_rfl) ?hqz618 ?hyz618 hHeld ?restz618
  case hiz618 => simp only [List.getElem?_toArray, List.getElem?_cons_succ, List.getElem?_cons_zero]; exact rfl
  case hqz618 => exact fun _ _ _ h => h
  case hyz618 => refine Or.inl ⟨by rfl, ?_⟩; intro w hSw; (try dsimp only at hSw); go_simp; try with_reducible rfl
  (try simp only [Act.put, List.setIfInBounds_toArray, List.set_cons_zero, List.set_cons_succ])
  refine wpAnyH_take (i := 46) (oi := ?oiz619) (v := ?vz619) ?hiz619 (by kernel_rfl) (by kernel_rfl) (by kernel_rfl) ?hqz619 ?hyz619 hHeld ?restz619
  case hiz619 => simp only [List.getElem?_toArray, List.getElem?_cons_succ, List.getElem?_cons_zero]; exact rfl
  case hqz619 => exact fun _ _ _ h => h
  case hyz619 => refine Or.inl ⟨by rfl, ?_⟩; intro w hSw; (try dsimp only at hSw); go_simp; try with_reducible rfl
  (try simp only [Act.put, List.setIfInBounds_toArray, List.set_cons_zero, List.set_cons_succ])
  refine wpAnyH_take (i := 47) (oi := ?oiz620) (v := ?vz620) ?hiz620 (by kernel_rfl) (by kernel_rfl) (by kernel_rfl) ?hqz620 ?hyz620 hHeld ?restz620
  case hiz620 => simp only [List.getElem?_toArray, List.getElem?_cons_succ, List.getElem?_cons_zero]; exact rfl
  case hqz620 => exact fun _ _ _ h => h
  case hyz620 => refine Or.inl ⟨by rfl, ?_⟩; intro w hSw; (try dsimp only at hSw); go_simp; try with_reducible rfl
  (try simp only [Act.put, List.setIfInBounds_toArray, List.set_cons_zero, List.set_cons_succ])
  refine wpAnyH_done (by kernel_rfl) ?_ _
  have hq9 := hB.trans hHeld
  clear hHeld
  go_wp2
  go_ret
  exact ⟨rfl, hq9⟩

theorem zedRing_walk (s t u : ByteArray) (_hs : s.size ≤ maxLen) (_ht : t.size ≤ maxLen) (_hu : u.size ≤ maxLen) (w : World) :
    Calls Try.prog 8 #[.string s, .string t, .string u] w fun e w' => e = .returned (.bool true) ∧ Below w.heap.size w w' := by
  cases hk1 : zok s
  · exact zedRing_n s t u hk1
  · cases hk2 : zok t
    · exact zedRing_yn s t u hk1 hk2
    · cases hk3 : zok u
      · exact zedRing_yyn s t u hk1 hk2 hk3
      · exact zedRing_yyy s t u hk1 hk2 hk3

end Go.Proofs.Ytnjohlimjbmkgaa

namespace Go.Proofs.Ytnjohlimjbmkgaa.zedRing
open Go.ChangeShapes Go.WideShapes Go.ChangeAt Go.RowKit
open Go.ChangeMaps (open_string shut_string)

theorem own : ownKnob Try.prog.godebug = none := by kernel_rfl

set_option maxRecDepth 100000 in
theorem lifted (os : Os) (started : os.Started) (H : Type) (enc : TypeId × Value → H) :
    ReturnsInHanded {} Try.checked os 8 .any (Rows.zedRingSpec.pre6 enc Try.prog Try.f8 Rows.zedRingRow.domain false) (Rows.zedRingSpec.post enc Try.prog Try.f8 false true false false) := by
  refine returnsInHanded_of_change (C := Try.checked) own started (by kernel_rfl) Try.func8
    (ChangeSpec.witness6 (enc := enc) (C := Try.checked) false ⟨#[], #[.string ⟨#[]⟩, .string ⟨#[]⟩, .string ⟨#[]⟩], []⟩ 8 (by kernel_rfl) (by kernel_rfl) (by kernel_rfl) (by kernel_rfl)) ?_
  intro W base args ds gs before hval0 hW hcnd _
  have hval : ∀ (j : Nat) t v, Try.f8.params[j]? = some t → args[j]? = some v → Value.okWide Try.prog W .any base t v := hval0
  have hW' := hW
  obtain ⟨p, q, hA0, hV, rfl, hfz, hnd⟩ := hW
  have hA : DataW.TrodAll enc Try.prog W 0 (fun _ => true) true Try.f8.params.toList args.toList ds p := hA0
  rw [Try.params8] at hA hval
  obtain ⟨v0, vs0, d0, ds0, p0, q0, hargs, rfl, rfl, h0, r0⟩ := trodAll_cons hA
  obtain ⟨v1, vs1, d1, ds1, p1, q1, rfl, rfl, rfl, h1, r1⟩ := trodAll_cons r0
  obtain ⟨v2, vs2, d2, ds2, p2, q2, rfl, rfl, rfl, h2, r2⟩ := trodAll_cons r1
  obtain ⟨rfl, rfl, rfl⟩ := trodAll_nil r2
  obtain rfl : args = #[v0, v1, v2] := by cases args; simp_all
  obtain ⟨rfl, rfl⟩ := trodVars_none hV
  obtain ⟨a0, rfl, rfl, rfl, w0⟩ := open_string Try.underlying9 (hval 0 9 v0 rfl rfl) h0
  obtain ⟨a1, rfl, rfl, rfl, w1⟩ := open_string Try.underlying9 (hval 1 9 v1 rfl rfl) h1
  obtain ⟨a2, rfl, rfl, rfl, w2⟩ := open_string Try.underlying9 (hval 2 9 v2 rfl rfl) h2
  clear hA0 hval0
  simp only [List.append_nil] at hW'
  refine (zedRing_walk a0 a1 a2 w0 w1 w2 W).mono fun e W' ⟨he, hg⟩ => ?_
  subst he
  exact ⟨_, rfl, law_post hW' rfl (fun _ _ _ => (trodAll_cons_mk (shut_bool Try.underlying4 _) trodAll_mk0)) (fun sp _ => (trodAll_cons_mk (shut_string Try.underlying9 w0) (trodAll_cons_mk (shut_string Try.underlying9 w1) (trodAll_cons_mk (shut_string Try.underlying9 w2) trodAll_mk0)))) rfl hg⟩

theorem over : Rows.zedRingRow.holds Try.pinned (OpenSpec.ofChange Rows.zedRingSpec) :=
  OpenClaim.holds_of_wide 8 Try.f8 rfl rfl rfl rfl rfl rfl rfl ⟨rfl, rfl, rfl, rfl, rfl⟩ rfl rfl rfl rfl rfl (by kernel_rfl) Try.func8 (by kernel_rfl)
    (of_decide_eq_true (by kernel_rfl)) (by unfold Func.isWrapper; first | (rw [if_pos (by decide +kernel)]; kernel_rfl) | (rw [if_neg (by decide +kernel)]; exact ⟨rfl, rfl⟩))
    (fun os started H enc _ => lifted os started H enc)
end Go.Proofs.Ytnjohlimjbmkgaa.zedRing
namespace Go.Proofs.Ytnjohlimjbmkgaa

/-- The statement. -/
theorem zedRing_holds : Rows.ZedRingSaid := zedRing.over
end Go.Proofs.Ytnjohlimjbmkgaa
