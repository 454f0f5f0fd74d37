/- ZedTimes returns true at every input: what zed answers is the document's; no condition. -/
import Derived.Test.YtnjohlimjbmkgaaRows
import Derived.Test.YtnjohlimjbmkgaaProg
import Derived.Test.YtnjohlimjbmkgaaZedN
import Derived.Deep.CutBlock
import Derived.Test.YtnjohlimjbmkgaaLawZ
namespace Go.Proofs.Ytnjohlimjbmkgaa
open Go.RowKit

set_option maxRecDepth 100000 in
set_option maxHeartbeats 1600000 in
theorem zedTimes_n {w : World} (s t : ByteArray) (hk1 : zok s = false) :
    Calls Try.prog 6 #[.string s, .string t] w fun e w' => e = .returned (.bool true) ∧ Below w.heap.size w w' := by
  have hB := Grew.refl w
  go_enter Try.func6, Try.ntmps6
  go_wp2_with fail
  refine (zone s _).mono ?_
  rintro e w1 ⟨a, da, x, Sx, rfl, ha, hx, han, hxn, hb1⟩
  rw [hk1]
  have ha1 : Grew w1 (((w1.alloc (.cells #[.slice a.ao a.n a.c, .bool da] 33)).alloc (.cells #[.int .i64 Sx, .slice x.ao x.n x.c] 28))) := ((Grew.refl w1).alloc (.cells #[.slice a.ao a.n a.c, .bool da] 33)).alloc (.cells #[.int .i64 Sx, .slice x.ao x.n x.c] 28)
  have hg1' := (Grew.call (Grew.refl _) hb1).trans ha1
  replace ha := ha.grew ha1
  replace hx := hx.grew ha1
  obtain ⟨hEa, hEx, -⟩ := ents2 w1 (.cells #[.slice a.ao a.n a.c, .bool da] 33) (.cells #[.int .i64 Sx, .slice x.ao x.n x.c] 28)
  replace hB := hB.trans hg1'
  clear hg1' ha1 hb1
  have chEaa := box2_c0 hEa
  have chEab := box2_c1 hEa
  have chExa := box2_c0 hEx
  have chExb := box2_c1 hEx
  go_wp2_with fail
  generalize ((w1.alloc (.cells #[.slice a.ao a.n a.c, .bool da] 33)).alloc (.cells #[.int .i64 Sx, .slice x.ao x.n x.c] 28)) = W1 at *
  refine (zone t _).mono ?_
  rintro e w2 ⟨c, dc, y, Sy, rfl, hc, hy, hcn, hyn, hb2⟩
  have ha2 : Grew w2 (((w2.alloc (.cells #[.slice c.ao c.n c.c, .bool dc] 33)).alloc (.cells #[.int .i64 Sy, .slice y.ao y.n y.c] 28))) := ((Grew.refl w2).alloc (.cells #[.slice c.ao c.n c.c, .bool dc] 33)).alloc (.cells #[.int .i64 Sy, .slice y.ao y.n y.c] 28)
  have hg2' := (Grew.call (Grew.refl _) hb2).trans ha2
  replace ha := ha.grew hg2'
  replace hx := hx.grew hg2'
  replace hEa := ent_grew hg2' hEa
  replace hEx := ent_grew hg2' hEx
  replace hc := hc.grew ha2
  replace hy := hy.grew ha2
  obtain ⟨hEc, hEy, -⟩ := ents2 w2 (.cells #[.slice c.ao c.n c.c, .bool dc] 33) (.cells #[.int .i64 Sy, .slice y.ao y.n y.c] 28)
  replace hB := hB.trans hg2'
  clear hg2' ha2 hb2 chEaa chEab chExa chExb
  have chEaa := box2_c0 hEa
  have chEab := box2_c1 hEa
  have chExa := box2_c0 hEx
  have chExb := box2_c1 hEx
  have chEca := box2_c0 hEc
  have chEcb := box2_c1 hEc
  have chEya := box2_c0 hEy
  have chEyb := box2_c1 hEy
  go_wp2_with fail
  generalize ((w2.alloc (.cells #[.slice c.ao c.n c.c, .bool dc] 33)).alloc (.cells #[.int .i64 Sy, .slice y.ao y.n y.c] 28)) = W2 at *
  refine (zknown).mono ?_
  rintro e w3 ⟨rfl, hb3⟩
  have ha3 : Grew w3 (w3) := Grew.refl w3
  have hg3' := (Grew.call (Grew.refl _) hb3).trans ha3
  replace ha := ha.grew hg3'
  replace hx := hx.grew hg3'
  replace hc := hc.grew hg3'
  replace hy := hy.grew hg3'
  replace hEa := ent_grew hg3' hEa
  replace hEx := ent_grew hg3' hEx
  replace hEc := ent_grew hg3' hEc
  replace hEy := ent_grew hg3' hEy
  replace hB := hB.trans hg3'
  clear hg3' ha3 hb3 chEaa chEab chExa chExb chEca chEcb chEya chEyb
  have chEaa := box2_c0 hEa
  have chEab := box2_c1 hEa
  have chExa := box2_c0 hEx
  have chExb := box2_c1 hEx
  have chEca := box2_c0 hEc
  have chEcb := box2_c1 hEc
  have chEya := box2_c0 hEy
  have chEyb := box2_c1 hEy
  go_wp2_with fail
  refine (zknown).mono ?_
  rintro e w4 ⟨rfl, hb4⟩
  have ha4 : Grew w4 (w4) := Grew.refl w4
  have hg4' := (Grew.call (Grew.refl _) hb4).trans ha4
  replace ha := ha.grew hg4'
  replace hx := hx.grew hg4'
  replace hc := hc.grew hg4'
  replace hy := hy.grew hg4'
  replace hEa := ent_grew hg4' hEa
  replace hEx := ent_grew hg4' hEx
  replace hEc := ent_grew hg4' hEc
  replace hEy := ent_grew hg4' hEy
  replace hB := hB.trans hg4'
  clear hg4' ha4 hb4 chEaa chEab chExa chExb chEca chEcb chEya chEyb
  have chEaa := box2_c0 hEa
  have chEab := box2_c1 hEa
  have chExa := box2_c0 hEx
  have chExb := box2_c1 hEx
  have chEca := box2_c0 hEc
  have chEcb := box2_c1 hEc
  have chEya := box2_c0 hEy
  have chEyb := box2_c1 hEy
  go_wp2_with fail
  refine (zapart s _).mono ?_
  rintro e w5 ⟨rfl, hb5⟩
  have ha5 : Grew w5 (w5) := Grew.refl w5
  have hg5' := (Grew.call (Grew.refl _) hb5).trans ha5
  replace ha := ha.grew hg5'
  replace hx := hx.grew hg5'
  replace hc := hc.grew hg5'
  replace hy := hy.grew hg5'
  replace hEa := ent_grew hg5' hEa
  replace hEx := ent_grew hg5' hEx
  replace hEc := ent_grew hg5' hEc
  replace hEy := ent_grew hg5' hEy
  replace hB := hB.trans hg5'
  clear hg5' ha5 hb5 chEaa chEab chExa chExb chEca chEcb chEya chEyb
  have chEaa := box2_c0 hEa
  have chEab := box2_c1 hEa
  have chExa := box2_c0 hEx
  have chExb := box2_c1 hEx
  have chEca := box2_c0 hEc
  have chEcb := box2_c1 hEc
  have chEya := box2_c0 hEy
  have chEyb := box2_c1 hEy
  go_wp2_with fail
  refine (zapart t _).mono ?_
  rintro e w6 ⟨rfl, hb6⟩
  have ha6 : Grew w6 (w6) := Grew.refl w6
  have hg6' := (Grew.call (Grew.refl _) hb6).trans ha6
  replace ha := ha.grew hg6'
  replace hx := hx.grew hg6'
  replace hc := hc.grew hg6'
  replace hy := hy.grew hg6'
  replace hEa := ent_grew hg6' hEa
  replace hEx := ent_grew hg6' hEx
  replace hEc := ent_grew hg6' hEc
  replace hEy := ent_grew hg6' hEy
  replace hB := hB.trans hg6'
  clear hg6' ha6 hb6 chEaa chEab chExa chExb chEca chEcb chEya chEyb
  have chEaa := box2_c0 hEa
  have chEab := box2_c1 hEa
  have chExa := box2_c0 hEx
  have chExb := box2_c1 hEx
  have chEca := box2_c0 hEc
  have chEcb := box2_c1 hEc
  have chEya := box2_c0 hEy
  have chEyb := box2_c1 hEy
  go_wp2
  go_ret
  exact ⟨rfl, hB⟩

set_option maxRecDepth 100000 in
set_option maxHeartbeats 1600000 in
theorem zedTimes_yn {w : World} (s t : ByteArray) (hk1 : zok s = true) (hk2 : zok t = false) :
    Calls Try.prog 6 #[.string s, .string t] w fun e w' => e = .returned (.bool true) ∧ Below w.heap.size w w' := by
  have hB := Grew.refl w
  go_enter Try.func6, Try.ntmps6
  go_wp2_with fail
  refine (zone s _).mono ?_
  rintro e w1 ⟨a, da, x, Sx, rfl, ha, hx, han, hxn, hb1⟩
  rw [hk1]
  have ha1 : Grew w1 (((w1.alloc (.cells #[.slice a.ao a.n a.c, .bool da] 33)).alloc (.cells #[.int .i64 Sx, .slice x.ao x.n x.c] 28))) := ((Grew.refl w1).alloc (.cells #[.slice a.ao a.n a.c, .bool da] 33)).alloc (.cells #[.int .i64 Sx, .slice x.ao x.n x.c] 28)
  have hg1' := (Grew.call (Grew.refl _) hb1).trans ha1
  replace ha := ha.grew ha1
  replace hx := hx.grew ha1
  obtain ⟨hEa, hEx, -⟩ := ents2 w1 (.cells #[.slice a.ao a.n a.c, .bool da] 33) (.cells #[.int .i64 Sx, .slice x.ao x.n x.c] 28)
  replace hB := hB.trans hg1'
  clear hg1' ha1 hb1
  have chEaa := box2_c0 hEa
  have chEab := box2_c1 hEa
  have chExa := box2_c0 hEx
  have chExb := box2_c1 hEx
  go_wp2_with fail
  generalize ((w1.alloc (.cells #[.slice a.ao a.n a.c, .bool da] 33)).alloc (.cells #[.int .i64 Sx, .slice x.ao x.n x.c] 28)) = W1 at *
  refine (zone t _).mono ?_
  rintro e w2 ⟨c, dc, y, Sy, rfl, hc, hy, hcn, hyn, hb2⟩
  rw [hk2]
  have ha2 : Grew w2 (((w2.alloc (.cells #[.slice c.ao c.n c.c, .bool dc] 33)).alloc (.cells #[.int .i64 Sy, .slice y.ao y.n y.c] 28))) := ((Grew.refl w2).alloc (.cells #[.slice c.ao c.n c.c, .bool dc] 33)).alloc (.cells #[.int .i64 Sy, .slice y.ao y.n y.c] 28)
  have hg2' := (Grew.call (Grew.refl _) hb2).trans ha2
  replace ha := ha.grew hg2'
  replace hx := hx.grew hg2'
  replace hEa := ent_grew hg2' hEa
  replace hEx := ent_grew hg2' hEx
  replace hc := hc.grew ha2
  replace hy := hy.grew ha2
  obtain ⟨hEc, hEy, -⟩ := ents2 w2 (.cells #[.slice c.ao c.n c.c, .bool dc] 33) (.cells #[.int .i64 Sy, .slice y.ao y.n y.c] 28)
  replace hB := hB.trans hg2'
  clear hg2' ha2 hb2 chEaa chEab chExa chExb
  have chEaa := box2_c0 hEa
  have chEab := box2_c1 hEa
  have chExa := box2_c0 hEx
  have chExb := box2_c1 hEx
  have chEca := box2_c0 hEc
  have chEcb := box2_c1 hEc
  have chEya := box2_c0 hEy
  have chEyb := box2_c1 hEy
  go_wp2_with fail
  generalize ((w2.alloc (.cells #[.slice c.ao c.n c.c, .bool dc] 33)).alloc (.cells #[.int .i64 Sy, .slice y.ao y.n y.c] 28)) = W2 at *
  refine (zknown).mono ?_
  rintro e w3 ⟨rfl, hb3⟩
  have ha3 : Grew w3 (w3) := Grew.refl w3
  have hg3' := (Grew.call (Grew.refl _) hb3).trans ha3
  replace ha := ha.grew hg3'
  replace hx := hx.grew hg3'
  replace hc := hc.grew hg3'
  replace hy := hy.grew hg3'
  replace hEa := ent_grew hg3' hEa
  replace hEx := ent_grew hg3' hEx
  replace hEc := ent_grew hg3' hEc
  replace hEy := ent_grew hg3' hEy
  replace hB := hB.trans hg3'
  clear hg3' ha3 hb3 chEaa chEab chExa chExb chEca chEcb chEya chEyb
  have chEaa := box2_c0 hEa
  have chEab := box2_c1 hEa
  have chExa := box2_c0 hEx
  have chExb := box2_c1 hEx
  have chEca := box2_c0 hEc
  have chEcb := box2_c1 hEc
  have chEya := box2_c0 hEy
  have chEyb := box2_c1 hEy
  go_wp2_with fail
  refine (zknown).mono ?_
  rintro e w4 ⟨rfl, hb4⟩
  have ha4 : Grew w4 (w4) := Grew.refl w4
  have hg4' := (Grew.call (Grew.refl _) hb4).trans ha4
  replace ha := ha.grew hg4'
  replace hx := hx.grew hg4'
  replace hc := hc.grew hg4'
  replace hy := hy.grew hg4'
  replace hEa := ent_grew hg4' hEa
  replace hEx := ent_grew hg4' hEx
  replace hEc := ent_grew hg4' hEc
  replace hEy := ent_grew hg4' hEy
  replace hB := hB.trans hg4'
  clear hg4' ha4 hb4 chEaa chEab chExa chExb chEca chEcb chEya chEyb
  have chEaa := box2_c0 hEa
  have chEab := box2_c1 hEa
  have chExa := box2_c0 hEx
  have chExb := box2_c1 hEx
  have chEca := box2_c0 hEc
  have chEcb := box2_c1 hEc
  have chEya := box2_c0 hEy
  have chEyb := box2_c1 hEy
  go_wp2_with fail
  refine (zapart s _).mono ?_
  rintro e w5 ⟨rfl, hb5⟩
  have ha5 : Grew w5 (w5) := Grew.refl w5
  have hg5' := (Grew.call (Grew.refl _) hb5).trans ha5
  replace ha := ha.grew hg5'
  replace hx := hx.grew hg5'
  replace hc := hc.grew hg5'
  replace hy := hy.grew hg5'
  replace hEa := ent_grew hg5' hEa
  replace hEx := ent_grew hg5' hEx
  replace hEc := ent_grew hg5' hEc
  replace hEy := ent_grew hg5' hEy
  replace hB := hB.trans hg5'
  clear hg5' ha5 hb5 chEaa chEab chExa chExb chEca chEcb chEya chEyb
  have chEaa := box2_c0 hEa
  have chEab := box2_c1 hEa
  have chExa := box2_c0 hEx
  have chExb := box2_c1 hEx
  have chEca := box2_c0 hEc
  have chEcb := box2_c1 hEc
  have chEya := box2_c0 hEy
  have chEyb := box2_c1 hEy
  go_wp2_with fail
  refine (zapart t _).mono ?_
  rintro e w6 ⟨rfl, hb6⟩
  have ha6 : Grew w6 (w6) := Grew.refl w6
  have hg6' := (Grew.call (Grew.refl _) hb6).trans ha6
  replace ha := ha.grew hg6'
  replace hx := hx.grew hg6'
  replace hc := hc.grew hg6'
  replace hy := hy.grew hg6'
  replace hEa := ent_grew hg6' hEa
  replace hEx := ent_grew hg6' hEx
  replace hEc := ent_grew hg6' hEc
  replace hEy := ent_grew hg6' hEy
  replace hB := hB.trans hg6'
  clear hg6' ha6 hb6 chEaa chEab chExa chExb chEca chEcb chEya chEyb
  have chEaa := box2_c0 hEa
  have chEab := box2_c1 hEa
  have chExa := box2_c0 hEx
  have chExb := box2_c1 hEx
  have chEca := box2_c0 hEc
  have chEcb := box2_c1 hEc
  have chEya := box2_c0 hEy
  have chEyb := box2_c1 hEy
  go_wp2
  go_ret
  exact ⟨rfl, hB⟩

set_option maxRecDepth 100000 in
set_option maxHeartbeats 1600000 in
theorem zedTimes_yy {w : World} (s t : ByteArray) (hk1 : zok s = true) (hk2 : zok t = true) :
    Calls Try.prog 6 #[.string s, .string t] w fun e w' => e = .returned (.bool true) ∧ Below w.heap.size w w' := by
  have hB := Grew.refl w
  go_enter Try.func6, Try.ntmps6
  go_wp2_with fail
  refine (zone s _).mono ?_
  rintro e w1 ⟨a, da, x, Sx, rfl, ha, hx, han, hxn, hb1⟩
  rw [hk1]
  have ha1 : Grew w1 (((w1.alloc (.cells #[.slice a.ao a.n a.c, .bool da] 33)).alloc (.cells #[.int .i64 Sx, .slice x.ao x.n x.c] 28))) := ((Grew.refl w1).alloc (.cells #[.slice a.ao a.n a.c, .bool da] 33)).alloc (.cells #[.int .i64 Sx, .slice x.ao x.n x.c] 28)
  have hg1' := (Grew.call (Grew.refl _) hb1).trans ha1
  replace ha := ha.grew ha1
  replace hx := hx.grew ha1
  obtain ⟨hEa, hEx, -⟩ := ents2 w1 (.cells #[.slice a.ao a.n a.c, .bool da] 33) (.cells #[.int .i64 Sx, .slice x.ao x.n x.c] 28)
  replace hB := hB.trans hg1'
  clear hg1' ha1 hb1
  have chEaa := box2_c0 hEa
  have chEab := box2_c1 hEa
  have chExa := box2_c0 hEx
  have chExb := box2_c1 hEx
  go_wp2_with fail
  generalize ((w1.alloc (.cells #[.slice a.ao a.n a.c, .bool da] 33)).alloc (.cells #[.int .i64 Sx, .slice x.ao x.n x.c] 28)) = W1 at *
  refine (zone t _).mono ?_
  rintro e w2 ⟨c, dc, y, Sy, rfl, hc, hy, hcn, hyn, hb2⟩
  rw [hk2]
  have ha2 : Grew w2 (((w2.alloc (.cells #[.slice c.ao c.n c.c, .bool dc] 33)).alloc (.cells #[.int .i64 Sy, .slice y.ao y.n y.c] 28))) := ((Grew.refl w2).alloc (.cells #[.slice c.ao c.n c.c, .bool dc] 33)).alloc (.cells #[.int .i64 Sy, .slice y.ao y.n y.c] 28)
  have hg2' := (Grew.call (Grew.refl _) hb2).trans ha2
  replace ha := ha.grew hg2'
  replace hx := hx.grew hg2'
  replace hEa := ent_grew hg2' hEa
  replace hEx := ent_grew hg2' hEx
  replace hc := hc.grew ha2
  replace hy := hy.grew ha2
  obtain ⟨hEc, hEy, -⟩ := ents2 w2 (.cells #[.slice c.ao c.n c.c, .bool dc] 33) (.cells #[.int .i64 Sy, .slice y.ao y.n y.c] 28)
  replace hB := hB.trans hg2'
  clear hg2' ha2 hb2 chEaa chEab chExa chExb
  have chEaa := box2_c0 hEa
  have chEab := box2_c1 hEa
  have chExa := box2_c0 hEx
  have chExb := box2_c1 hEx
  have chEca := box2_c0 hEc
  have chEcb := box2_c1 hEc
  have chEya := box2_c0 hEy
  have chEyb := box2_c1 hEy
  go_wp2_with fail
  generalize ((w2.alloc (.cells #[.slice c.ao c.n c.c, .bool dc] 33)).alloc (.cells #[.int .i64 Sy, .slice y.ao y.n y.c] 28)) = W2 at *
  refine (zknown).mono ?_
  rintro e w3 ⟨rfl, hb3⟩
  have ha3 : Grew w3 (w3) := Grew.refl w3
  have hg3' := (Grew.call (Grew.refl _) hb3).trans ha3
  replace ha := ha.grew hg3'
  replace hx := hx.grew hg3'
  replace hc := hc.grew hg3'
  replace hy := hy.grew hg3'
  replace hEa := ent_grew hg3' hEa
  replace hEx := ent_grew hg3' hEx
  replace hEc := ent_grew hg3' hEc
  replace hEy := ent_grew hg3' hEy
  replace hB := hB.trans hg3'
  clear hg3' ha3 hb3 chEaa chEab chExa chExb chEca chEcb chEya chEyb
  have chEaa := box2_c0 hEa
  have chEab := box2_c1 hEa
  have chExa := box2_c0 hEx
  have chExb := box2_c1 hEx
  have chEca := box2_c0 hEc
  have chEcb := box2_c1 hEc
  have chEya := box2_c0 hEy
  have chEyb := box2_c1 hEy
  go_upto_region 5 with fail
  clear chEaa chEab chExa chExb chEca chEcb chEya chEyb
  refine wp_region_held_drew (S := (fun w' => Grew w3 w')) (by kernel_rfl) ?hSz379 (fun hHeld => ?restz379)
  case hSz379 => (try dsimp only); (first | exact (Grew.refl _).drew | exact Grew.call hHeld ‹Below _ _ _›)
  refine wpAnyH_take (i := 0) (oi := ?oiz380) (v := ?vz380) ?hiz380 (by kernel_rfl) (by kernel_rfl) (by kernel_rfl) ?hqz380 ?hyz380 hHeld ?restz380
  case hiz380 => simp only [List.getElem?_toArray, List.getElem?_cons_zero]; exact rfl
  case hqz380 => exact fun _ _ _ h => h
  case hyz380 => refine Or.inl ⟨by rfl, ?_⟩; intro w hSw; have phEa := ent_grew hSw hEa; have qhEa := box2_c0 phEa; have rhEa := box2_c1 phEa; have phEx := ent_grew hSw hEx; have qhEx := box2_c0 phEx; have rhEx := box2_c1 phEx; have phEc := ent_grew hSw hEc; have qhEc := box2_c0 phEc; have rhEc := box2_c1 phEc; have phEy := ent_grew hSw hEy; have qhEy := box2_c0 phEy; have rhEy := box2_c1 phEy; go_simp; try with_reducible rfl
  (try simp only [Act.put, List.setIfInBounds_toArray, List.set_cons_zero, List.set_cons_succ])
  refine wpAnyH_take (i := 1) (oi := ?oiz381) (v := ?vz381) ?hiz381 (by kernel_rfl) (by kernel_rfl) (by kernel_rfl) ?hqz381 ?hyz381 hHeld ?restz381
  case hiz381 => simp only [List.getElem?_toArray, List.getElem?_cons_succ, List.getElem?_cons_zero]; exact rfl
  case hqz381 => exact fun _ _ _ h => h
  case hyz381 => refine Or.inl ⟨by rfl, ?_⟩; intro w hSw; have phEa := ent_grew hSw hEa; have qhEa := box2_c0 phEa; have rhEa := box2_c1 phEa; have phEx := ent_grew hSw hEx; have qhEx := box2_c0 phEx; have rhEx := box2_c1 phEx; have phEc := ent_grew hSw hEc; have qhEc := box2_c0 phEc; have rhEc := box2_c1 phEc; have phEy := ent_grew hSw hEy; have qhEy := box2_c0 phEy; have rhEy := box2_c1 phEy; go_simp; try with_reducible rfl
  (try simp only [Act.put, List.setIfInBounds_toArray, List.set_cons_zero, List.set_cons_succ])
  refine wpAnyH_take (i := 3) (oi := ?oiz382) (v := ?vz382) ?hiz382 (by kernel_rfl) (by kernel_rfl) (by kernel_rfl) ?hqz382 ?hyz382 hHeld ?restz382
  case hiz382 => simp only [List.getElem?_toArray, List.getElem?_cons_succ, List.getElem?_cons_zero]; exact rfl
  case hqz382 => exact fun _ _ _ h => h
  case hyz382 => refine Or.inl ⟨by rfl, ?_⟩; intro w hSw; have phEa := ent_grew hSw hEa; have qhEa := box2_c0 phEa; have rhEa := box2_c1 phEa; have phEx := ent_grew hSw hEx; have qhEx := box2_c0 phEx; have rhEx := box2_c1 phEx; have phEc := ent_grew hSw hEc; have qhEc := box2_c0 phEc; have rhEc := box2_c1 phEc; have phEy := ent_grew hSw hEy; have qhEy := box2_c0 phEy; have rhEy := box2_c1 phEy; go_simp; try with_reducible rfl
  (try simp only [Act.put, List.setIfInBounds_toArray, List.set_cons_zero, List.set_cons_succ])
  refine wpAnyH_take (i := 4) (oi := ?oiz383) (v := ?vz383) ?hiz383 (by kernel_rfl) (by kernel_rfl) (by kernel_rfl) ?hqz383 ?hyz383 hHeld ?restz383
  case hiz383 => simp only [List.getElem?_toArray, List.getElem?_cons_succ, List.getElem?_cons_zero]; exact rfl
  case hqz383 => exact fun _ _ _ h => h
  case hyz383 => refine Or.inl ⟨by rfl, ?_⟩; intro w hSw; have phEa := ent_grew hSw hEa; have qhEa := box2_c0 phEa; have rhEa := box2_c1 phEa; have phEx := ent_grew hSw hEx; have qhEx := box2_c0 phEx; have rhEx := box2_c1 phEx; have phEc := ent_grew hSw hEc; have qhEc := box2_c0 phEc; have rhEc := box2_c1 phEc; have phEy := ent_grew hSw hEy; have qhEy := box2_c0 phEy; have rhEy := box2_c1 phEy; go_simp; try with_reducible rfl
  (try simp only [Act.put, List.setIfInBounds_toArray, List.set_cons_zero, List.set_cons_succ])
  refine wpAnyH_ready (rs := [2]) (by kernel_rfl) (by simp) ?_
  refine AllReadyH.cons (o := ?oiz384) ?hiz384 (fun K hK => ?stepz384) AllReadyH.nil
  case hiz384 => simp only [List.getElem?_toArray, List.getElem?_cons_succ, List.getElem?_cons_zero]; exact rfl
  go_simp
  (go_at_call 31; refine (zmul (ha.grew hHeld) (hc.grew hHeld) (by omega) (by omega)).mono ?_; rintro e v1 ⟨u1, d1, rfl, hu1, hun1, hv1⟩)
  refine hK.out _ _ ?hSz384 (fun hHeld' => ?restz384)
  case hSz384 => (try dsimp only); (first | exact (Grew.refl _).drew | exact Grew.call hHeld ‹Below _ _ _›)
  clear hK K hHeld
  have hHeld := hHeld'
  clear hHeld'
  (try simp only [Act.put, List.setIfInBounds_toArray, List.set_cons_zero, List.set_cons_succ])
  refine wpAnyH_ready (rs := [5]) (by kernel_rfl) (by simp) ?_
  refine AllReadyH.cons (o := ?oiz385) ?hiz385 (fun K hK => ?stepz385) AllReadyH.nil
  case hiz385 => simp only [List.getElem?_toArray, List.getElem?_cons_succ, List.getElem?_cons_zero]; exact rfl
  go_simp
  (go_at_call 32; refine (rzmul (hx.grew hHeld) (hy.grew hHeld) (by omega) (by omega)).mono ?_; rintro e v2 ⟨u2, d2, rfl, hu2, hun2, hv2⟩)
  refine hK.out _ _ ?hSz385 (fun hHeld' => ?restz385)
  case hSz385 => (try dsimp only); (first | exact (Grew.refl _).drew | exact Grew.call hHeld ‹Below _ _ _›)
  clear hK K hHeld
  have hHeld := hHeld'
  clear hHeld'
  (try simp only [Act.put, List.setIfInBounds_toArray, List.set_cons_zero, List.set_cons_succ])
  refine wpAnyH_ready (rs := [6]) (by kernel_rfl) (by simp) ?_
  refine AllReadyH.cons (o := ?oiz386) ?hiz386 (fun K hK => ?stepz386) AllReadyH.nil
  case hiz386 => simp only [List.getElem?_toArray, List.getElem?_cons_succ, List.getElem?_cons_zero]; exact rfl
  go_simp
  (go_at_call 19; refine (zsame (hu1.up hv2) hu2 (by omega) (by omega)).mono ?_; rintro e v2s ⟨rfl, hv2s⟩)
  refine hK.out _ _ ?hSz386 (fun hHeld' => ?restz386)
  case hSz386 => (try dsimp only); (first | exact (Grew.refl _).drew | exact Grew.call hHeld ‹Below _ _ _›)
  clear hK K hHeld
  have hHeld := hHeld'
  clear hHeld'
  (try simp only [Act.put, List.setIfInBounds_toArray, List.set_cons_zero, List.set_cons_succ])
  refine wpAnyH_take (i := 7) (oi := ?oiz387) (v := ?vz387) ?hiz387 (by kernel_rfl) (by kernel_rfl) (by kernel_rfl) ?hqz387 ?hyz387 hHeld ?restz387
  case hiz387 => simp only [List.getElem?_toArray, List.getElem?_cons_succ, List.getElem?_cons_zero]; exact rfl
  case hqz387 => exact fun _ _ _ h => h
  case hyz387 => refine Or.inl ⟨by rfl, ?_⟩; intro w hSw; (try dsimp only at hSw); go_simp; try with_reducible rfl
  (try simp only [Act.put, List.setIfInBounds_toArray, List.set_cons_zero, List.set_cons_succ])
  refine wpAnyH_done (by kernel_rfl) ?_ _
  have hq9 := hB.trans hHeld
  clear hHeld
  go_wp2
  go_ret
  exact ⟨rfl, hq9⟩

theorem zedTimes_walk (s t : ByteArray) (_hs : s.size ≤ maxLen) (_ht : t.size ≤ maxLen) (w : World) :
    Calls Try.prog 6 #[.string s, .string t] w fun e w' => e = .returned (.bool true) ∧ Below w.heap.size w w' := by
  cases hk1 : zok s
  · exact zedTimes_n s t hk1
  · cases hk2 : zok t
    · exact zedTimes_yn s t hk1 hk2
    · exact zedTimes_yy s t hk1 hk2

end Go.Proofs.Ytnjohlimjbmkgaa

namespace Go.Proofs.Ytnjohlimjbmkgaa.zedTimes
open Go.ChangeShapes Go.WideShapes Go.ChangeAt Go.RowKit
open Go.ChangeMaps (open_string shut_string)

theorem own : ownKnob Try.prog.godebug = none := by kernel_rfl

set_option maxRecDepth 100000 in
theorem lifted (os : Os) (started : os.Started) (H : Type) (enc : TypeId × Value → H) :
    ReturnsInHanded {} Try.checked os 6 .any (Rows.zedTimesSpec.pre6 enc Try.prog Try.f6 Rows.zedTimesRow.domain false) (Rows.zedTimesSpec.post enc Try.prog Try.f6 false true false false) := by
  refine returnsInHanded_of_change (C := Try.checked) own started (by kernel_rfl) Try.func6
    (ChangeSpec.witness6 (enc := enc) (C := Try.checked) false ⟨#[], #[.string ⟨#[]⟩, .string ⟨#[]⟩], []⟩ 8 (by kernel_rfl) (by kernel_rfl) (by kernel_rfl) (by kernel_rfl)) ?_
  intro W base args ds gs before hval0 hW hcnd _
  have hval : ∀ (j : Nat) t v, Try.f6.params[j]? = some t → args[j]? = some v → Value.okWide Try.prog W .any base t v := hval0
  have hW' := hW
  obtain ⟨p, q, hA0, hV, rfl, hfz, hnd⟩ := hW
  have hA : DataW.TrodAll enc Try.prog W 0 (fun _ => true) true Try.f6.params.toList args.toList ds p := hA0
  rw [Try.params6] at hA hval
  obtain ⟨v0, vs0, d0, ds0, p0, q0, hargs, rfl, rfl, h0, r0⟩ := trodAll_cons hA
  obtain ⟨v1, vs1, d1, ds1, p1, q1, rfl, rfl, rfl, h1, r1⟩ := trodAll_cons r0
  obtain ⟨rfl, rfl, rfl⟩ := trodAll_nil r1
  obtain rfl : args = #[v0, v1] := by cases args; simp_all
  obtain ⟨rfl, rfl⟩ := trodVars_none hV
  obtain ⟨a0, rfl, rfl, rfl, w0⟩ := open_string Try.underlying9 (hval 0 9 v0 rfl rfl) h0
  obtain ⟨a1, rfl, rfl, rfl, w1⟩ := open_string Try.underlying9 (hval 1 9 v1 rfl rfl) h1
  clear hA0 hval0
  simp only [List.append_nil] at hW'
  refine (zedTimes_walk a0 a1 w0 w1 W).mono fun e W' ⟨he, hg⟩ => ?_
  subst he
  exact ⟨_, rfl, law_post hW' rfl (fun _ _ _ => (trodAll_cons_mk (shut_bool Try.underlying4 _) trodAll_mk0)) (fun sp _ => (trodAll_cons_mk (shut_string Try.underlying9 w0) (trodAll_cons_mk (shut_string Try.underlying9 w1) trodAll_mk0))) rfl hg⟩

theorem over : Rows.zedTimesRow.holds Try.pinned (OpenSpec.ofChange Rows.zedTimesSpec) :=
  OpenClaim.holds_of_wide 6 Try.f6 rfl rfl rfl rfl rfl rfl rfl ⟨rfl, rfl, rfl, rfl, rfl⟩ rfl rfl rfl rfl rfl (by kernel_rfl) Try.func6 (by kernel_rfl)
    (of_decide_eq_true (by kernel_rfl)) (by unfold Func.isWrapper; first | (rw [if_pos (by decide +kernel)]; kernel_rfl) | (rw [if_neg (by decide +kernel)]; exact ⟨rfl, rfl⟩))
    (fun os started H enc _ => lifted os started H enc)
end Go.Proofs.Ytnjohlimjbmkgaa.zedTimes
namespace Go.Proofs.Ytnjohlimjbmkgaa

/-- The statement. -/
theorem zedTimes_holds : Rows.ZedTimesSaid := zedTimes.over
end Go.Proofs.Ytnjohlimjbmkgaa
