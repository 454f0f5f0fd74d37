/- ZedAdds returns true at every input: what zed answers is the document's; no condition. -/
import Derived.Test.YtnjohlimjbmkgaaRows
import Derived.Test.YtnjohlimjbmkgaaProg
import Derived.Test.YtnjohlimjbmkgaaZedN
import Derived.Deep.CutBlock
import Derived.Test.YtnjohlimjbmkgaaLawZ
namespace Go.Proofs.Ytnjohlimjbmkgaa
open Go.RowKit

set_option maxRecDepth 100000 in
set_option maxHeartbeats 1600000 in
theorem zedAdds_n {w : World} (s t : ByteArray) (hk1 : zok s = false) :
    Calls Try.prog 5 #[.string s, .string t] w fun e w' => e = .returned (.bool true) ∧ Below w.heap.size w w' := by
  have hB := Grew.refl w
  go_enter Try.func5, Try.ntmps5
  go_wp2_with fail
  refine (zone s _).mono ?_
  rintro e w1 ⟨a, da, x, Sx, rfl, ha, hx, han, hxn, hb1⟩
  rw [hk1]
  have ha1 : Grew w1 (((w1.alloc (.cells #[.slice a.ao a.n a.c, .bool da] 33)).alloc (.cells #[.int .i64 Sx, .slice x.ao x.n x.c] 28))) := ((Grew.refl w1).alloc (.cells #[.slice a.ao a.n a.c, .bool da] 33)).alloc (.cells #[.int .i64 Sx, .slice x.ao x.n x.c] 28)
  have hg1' := (Grew.call (Grew.refl _) hb1).trans ha1
  replace ha := ha.grew ha1
  replace hx := hx.grew ha1
  obtain ⟨hEa, hEx, -⟩ := ents2 w1 (.cells #[.slice a.ao a.n a.c, .bool da] 33) (.cells #[.int .i64 Sx, .slice x.ao x.n x.c] 28)
  replace hB := hB.trans hg1'
  clear hg1' ha1 hb1
  have chEaa := box2_c0 hEa
  have chEab := box2_c1 hEa
  have chExa := box2_c0 hEx
  have chExb := box2_c1 hEx
  go_wp2_with fail
  generalize ((w1.alloc (.cells #[.slice a.ao a.n a.c, .bool da] 33)).alloc (.cells #[.int .i64 Sx, .slice x.ao x.n x.c] 28)) = W1 at *
  refine (zone t _).mono ?_
  rintro e w2 ⟨c, dc, y, Sy, rfl, hc, hy, hcn, hyn, hb2⟩
  have ha2 : Grew w2 (((w2.alloc (.cells #[.slice c.ao c.n c.c, .bool dc] 33)).alloc (.cells #[.int .i64 Sy, .slice y.ao y.n y.c] 28))) := ((Grew.refl w2).alloc (.cells #[.slice c.ao c.n c.c, .bool dc] 33)).alloc (.cells #[.int .i64 Sy, .slice y.ao y.n y.c] 28)
  have hg2' := (Grew.call (Grew.refl _) hb2).trans ha2
  replace ha := ha.grew hg2'
  replace hx := hx.grew hg2'
  replace hEa := ent_grew hg2' hEa
  replace hEx := ent_grew hg2' hEx
  replace hc := hc.grew ha2
  replace hy := hy.grew ha2
  obtain ⟨hEc, hEy, -⟩ := ents2 w2 (.cells #[.slice c.ao c.n c.c, .bool dc] 33) (.cells #[.int .i64 Sy, .slice y.ao y.n y.c] 28)
  replace hB := hB.trans hg2'
  clear hg2' ha2 hb2 chEaa chEab chExa chExb
  have chEaa := box2_c0 hEa
  have chEab := box2_c1 hEa
  have chExa := box2_c0 hEx
  have chExb := box2_c1 hEx
  have chEca := box2_c0 hEc
  have chEcb := box2_c1 hEc
  have chEya := box2_c0 hEy
  have chEyb := box2_c1 hEy
  go_wp2_with fail
  generalize ((w2.alloc (.cells #[.slice c.ao c.n c.c, .bool dc] 33)).alloc (.cells #[.int .i64 Sy, .slice y.ao y.n y.c] 28)) = W2 at *
  refine (zknown).mono ?_
  rintro e w3 ⟨rfl, hb3⟩
  have ha3 : Grew w3 (w3) := Grew.refl w3
  have hg3' := (Grew.call (Grew.refl _) hb3).trans ha3
  replace ha := ha.grew hg3'
  replace hx := hx.grew hg3'
  replace hc := hc.grew hg3'
  replace hy := hy.grew hg3'
  replace hEa := ent_grew hg3' hEa
  replace hEx := ent_grew hg3' hEx
  replace hEc := ent_grew hg3' hEc
  replace hEy := ent_grew hg3' hEy
  replace hB := hB.trans hg3'
  clear hg3' ha3 hb3 chEaa chEab chExa chExb chEca chEcb chEya chEyb
  have chEaa := box2_c0 hEa
  have chEab := box2_c1 hEa
  have chExa := box2_c0 hEx
  have chExb := box2_c1 hEx
  have chEca := box2_c0 hEc
  have chEcb := box2_c1 hEc
  have chEya := box2_c0 hEy
  have chEyb := box2_c1 hEy
  go_wp2_with fail
  refine (zknown).mono ?_
  rintro e w4 ⟨rfl, hb4⟩
  have ha4 : Grew w4 (w4) := Grew.refl w4
  have hg4' := (Grew.call (Grew.refl _) hb4).trans ha4
  replace ha := ha.grew hg4'
  replace hx := hx.grew hg4'
  replace hc := hc.grew hg4'
  replace hy := hy.grew hg4'
  replace hEa := ent_grew hg4' hEa
  replace hEx := ent_grew hg4' hEx
  replace hEc := ent_grew hg4' hEc
  replace hEy := ent_grew hg4' hEy
  replace hB := hB.trans hg4'
  clear hg4' ha4 hb4 chEaa chEab chExa chExb chEca chEcb chEya chEyb
  have chEaa := box2_c0 hEa
  have chEab := box2_c1 hEa
  have chExa := box2_c0 hEx
  have chExb := box2_c1 hEx
  have chEca := box2_c0 hEc
  have chEcb := box2_c1 hEc
  have chEya := box2_c0 hEy
  have chEyb := box2_c1 hEy
  go_wp2_with fail
  refine (zapart s _).mono ?_
  rintro e w5 ⟨rfl, hb5⟩
  have ha5 : Grew w5 (w5) := Grew.refl w5
  have hg5' := (Grew.call (Grew.refl _) hb5).trans ha5
  replace ha := ha.grew hg5'
  replace hx := hx.grew hg5'
  replace hc := hc.grew hg5'
  replace hy := hy.grew hg5'
  replace hEa := ent_grew hg5' hEa
  replace hEx := ent_grew hg5' hEx
  replace hEc := ent_grew hg5' hEc
  replace hEy := ent_grew hg5' hEy
  replace hB := hB.trans hg5'
  clear hg5' ha5 hb5 chEaa chEab chExa chExb chEca chEcb chEya chEyb
  have chEaa := box2_c0 hEa
  have chEab := box2_c1 hEa
  have chExa := box2_c0 hEx
  have chExb := box2_c1 hEx
  have chEca := box2_c0 hEc
  have chEcb := box2_c1 hEc
  have chEya := box2_c0 hEy
  have chEyb := box2_c1 hEy
  go_wp2_with fail
  refine (zapart t _).mono ?_
  rintro e w6 ⟨rfl, hb6⟩
  have ha6 : Grew w6 (w6) := Grew.refl w6
  have hg6' := (Grew.call (Grew.refl _) hb6).trans ha6
  replace ha := ha.grew hg6'
  replace hx := hx.grew hg6'
  replace hc := hc.grew hg6'
  replace hy := hy.grew hg6'
  replace hEa := ent_grew hg6' hEa
  replace hEx := ent_grew hg6' hEx
  replace hEc := ent_grew hg6' hEc
  replace hEy := ent_grew hg6' hEy
  replace hB := hB.trans hg6'
  clear hg6' ha6 hb6 chEaa chEab chExa chExb chEca chEcb chEya chEyb
  have chEaa := box2_c0 hEa
  have chEab := box2_c1 hEa
  have chExa := box2_c0 hEx
  have chExb := box2_c1 hEx
  have chEca := box2_c0 hEc
  have chEcb := box2_c1 hEc
  have chEya := box2_c0 hEy
  have chEyb := box2_c1 hEy
  go_wp2
  go_ret
  exact ⟨rfl, hB⟩

set_option maxRecDepth 100000 in
set_option maxHeartbeats 1600000 in
theorem zedAdds_yn {w : World} (s t : ByteArray) (hk1 : zok s = true) (hk2 : zok t = false) :
    Calls Try.prog 5 #[.string s, .string t] w fun e w' => e = .returned (.bool true) ∧ Below w.heap.size w w' := by
  have hB := Grew.refl w
  go_enter Try.func5, Try.ntmps5
  go_wp2_with fail
  refine (zone s _).mono ?_
  rintro e w1 ⟨a, da, x, Sx, rfl, ha, hx, han, hxn, hb1⟩
  rw [hk1]
  have ha1 : Grew w1 (((w1.alloc (.cells #[.slice a.ao a.n a.c, .bool da] 33)).alloc (.cells #[.int .i64 Sx, .slice x.ao x.n x.c] 28))) := ((Grew.refl w1).alloc (.cells #[.slice a.ao a.n a.c, .bool da] 33)).alloc (.cells #[.int .i64 Sx, .slice x.ao x.n x.c] 28)
  have hg1' := (Grew.call (Grew.refl _) hb1).trans ha1
  replace ha := ha.grew ha1
  replace hx := hx.grew ha1
  obtain ⟨hEa, hEx, -⟩ := ents2 w1 (.cells #[.slice a.ao a.n a.c, .bool da] 33) (.cells #[.int .i64 Sx, .slice x.ao x.n x.c] 28)
  replace hB := hB.trans hg1'
  clear hg1' ha1 hb1
  have chEaa := box2_c0 hEa
  have chEab := box2_c1 hEa
  have chExa := box2_c0 hEx
  have chExb := box2_c1 hEx
  go_wp2_with fail
  generalize ((w1.alloc (.cells #[.slice a.ao a.n a.c, .bool da] 33)).alloc (.cells #[.int .i64 Sx, .slice x.ao x.n x.c] 28)) = W1 at *
  refine (zone t _).mono ?_
  rintro e w2 ⟨c, dc, y, Sy, rfl, hc, hy, hcn, hyn, hb2⟩
  rw [hk2]
  have ha2 : Grew w2 (((w2.alloc (.cells #[.slice c.ao c.n c.c, .bool dc] 33)).alloc (.cells #[.int .i64 Sy, .slice y.ao y.n y.c] 28))) := ((Grew.refl w2).alloc (.cells #[.slice c.ao c.n c.c, .bool dc] 33)).alloc (.cells #[.int .i64 Sy, .slice y.ao y.n y.c] 28)
  have hg2' := (Grew.call (Grew.refl _) hb2).trans ha2
  replace ha := ha.grew hg2'
  replace hx := hx.grew hg2'
  replace hEa := ent_grew hg2' hEa
  replace hEx := ent_grew hg2' hEx
  replace hc := hc.grew ha2
  replace hy := hy.grew ha2
  obtain ⟨hEc, hEy, -⟩ := ents2 w2 (.cells #[.slice c.ao c.n c.c, .bool dc] 33) (.cells #[.int .i64 Sy, .slice y.ao y.n y.c] 28)
  replace hB := hB.trans hg2'
  clear hg2' ha2 hb2 chEaa chEab chExa chExb
  have chEaa := box2_c0 hEa
  have chEab := box2_c1 hEa
  have chExa := box2_c0 hEx
  have chExb := box2_c1 hEx
  have chEca := box2_c0 hEc
  have chEcb := box2_c1 hEc
  have chEya := box2_c0 hEy
  have chEyb := box2_c1 hEy
  go_wp2_with fail
  generalize ((w2.alloc (.cells #[.slice c.ao c.n c.c, .bool dc] 33)).alloc (.cells #[.int .i64 Sy, .slice y.ao y.n y.c] 28)) = W2 at *
  refine (zknown).mono ?_
  rintro e w3 ⟨rfl, hb3⟩
  have ha3 : Grew w3 (w3) := Grew.refl w3
  have hg3' := (Grew.call (Grew.refl _) hb3).trans ha3
  replace ha := ha.grew hg3'
  replace hx := hx.grew hg3'
  replace hc := hc.grew hg3'
  replace hy := hy.grew hg3'
  replace hEa := ent_grew hg3' hEa
  replace hEx := ent_grew hg3' hEx
  replace hEc := ent_grew hg3' hEc
  replace hEy := ent_grew hg3' hEy
  replace hB := hB.trans hg3'
  clear hg3' ha3 hb3 chEaa chEab chExa chExb chEca chEcb chEya chEyb
  have chEaa := box2_c0 hEa
  have chEab := box2_c1 hEa
  have chExa := box2_c0 hEx
  have chExb := box2_c1 hEx
  have chEca := box2_c0 hEc
  have chEcb := box2_c1 hEc
  have chEya := box2_c0 hEy
  have chEyb := box2_c1 hEy
  go_wp2_with fail
  refine (zknown).mono ?_
  rintro e w4 ⟨rfl, hb4⟩
  have ha4 : Grew w4 (w4) := Grew.refl w4
  have hg4' := (Grew.call (Grew.refl _) hb4).trans ha4
  replace ha := ha.grew hg4'
  replace hx := hx.grew hg4'
  replace hc := hc.grew hg4'
  replace hy := hy.grew hg4'
  replace hEa := ent_grew hg4' hEa
  replace hEx := ent_grew hg4' hEx
  replace hEc := ent_grew hg4' hEc
  replace hEy := ent_grew hg4' hEy
  replace hB := hB.trans hg4'
  clear hg4' ha4 hb4 chEaa chEab chExa chExb chEca chEcb chEya chEyb
  have chEaa := box2_c0 hEa
  have chEab := box2_c1 hEa
  have chExa := box2_c0 hEx
  have chExb := box2_c1 hEx
  have chEca := box2_c0 hEc
  have chEcb := box2_c1 hEc
  have chEya := box2_c0 hEy
  have chEyb := box2_c1 hEy
  go_wp2_with fail
  refine (zapart s _).mono ?_
  rintro e w5 ⟨rfl, hb5⟩
  have ha5 : Grew w5 (w5) := Grew.refl w5
  have hg5' := (Grew.call (Grew.refl _) hb5).trans ha5
  replace ha := ha.grew hg5'
  replace hx := hx.grew hg5'
  replace hc := hc.grew hg5'
  replace hy := hy.grew hg5'
  replace hEa := ent_grew hg5' hEa
  replace hEx := ent_grew hg5' hEx
  replace hEc := ent_grew hg5' hEc
  replace hEy := ent_grew hg5' hEy
  replace hB := hB.trans hg5'
  clear hg5' ha5 hb5 chEaa chEab chExa chExb chEca chEcb chEya chEyb
  have chEaa := box2_c0 hEa
  have chEab := box2_c1 hEa
  have chExa := box2_c0 hEx
  have chExb := box2_c1 hEx
  have chEca := box2_c0 hEc
  have chEcb := box2_c1 hEc
  have chEya := box2_c0 hEy
  have chEyb := box2_c1 hEy
  go_wp2_with fail
  refine (zapart t _).mono ?_
  rintro e w6 ⟨rfl, hb6⟩
  have ha6 : Grew w6 (w6) := Grew.refl w6
  have hg6' := (Grew.call (Grew.refl _) hb6).trans ha6
  replace ha := ha.grew hg6'
  replace hx := hx.grew hg6'
  replace hc := hc.grew hg6'
  replace hy := hy.grew hg6'
  replace hEa := ent_grew hg6' hEa
  replace hEx := ent_grew hg6' hEx
  replace hEc := ent_grew hg6' hEc
  replace hEy := ent_grew hg6' hEy
  replace hB := hB.trans hg6'
  clear hg6' ha6 hb6 chEaa chEab chExa chExb chEca chEcb chEya chEyb
  have chEaa := box2_c0 hEa
  have chEab := box2_c1 hEa
  have chExa := box2_c0 hEx
  have chExb := box2_c1 hEx
  have chEca := box2_c0 hEc
  have chEcb := box2_c1 hEc
  have chEya := box2_c0 hEy
  have chEyb := box2_c1 hEy
  go_wp2
  go_ret
  exact ⟨rfl, hB⟩

set_option maxRecDepth 100000 in
set_option maxHeartbeats 1600000 in
theorem zedAdds_yy {w : World} (s t : ByteArray) (hk1 : zok s = true) (hk2 : zok t = true) :
    Calls Try.prog 5 #[.string s, .string t] w fun e w' => e = .returned (.bool true) ∧ Below w.heap.size w w' := by
  have hB := Grew.refl w
  go_enter Try.func5, Try.ntmps5
  go_wp2_with fail
  refine (zone s _).mono ?_
  rintro e w1 ⟨a, da, x, Sx, rfl, ha, hx, han, hxn, hb1⟩
  rw [hk1]
  have ha1 : Grew w1 (((w1.alloc (.cells #[.slice a.ao a.n a.c, .bool da] 33)).alloc (.cells #[.int .i64 Sx, .slice x.ao x.n x.c] 28))) := ((Grew.refl w1).alloc (.cells #[.slice a.ao a.n a.c, .bool da] 33)).alloc (.cells #[.int .i64 Sx, .slice x.ao x.n x.c] 28)
  have hg1' := (Grew.call (Grew.refl _) hb1).trans ha1
  replace ha := ha.grew ha1
  replace hx := hx.grew ha1
  obtain ⟨hEa, hEx, -⟩ := ents2 w1 (.cells #[.slice a.ao a.n a.c, .bool da] 33) (.cells #[.int .i64 Sx, .slice x.ao x.n x.c] 28)
  replace hB := hB.trans hg1'
  clear hg1' ha1 hb1
  have chEaa := box2_c0 hEa
  have chEab := box2_c1 hEa
  have chExa := box2_c0 hEx
  have chExb := box2_c1 hEx
  go_wp2_with fail
  generalize ((w1.alloc (.cells #[.slice a.ao a.n a.c, .bool da] 33)).alloc (.cells #[.int .i64 Sx, .slice x.ao x.n x.c] 28)) = W1 at *
  refine (zone t _).mono ?_
  rintro e w2 ⟨c, dc, y, Sy, rfl, hc, hy, hcn, hyn, hb2⟩
  rw [hk2]
  have ha2 : Grew w2 (((w2.alloc (.cells #[.slice c.ao c.n c.c, .bool dc] 33)).alloc (.cells #[.int .i64 Sy, .slice y.ao y.n y.c] 28))) := ((Grew.refl w2).alloc (.cells #[.slice c.ao c.n c.c, .bool dc] 33)).alloc (.cells #[.int .i64 Sy, .slice y.ao y.n y.c] 28)
  have hg2' := (Grew.call (Grew.refl _) hb2).trans ha2
  replace ha := ha.grew hg2'
  replace hx := hx.grew hg2'
  replace hEa := ent_grew hg2' hEa
  replace hEx := ent_grew hg2' hEx
  replace hc := hc.grew ha2
  replace hy := hy.grew ha2
  obtain ⟨hEc, hEy, -⟩ := ents2 w2 (.cells #[.slice c.ao c.n c.c, .bool dc] 33) (.cells #[.int .i64 Sy, .slice y.ao y.n y.c] 28)
  replace hB := hB.trans hg2'
  clear hg2' ha2 hb2 chEaa chEab chExa chExb
  have chEaa := box2_c0 hEa
  have chEab := box2_c1 hEa
  have chExa := box2_c0 hEx
  have chExb := box2_c1 hEx
  have chEca := box2_c0 hEc
  have chEcb := box2_c1 hEc
  have chEya := box2_c0 hEy
  have chEyb := box2_c1 hEy
  go_wp2_with fail
  generalize ((w2.alloc (.cells #[.slice c.ao c.n c.c, .bool dc] 33)).alloc (.cells #[.int .i64 Sy, .slice y.ao y.n y.c] 28)) = W2 at *
  refine (zknown).mono ?_
  rintro e w3 ⟨rfl, hb3⟩
  have ha3 : Grew w3 (w3) := Grew.refl w3
  have hg3' := (Grew.call (Grew.refl _) hb3).trans ha3
  replace ha := ha.grew hg3'
  replace hx := hx.grew hg3'
  replace hc := hc.grew hg3'
  replace hy := hy.grew hg3'
  replace hEa := ent_grew hg3' hEa
  replace hEx := ent_grew hg3' hEx
  replace hEc := ent_grew hg3' hEc
  replace hEy := ent_grew hg3' hEy
  replace hB := hB.trans hg3'
  clear hg3' ha3 hb3 chEaa chEab chExa chExb chEca chEcb chEya chEyb
  have chEaa := box2_c0 hEa
  have chEab := box2_c1 hEa
  have chExa := box2_c0 hEx
  have chExb := box2_c1 hEx
  have chEca := box2_c0 hEc
  have chEcb := box2_c1 hEc
  have chEya := box2_c0 hEy
  have chEyb := box2_c1 hEy
  go_upto_region 5 with fail
  clear chEaa chEab chExa chExb chEca chEcb chEya chEyb
  refine wp_region_held_drew (S := (fun w' => Grew w3 w')) (by kernel_rfl) ?hSz388 (fun hHeld => ?restz388)
  case hSz388 => (try dsimp only); (first | exact (Grew.refl _).drew | exact Grew.call hHeld ‹Below _ _ _›)
  refine wpAnyH_take (i := 0) (oi := ?oiz389) (v := ?vz389) ?hiz389 (by kernel_rfl) (by kernel_rfl) (by kernel_rfl) ?hqz389 ?hyz389 hHeld ?restz389
  case hiz389 => simp only [List.getElem?_toArray, List.getElem?_cons_zero]; exact rfl
  case hqz389 => exact fun _ _ _ h => h
  case hyz389 => refine Or.inl ⟨by rfl, ?_⟩; intro w hSw; have phEa := ent_grew hSw hEa; have qhEa := box2_c0 phEa; have rhEa := box2_c1 phEa; have phEx := ent_grew hSw hEx; have qhEx := box2_c0 phEx; have rhEx := box2_c1 phEx; have phEc := ent_grew hSw hEc; have qhEc := box2_c0 phEc; have rhEc := box2_c1 phEc; have phEy := ent_grew hSw hEy; have qhEy := box2_c0 phEy; have rhEy := box2_c1 phEy; go_simp; try with_reducible rfl
  (try simp only [Act.put, List.setIfInBounds_toArray, List.set_cons_zero, List.set_cons_succ])
  refine wpAnyH_take (i := 1) (oi := ?oiz390) (v := ?vz390) ?hiz390 (by kernel_rfl) (by kernel_rfl) (by kernel_rfl) ?hqz390 ?hyz390 hHeld ?restz390
  case hiz390 => simp only [List.getElem?_toArray, List.getElem?_cons_succ, List.getElem?_cons_zero]; exact rfl
  case hqz390 => exact fun _ _ _ h => h
  case hyz390 => refine Or.inl ⟨by rfl, ?_⟩; intro w hSw; have phEa := ent_grew hSw hEa; have qhEa := box2_c0 phEa; have rhEa := box2_c1 phEa; have phEx := ent_grew hSw hEx; have qhEx := box2_c0 phEx; have rhEx := box2_c1 phEx; have phEc := ent_grew hSw hEc; have qhEc := box2_c0 phEc; have rhEc := box2_c1 phEc; have phEy := ent_grew hSw hEy; have qhEy := box2_c0 phEy; have rhEy := box2_c1 phEy; go_simp; try with_reducible rfl
  (try simp only [Act.put, List.setIfInBounds_toArray, List.set_cons_zero, List.set_cons_succ])
  refine wpAnyH_take (i := 3) (oi := ?oiz391) (v := ?vz391) ?hiz391 (by kernel_rfl) (by kernel_rfl) (by kernel_rfl) ?hqz391 ?hyz391 hHeld ?restz391
  case hiz391 => simp only [List.getElem?_toArray, List.getElem?_cons_succ, List.getElem?_cons_zero]; exact rfl
  case hqz391 => exact fun _ _ _ h => h
  case hyz391 => refine Or.inl ⟨by rfl, ?_⟩; intro w hSw; have phEa := ent_grew hSw hEa; have qhEa := box2_c0 phEa; have rhEa := box2_c1 phEa; have phEx := ent_grew hSw hEx; have qhEx := box2_c0 phEx; have rhEx := box2_c1 phEx; have phEc := ent_grew hSw hEc; have qhEc := box2_c0 phEc; have rhEc := box2_c1 phEc; have phEy := ent_grew hSw hEy; have qhEy := box2_c0 phEy; have rhEy := box2_c1 phEy; go_simp; try with_reducible rfl
  (try simp only [Act.put, List.setIfInBounds_toArray, List.set_cons_zero, List.set_cons_succ])
  refine wpAnyH_take (i := 4) (oi := ?oiz392) (v := ?vz392) ?hiz392 (by kernel_rfl) (by kernel_rfl) (by kernel_rfl) ?hqz392 ?hyz392 hHeld ?restz392
  case hiz392 => simp only [List.getElem?_toArray, List.getElem?_cons_succ, List.getElem?_cons_zero]; exact rfl
  case hqz392 => exact fun _ _ _ h => h
  case hyz392 => refine Or.inl ⟨by rfl, ?_⟩; intro w hSw; have phEa := ent_grew hSw hEa; have qhEa := box2_c0 phEa; have rhEa := box2_c1 phEa; have phEx := ent_grew hSw hEx; have qhEx := box2_c0 phEx; have rhEx := box2_c1 phEx; have phEc := ent_grew hSw hEc; have qhEc := box2_c0 phEc; have rhEc := box2_c1 phEc; have phEy := ent_grew hSw hEy; have qhEy := box2_c0 phEy; have rhEy := box2_c1 phEy; go_simp; try with_reducible rfl
  (try simp only [Act.put, List.setIfInBounds_toArray, List.set_cons_zero, List.set_cons_succ])
  refine wpAnyH_ready (rs := [2]) (by kernel_rfl) (by simp) ?_
  refine AllReadyH.cons (o := ?oiz393) ?hiz393 (fun K hK => ?stepz393) AllReadyH.nil
  case hiz393 => simp only [List.getElem?_toArray, List.getElem?_cons_succ, List.getElem?_cons_zero]; exact rfl
  go_simp
  (go_at_call 24; refine (zadd (ha.grew hHeld) (hc.grew hHeld) (by omega) (by omega)).mono ?_; rintro e v3 ⟨u3, d3, rfl, hu3, hun3, hv3⟩)
  refine hK.out _ _ ?hSz393 (fun hHeld' => ?restz393)
  case hSz393 => (try dsimp only); (first | exact (Grew.refl _).drew | exact Grew.call hHeld ‹Below _ _ _›)
  clear hK K hHeld
  have hHeld := hHeld'
  clear hHeld'
  (try simp only [Act.put, List.setIfInBounds_toArray, List.set_cons_zero, List.set_cons_succ])
  refine wpAnyH_ready (rs := [5]) (by kernel_rfl) (by simp) ?_
  refine AllReadyH.cons (o := ?oiz394) ?hiz394 (fun K hK => ?stepz394) AllReadyH.nil
  case hiz394 => simp only [List.getElem?_toArray, List.getElem?_cons_succ, List.getElem?_cons_zero]; exact rfl
  go_simp
  (go_at_call 18; refine (rzadd (hx.grew hHeld) (hy.grew hHeld) (by omega) (by omega)).mono ?_; rintro e v4 ⟨u4, d4, rfl, hu4, hun4, hv4⟩)
  refine hK.out _ _ ?hSz394 (fun hHeld' => ?restz394)
  case hSz394 => (try dsimp only); (first | exact (Grew.refl _).drew | exact Grew.call hHeld ‹Below _ _ _›)
  clear hK K hHeld
  have hHeld := hHeld'
  clear hHeld'
  (try simp only [Act.put, List.setIfInBounds_toArray, List.set_cons_zero, List.set_cons_succ])
  refine wpAnyH_ready (rs := [6]) (by kernel_rfl) (by simp) ?_
  refine AllReadyH.cons (o := ?oiz395) ?hiz395 (fun K hK => ?stepz395) AllReadyH.nil
  case hiz395 => simp only [List.getElem?_toArray, List.getElem?_cons_succ, List.getElem?_cons_zero]; exact rfl
  go_simp
  (go_at_call 19; refine (zsame (hu3.up hv4) hu4 (by omega) (by omega)).mono ?_; rintro e v4s ⟨rfl, hv4s⟩)
  refine hK.out _ _ ?hSz395 (fun hHeld' => ?restz395)
  case hSz395 => (try dsimp only); (first | exact (Grew.refl _).drew | exact Grew.call hHeld ‹Below _ _ _›)
  clear hK K hHeld
  have hHeld := hHeld'
  clear hHeld'
  (try simp only [Act.put, List.setIfInBounds_toArray, List.set_cons_zero, List.set_cons_succ])
  refine wpAnyH_take (i := 7) (oi := ?oiz396) (v := ?vz396) ?hiz396 (by kernel_rfl) (by kernel_rfl) (by kernel_rfl) ?hqz396 ?hyz396 hHeld ?restz396
  case hiz396 => simp only [List.getElem?_toArray, List.getElem?_cons_succ, List.getElem?_cons_zero]; exact rfl
  case hqz396 => exact fun _ _ _ h => h
  case hyz396 => refine Or.inl ⟨by rfl, ?_⟩; intro w hSw; (try dsimp only at hSw); go_simp; try with_reducible rfl
  (try simp only [Act.put, List.setIfInBounds_toArray, List.set_cons_zero, List.set_cons_succ])
  refine wpAnyH_take (i := 8) (oi := ?oiz397) (v := ?vz397) ?hiz397 (by kernel_rfl) (by kernel_rfl) (by kernel_rfl) ?hqz397 ?hyz397 hHeld ?restz397
  case hiz397 => simp only [List.getElem?_toArray, List.getElem?_cons_succ, List.getElem?_cons_zero]; exact rfl
  case hqz397 => exact fun _ _ _ h => h
  case hyz397 => refine Or.inl ⟨by rfl, ?_⟩; intro w hSw; have phEa := ent_grew hSw hEa; have qhEa := box2_c0 phEa; have rhEa := box2_c1 phEa; have phEx := ent_grew hSw hEx; have qhEx := box2_c0 phEx; have rhEx := box2_c1 phEx; have phEc := ent_grew hSw hEc; have qhEc := box2_c0 phEc; have rhEc := box2_c1 phEc; have phEy := ent_grew hSw hEy; have qhEy := box2_c0 phEy; have rhEy := box2_c1 phEy; go_simp; try with_reducible rfl
  (try simp only [Act.put, List.setIfInBounds_toArray, List.set_cons_zero, List.set_cons_succ])
  refine wpAnyH_take (i := 9) (oi := ?oiz398) (v := ?vz398) ?hiz398 (by kernel_rfl) (by kernel_rfl) (by kernel_rfl) ?hqz398 ?hyz398 hHeld ?restz398
  case hiz398 => simp only [List.getElem?_toArray, List.getElem?_cons_succ, List.getElem?_cons_zero]; exact rfl
  case hqz398 => exact fun _ _ _ h => h
  case hyz398 => refine Or.inl ⟨by rfl, ?_⟩; intro w hSw; have phEa := ent_grew hSw hEa; have qhEa := box2_c0 phEa; have rhEa := box2_c1 phEa; have phEx := ent_grew hSw hEx; have qhEx := box2_c0 phEx; have rhEx := box2_c1 phEx; have phEc := ent_grew hSw hEc; have qhEc := box2_c0 phEc; have rhEc := box2_c1 phEc; have phEy := ent_grew hSw hEy; have qhEy := box2_c0 phEy; have rhEy := box2_c1 phEy; go_simp; try with_reducible rfl
  (try simp only [Act.put, List.setIfInBounds_toArray, List.set_cons_zero, List.set_cons_succ])
  refine wpAnyH_take (i := 11) (oi := ?oiz399) (v := ?vz399) ?hiz399 (by kernel_rfl) (by kernel_rfl) (by kernel_rfl) ?hqz399 ?hyz399 hHeld ?restz399
  case hiz399 => simp only [List.getElem?_toArray, List.getElem?_cons_succ, List.getElem?_cons_zero]; exact rfl
  case hqz399 => exact fun _ _ _ h => h
  case hyz399 => refine Or.inl ⟨by rfl, ?_⟩; intro w hSw; have phEa := ent_grew hSw hEa; have qhEa := box2_c0 phEa; have rhEa := box2_c1 phEa; have phEx := ent_grew hSw hEx; have qhEx := box2_c0 phEx; have rhEx := box2_c1 phEx; have phEc := ent_grew hSw hEc; have qhEc := box2_c0 phEc; have rhEc := box2_c1 phEc; have phEy := ent_grew hSw hEy; have qhEy := box2_c0 phEy; have rhEy := box2_c1 phEy; go_simp; try with_reducible rfl
  (try simp only [Act.put, List.setIfInBounds_toArray, List.set_cons_zero, List.set_cons_succ])
  refine wpAnyH_take (i := 12) (oi := ?oiz400) (v := ?vz400) ?hiz400 (by kernel_rfl) (by kernel_rfl) (by kernel_rfl) ?hqz400 ?hyz400 hHeld ?restz400
  case hiz400 => simp only [List.getElem?_toArray, List.getElem?_cons_succ, List.getElem?_cons_zero]; exact rfl
  case hqz400 => exact fun _ _ _ h => h
  case hyz400 => refine Or.inl ⟨by rfl, ?_⟩; intro w hSw; have phEa := ent_grew hSw hEa; have qhEa := box2_c0 phEa; have rhEa := box2_c1 phEa; have phEx := ent_grew hSw hEx; have qhEx := box2_c0 phEx; have rhEx := box2_c1 phEx; have phEc := ent_grew hSw hEc; have qhEc := box2_c0 phEc; have rhEc := box2_c1 phEc; have phEy := ent_grew hSw hEy; have qhEy := box2_c0 phEy; have rhEy := box2_c1 phEy; go_simp; try with_reducible rfl
  (try simp only [Act.put, List.setIfInBounds_toArray, List.set_cons_zero, List.set_cons_succ])
  refine wpAnyH_ready (rs := [10]) (by kernel_rfl) (by simp) ?_
  refine AllReadyH.cons (o := ?oiz401) ?hiz401 (fun K hK => ?stepz401) AllReadyH.nil
  case hiz401 => simp only [List.getElem?_toArray, List.getElem?_cons_succ, List.getElem?_cons_zero]; exact rfl
  go_simp
  (go_at_call 25; refine (zsub (ha.grew hHeld) (hc.grew hHeld) (by omega) (by omega)).mono ?_; rintro e v5 ⟨u5, d5, rfl, hu5, hun5, hv5⟩)
  refine hK.out _ _ ?hSz401 (fun hHeld' => ?restz401)
  case hSz401 => (try dsimp only); (first | exact (Grew.refl _).drew | exact Grew.call hHeld ‹Below _ _ _›)
  clear hK K hHeld
  have hHeld := hHeld'
  clear hHeld'
  (try simp only [Act.put, List.setIfInBounds_toArray, List.set_cons_zero, List.set_cons_succ])
  refine wpAnyH_ready (rs := [13]) (by kernel_rfl) (by simp) ?_
  refine AllReadyH.cons (o := ?oiz402) ?hiz402 (fun K hK => ?stepz402) AllReadyH.nil
  case hiz402 => simp only [List.getElem?_toArray, List.getElem?_cons_succ, List.getElem?_cons_zero]; exact rfl
  go_simp
  (go_at_call 26; refine (rzsub (hx.grew hHeld) (hy.grew hHeld) (by omega) (by omega)).mono ?_; rintro e v6 ⟨u6, d6, rfl, hu6, hun6, hv6⟩)
  refine hK.out _ _ ?hSz402 (fun hHeld' => ?restz402)
  case hSz402 => (try dsimp only); (first | exact (Grew.refl _).drew | exact Grew.call hHeld ‹Below _ _ _›)
  clear hK K hHeld
  have hHeld := hHeld'
  clear hHeld'
  (try simp only [Act.put, List.setIfInBounds_toArray, List.set_cons_zero, List.set_cons_succ])
  refine wpAnyH_ready (rs := [14]) (by kernel_rfl) (by simp) ?_
  refine AllReadyH.cons (o := ?oiz403) ?hiz403 (fun K hK => ?stepz403) AllReadyH.nil
  case hiz403 => simp only [List.getElem?_toArray, List.getElem?_cons_succ, List.getElem?_cons_zero]; exact rfl
  go_simp
  (go_at_call 19; refine (zsame (hu5.up hv6) hu6 (by omega) (by omega)).mono ?_; rintro e v6s ⟨rfl, hv6s⟩)
  refine hK.out _ _ ?hSz403 (fun hHeld' => ?restz403)
  case hSz403 => (try dsimp only); (first | exact (Grew.refl _).drew | exact Grew.call hHeld ‹Below _ _ _›)
  clear hK K hHeld
  have hHeld := hHeld'
  clear hHeld'
  (try simp only [Act.put, List.setIfInBounds_toArray, List.set_cons_zero, List.set_cons_succ])
  refine wpAnyH_take (i := 15) (oi := ?oiz404) (v := ?vz404) ?hiz404 (by kernel_rfl) (by kernel_rfl) (by kernel_rfl) ?hqz404 ?hyz404 hHeld ?restz404
  case hiz404 => simp only [List.getElem?_toArray, List.getElem?_cons_succ, List.getElem?_cons_zero]; exact rfl
  case hqz404 => exact fun _ _ _ h => h
  case hyz404 => refine Or.inl ⟨by rfl, ?_⟩; intro w hSw; (try dsimp only at hSw); go_simp; try with_reducible rfl
  (try simp only [Act.put, List.setIfInBounds_toArray, List.set_cons_zero, List.set_cons_succ])
  refine wpAnyH_take (i := 16) (oi := ?oiz405) (v := ?vz405) ?hiz405 (by kernel_rfl) (by kernel_rfl) (by kernel_rfl) ?hqz405 ?hyz405 hHeld ?restz405
  case hiz405 => simp only [List.getElem?_toArray, List.getElem?_cons_succ, List.getElem?_cons_zero]; exact rfl
  case hqz405 => exact fun _ _ _ h => h
  case hyz405 => refine Or.inl ⟨by rfl, ?_⟩; intro w hSw; (try dsimp only at hSw); go_simp; try with_reducible rfl
  (try simp only [Act.put, List.setIfInBounds_toArray, List.set_cons_zero, List.set_cons_succ])
  refine wpAnyH_take (i := 17) (oi := ?oiz406) (v := ?vz406) ?hiz406 (by kernel_rfl) (by kernel_rfl) (by kernel_rfl) ?hqz406 ?hyz406 hHeld ?restz406
  case hiz406 => simp only [List.getElem?_toArray, List.getElem?_cons_succ, List.getElem?_cons_zero]; exact rfl
  case hqz406 => exact fun _ _ _ h => h
  case hyz406 => refine Or.inl ⟨by rfl, ?_⟩; intro w hSw; have phEa := ent_grew hSw hEa; have qhEa := box2_c0 phEa; have rhEa := box2_c1 phEa; have phEx := ent_grew hSw hEx; have qhEx := box2_c0 phEx; have rhEx := box2_c1 phEx; have phEc := ent_grew hSw hEc; have qhEc := box2_c0 phEc; have rhEc := box2_c1 phEc; have phEy := ent_grew hSw hEy; have qhEy := box2_c0 phEy; have rhEy := box2_c1 phEy; go_simp; try with_reducible rfl
  (try simp only [Act.put, List.setIfInBounds_toArray, List.set_cons_zero, List.set_cons_succ])
  refine wpAnyH_take (i := 19) (oi := ?oiz407) (v := ?vz407) ?hiz407 (by kernel_rfl) (by kernel_rfl) (by kernel_rfl) ?hqz407 ?hyz407 hHeld ?restz407
  case hiz407 => simp only [List.getElem?_toArray, List.getElem?_cons_succ, List.getElem?_cons_zero]; exact rfl
  case hqz407 => exact fun _ _ _ h => h
  case hyz407 => refine Or.inl ⟨by rfl, ?_⟩; intro w hSw; have phEa := ent_grew hSw hEa; have qhEa := box2_c0 phEa; have rhEa := box2_c1 phEa; have phEx := ent_grew hSw hEx; have qhEx := box2_c0 phEx; have rhEx := box2_c1 phEx; have phEc := ent_grew hSw hEc; have qhEc := box2_c0 phEc; have rhEc := box2_c1 phEc; have phEy := ent_grew hSw hEy; have qhEy := box2_c0 phEy; have rhEy := box2_c1 phEy; go_simp; try with_reducible rfl
  (try simp only [Act.put, List.setIfInBounds_toArray, List.set_cons_zero, List.set_cons_succ])
  refine wpAnyH_ready (rs := [18]) (by kernel_rfl) (by simp) ?_
  refine AllReadyH.cons (o := ?oiz408) ?hiz408 (fun K hK => ?stepz408) AllReadyH.nil
  case hiz408 => simp only [List.getElem?_toArray, List.getElem?_cons_succ, List.getElem?_cons_zero]; exact rfl
  go_simp
  (go_at_call 27; refine (zneg (ha.grew hHeld) (by omega)).mono ?_; rintro e v7 ⟨u7, d7, rfl, hu7, hun7, hv7⟩)
  refine hK.out _ _ ?hSz408 (fun hHeld' => ?restz408)
  case hSz408 => (try dsimp only); (first | exact (Grew.refl _).drew | exact Grew.call hHeld ‹Below _ _ _›)
  clear hK K hHeld
  have hHeld := hHeld'
  clear hHeld'
  (try simp only [Act.put, List.setIfInBounds_toArray, List.set_cons_zero, List.set_cons_succ])
  refine wpAnyH_ready (rs := [20]) (by kernel_rfl) (by simp) ?_
  refine AllReadyH.cons (o := ?oiz409) ?hiz409 (fun K hK => ?stepz409) AllReadyH.nil
  case hiz409 => simp only [List.getElem?_toArray, List.getElem?_cons_succ, List.getElem?_cons_zero]; exact rfl
  go_simp
  (go_at_call 28; refine (rzneg (hx.grew hHeld) (by omega)).mono ?_; rintro e v8 ⟨u8, d8, rfl, hu8, hun8, hv8⟩)
  refine hK.out _ _ ?hSz409 (fun hHeld' => ?restz409)
  case hSz409 => (try dsimp only); (first | exact (Grew.refl _).drew | exact Grew.call hHeld ‹Below _ _ _›)
  clear hK K hHeld
  have hHeld := hHeld'
  clear hHeld'
  (try simp only [Act.put, List.setIfInBounds_toArray, List.set_cons_zero, List.set_cons_succ])
  refine wpAnyH_ready (rs := [21]) (by kernel_rfl) (by simp) ?_
  refine AllReadyH.cons (o := ?oiz410) ?hiz410 (fun K hK => ?stepz410) AllReadyH.nil
  case hiz410 => simp only [List.getElem?_toArray, List.getElem?_cons_succ, List.getElem?_cons_zero]; exact rfl
  go_simp
  (go_at_call 19; refine (zsame (hu7.up hv8) hu8 (by omega) (by omega)).mono ?_; rintro e v8s ⟨rfl, hv8s⟩)
  refine hK.out _ _ ?hSz410 (fun hHeld' => ?restz410)
  case hSz410 => (try dsimp only); (first | exact (Grew.refl _).drew | exact Grew.call hHeld ‹Below _ _ _›)
  clear hK K hHeld
  have hHeld := hHeld'
  clear hHeld'
  (try simp only [Act.put, List.setIfInBounds_toArray, List.set_cons_zero, List.set_cons_succ])
  refine wpAnyH_take (i := 22) (oi := ?oiz411) (v := ?vz411) ?hiz411 (by kernel_rfl) (by kernel_rfl) (by kernel_rfl) ?hqz411 ?hyz411 hHeld ?restz411
  case hiz411 => simp only [List.getElem?_toArray, List.getElem?_cons_succ, List.getElem?_cons_zero]; exact rfl
  case hqz411 => exact fun _ _ _ h => h
  case hyz411 => refine Or.inl ⟨by rfl, ?_⟩; intro w hSw; (try dsimp only at hSw); go_simp; try with_reducible rfl
  (try simp only [Act.put, List.setIfInBounds_toArray, List.set_cons_zero, List.set_cons_succ])
  refine wpAnyH_take (i := 23) (oi := ?oiz412) (v := ?vz412) ?hiz412 (by kernel_rfl) (by kernel_rfl) (by kernel_rfl) ?hqz412 ?hyz412 hHeld ?restz412
  case hiz412 => simp only [List.getElem?_toArray, List.getElem?_cons_succ, List.getElem?_cons_zero]; exact rfl
  case hqz412 => exact fun _ _ _ h => h
  case hyz412 => refine Or.inl ⟨by rfl, ?_⟩; intro w hSw; (try dsimp only at hSw); go_simp; try with_reducible rfl
  (try simp only [Act.put, List.setIfInBounds_toArray, List.set_cons_zero, List.set_cons_succ])
  refine wpAnyH_take (i := 24) (oi := ?oiz413) (v := ?vz413) ?hiz413 (by kernel_rfl) (by kernel_rfl) (by kernel_rfl) ?hqz413 ?hyz413 hHeld ?restz413
  case hiz413 => simp only [List.getElem?_toArray, List.getElem?_cons_succ, List.getElem?_cons_zero]; exact rfl
  case hqz413 => exact fun _ _ _ h => h
  case hyz413 => refine Or.inl ⟨by rfl, ?_⟩; intro w hSw; have phEa := ent_grew hSw hEa; have qhEa := box2_c0 phEa; have rhEa := box2_c1 phEa; have phEx := ent_grew hSw hEx; have qhEx := box2_c0 phEx; have rhEx := box2_c1 phEx; have phEc := ent_grew hSw hEc; have qhEc := box2_c0 phEc; have rhEc := box2_c1 phEc; have phEy := ent_grew hSw hEy; have qhEy := box2_c0 phEy; have rhEy := box2_c1 phEy; go_simp; try with_reducible rfl
  (try simp only [Act.put, List.setIfInBounds_toArray, List.set_cons_zero, List.set_cons_succ])
  refine wpAnyH_take (i := 25) (oi := ?oiz414) (v := ?vz414) ?hiz414 (by kernel_rfl) (by kernel_rfl) (by kernel_rfl) ?hqz414 ?hyz414 hHeld ?restz414
  case hiz414 => simp only [List.getElem?_toArray, List.getElem?_cons_succ, List.getElem?_cons_zero]; exact rfl
  case hqz414 => exact fun _ _ _ h => h
  case hyz414 => refine Or.inl ⟨by rfl, ?_⟩; intro w hSw; have phEa := ent_grew hSw hEa; have qhEa := box2_c0 phEa; have rhEa := box2_c1 phEa; have phEx := ent_grew hSw hEx; have qhEx := box2_c0 phEx; have rhEx := box2_c1 phEx; have phEc := ent_grew hSw hEc; have qhEc := box2_c0 phEc; have rhEc := box2_c1 phEc; have phEy := ent_grew hSw hEy; have qhEy := box2_c0 phEy; have rhEy := box2_c1 phEy; go_simp; try with_reducible rfl
  (try simp only [Act.put, List.setIfInBounds_toArray, List.set_cons_zero, List.set_cons_succ])
  refine wpAnyH_take (i := 27) (oi := ?oiz415) (v := ?vz415) ?hiz415 (by kernel_rfl) (by kernel_rfl) (by kernel_rfl) ?hqz415 ?hyz415 hHeld ?restz415
  case hiz415 => simp only [List.getElem?_toArray, List.getElem?_cons_succ, List.getElem?_cons_zero]; exact rfl
  case hqz415 => exact fun _ _ _ h => h
  case hyz415 => refine Or.inl ⟨by rfl, ?_⟩; intro w hSw; have phEa := ent_grew hSw hEa; have qhEa := box2_c0 phEa; have rhEa := box2_c1 phEa; have phEx := ent_grew hSw hEx; have qhEx := box2_c0 phEx; have rhEx := box2_c1 phEx; have phEc := ent_grew hSw hEc; have qhEc := box2_c0 phEc; have rhEc := box2_c1 phEc; have phEy := ent_grew hSw hEy; have qhEy := box2_c0 phEy; have rhEy := box2_c1 phEy; go_simp; try with_reducible rfl
  (try simp only [Act.put, List.setIfInBounds_toArray, List.set_cons_zero, List.set_cons_succ])
  refine wpAnyH_take (i := 28) (oi := ?oiz416) (v := ?vz416) ?hiz416 (by kernel_rfl) (by kernel_rfl) (by kernel_rfl) ?hqz416 ?hyz416 hHeld ?restz416
  case hiz416 => simp only [List.getElem?_toArray, List.getElem?_cons_succ, List.getElem?_cons_zero]; exact rfl
  case hqz416 => exact fun _ _ _ h => h
  case hyz416 => refine Or.inl ⟨by rfl, ?_⟩; intro w hSw; have phEa := ent_grew hSw hEa; have qhEa := box2_c0 phEa; have rhEa := box2_c1 phEa; have phEx := ent_grew hSw hEx; have qhEx := box2_c0 phEx; have rhEx := box2_c1 phEx; have phEc := ent_grew hSw hEc; have qhEc := box2_c0 phEc; have rhEc := box2_c1 phEc; have phEy := ent_grew hSw hEy; have qhEy := box2_c0 phEy; have rhEy := box2_c1 phEy; go_simp; try with_reducible rfl
  (try simp only [Act.put, List.setIfInBounds_toArray, List.set_cons_zero, List.set_cons_succ])
  refine wpAnyH_ready (rs := [26]) (by kernel_rfl) (by simp) ?_
  refine AllReadyH.cons (o := ?oiz417) ?hiz417 (fun K hK => ?stepz417) AllReadyH.nil
  case hiz417 => simp only [List.getElem?_toArray, List.getElem?_cons_succ, List.getElem?_cons_zero]; exact rfl
  go_simp
  (go_at_call 29; refine (zcmp (ha.grew hHeld) (hc.grew hHeld) (by omega) (by omega)).mono ?_; rintro e v9 ⟨rfl, hv9⟩)
  refine hK.out _ _ ?hSz417 (fun hHeld' => ?restz417)
  case hSz417 => (try dsimp only); (first | exact (Grew.refl _).drew | exact Grew.call hHeld ‹Below _ _ _›)
  clear hK K hHeld
  have hHeld := hHeld'
  clear hHeld'
  (try simp only [Act.put, List.setIfInBounds_toArray, List.set_cons_zero, List.set_cons_succ])
  refine wpAnyH_ready (rs := [29]) (by kernel_rfl) (by simp) ?_
  refine AllReadyH.cons (o := ?oiz418) ?hiz418 (fun K hK => ?stepz418) AllReadyH.nil
  case hiz418 => simp only [List.getElem?_toArray, List.getElem?_cons_succ, List.getElem?_cons_zero]; exact rfl
  go_simp
  (go_at_call 30; refine (rzcmp (hx.grew hHeld) (hy.grew hHeld) (by omega) (by omega)).mono ?_; rintro e v10 ⟨rfl, hv10⟩)
  refine hK.out _ _ ?hSz418 (fun hHeld' => ?restz418)
  case hSz418 => (try dsimp only); (first | exact (Grew.refl _).drew | exact Grew.call hHeld ‹Below _ _ _›)
  clear hK K hHeld
  have hHeld := hHeld'
  clear hHeld'
  (try simp only [Act.put, List.setIfInBounds_toArray, List.set_cons_zero, List.set_cons_succ])
  refine wpAnyH_take (i := 30) (oi := ?oiz419) (v := ?vz419) ?hiz419 (by kernel_rfl) (by kernel_rfl) (by kernel_rfl) ?hqz419 ?hyz419 hHeld ?restz419
  case hiz419 => simp only [List.getElem?_toArray, List.getElem?_cons_succ, List.getElem?_cons_zero]; exact rfl
  case hqz419 => exact fun _ _ _ h => h
  case hyz419 => refine Or.inl ⟨by rfl, ?_⟩; intro w hSw; (try dsimp only at hSw); go_simp; try with_reducible rfl
  (try simp only [Act.put, List.setIfInBounds_toArray, List.set_cons_zero, List.set_cons_succ])
  refine wpAnyH_take (i := 31) (oi := ?oiz420) (v := ?vz420) ?hiz420 (by kernel_rfl) (by kernel_rfl) (by kernel_rfl) ?hqz420 ?hyz420 hHeld ?restz420
  case hiz420 => simp only [List.getElem?_toArray, List.getElem?_cons_succ, List.getElem?_cons_zero]; exact rfl
  case hqz420 => exact fun _ _ _ h => h
  case hyz420 => refine Or.inl ⟨by rfl, ?_⟩; intro w hSw; (try dsimp only at hSw); go_simp; try with_reducible rfl
  (try simp only [Act.put, List.setIfInBounds_toArray, List.set_cons_zero, List.set_cons_succ])
  refine wpAnyH_take (i := 32) (oi := ?oiz421) (v := ?vz421) ?hiz421 (by kernel_rfl) (by kernel_rfl) (by kernel_rfl) ?hqz421 ?hyz421 hHeld ?restz421
  case hiz421 => simp only [List.getElem?_toArray, List.getElem?_cons_succ, List.getElem?_cons_zero]; exact rfl
  case hqz421 => exact fun _ _ _ h => h
  case hyz421 => refine Or.inl ⟨by rfl, ?_⟩; intro w hSw; (try dsimp only at hSw); go_simp; try with_reducible rfl
  (try simp only [Act.put, List.setIfInBounds_toArray, List.set_cons_zero, List.set_cons_succ])
  refine wpAnyH_done (by kernel_rfl) ?_ _
  have hq9 := hB.trans hHeld
  clear hHeld
  go_wp2
  go_ret
  exact ⟨rfl, hq9⟩

theorem zedAdds_walk (s t : ByteArray) (_hs : s.size ≤ maxLen) (_ht : t.size ≤ maxLen) (w : World) :
    Calls Try.prog 5 #[.string s, .string t] w fun e w' => e = .returned (.bool true) ∧ Below w.heap.size w w' := by
  cases hk1 : zok s
  · exact zedAdds_n s t hk1
  · cases hk2 : zok t
    · exact zedAdds_yn s t hk1 hk2
    · exact zedAdds_yy s t hk1 hk2

end Go.Proofs.Ytnjohlimjbmkgaa

namespace Go.Proofs.Ytnjohlimjbmkgaa.zedAdds
open Go.ChangeShapes Go.WideShapes Go.ChangeAt Go.RowKit
open Go.ChangeMaps (open_string shut_string)

theorem own : ownKnob Try.prog.godebug = none := by kernel_rfl

set_option maxRecDepth 100000 in
theorem lifted (os : Os) (started : os.Started) (H : Type) (enc : TypeId × Value → H) :
    ReturnsInHanded {} Try.checked os 5 .any (Rows.zedAddsSpec.pre6 enc Try.prog Try.f5 Rows.zedAddsRow.domain false) (Rows.zedAddsSpec.post enc Try.prog Try.f5 false true false false) := by
  refine returnsInHanded_of_change (C := Try.checked) own started (by kernel_rfl) Try.func5
    (ChangeSpec.witness6 (enc := enc) (C := Try.checked) false ⟨#[], #[.string ⟨#[]⟩, .string ⟨#[]⟩], []⟩ 8 (by kernel_rfl) (by kernel_rfl) (by kernel_rfl) (by kernel_rfl)) ?_
  intro W base args ds gs before hval0 hW hcnd _
  have hval : ∀ (j : Nat) t v, Try.f5.params[j]? = some t → args[j]? = some v → Value.okWide Try.prog W .any base t v := hval0
  have hW' := hW
  obtain ⟨p, q, hA0, hV, rfl, hfz, hnd⟩ := hW
  have hA : DataW.TrodAll enc Try.prog W 0 (fun _ => true) true Try.f5.params.toList args.toList ds p := hA0
  rw [Try.params5] at hA hval
  obtain ⟨v0, vs0, d0, ds0, p0, q0, hargs, rfl, rfl, h0, r0⟩ := trodAll_cons hA
  obtain ⟨v1, vs1, d1, ds1, p1, q1, rfl, rfl, rfl, h1, r1⟩ := trodAll_cons r0
  obtain ⟨rfl, rfl, rfl⟩ := trodAll_nil r1
  obtain rfl : args = #[v0, v1] := by cases args; simp_all
  obtain ⟨rfl, rfl⟩ := trodVars_none hV
  obtain ⟨a0, rfl, rfl, rfl, w0⟩ := open_string Try.underlying9 (hval 0 9 v0 rfl rfl) h0
  obtain ⟨a1, rfl, rfl, rfl, w1⟩ := open_string Try.underlying9 (hval 1 9 v1 rfl rfl) h1
  clear hA0 hval0
  simp only [List.append_nil] at hW'
  refine (zedAdds_walk a0 a1 w0 w1 W).mono fun e W' ⟨he, hg⟩ => ?_
  subst he
  exact ⟨_, rfl, law_post hW' rfl (fun _ _ _ => (trodAll_cons_mk (shut_bool Try.underlying4 _) trodAll_mk0)) (fun sp _ => (trodAll_cons_mk (shut_string Try.underlying9 w0) (trodAll_cons_mk (shut_string Try.underlying9 w1) trodAll_mk0))) rfl hg⟩

theorem over : Rows.zedAddsRow.holds Try.pinned (OpenSpec.ofChange Rows.zedAddsSpec) :=
  OpenClaim.holds_of_wide 5 Try.f5 rfl rfl rfl rfl rfl rfl rfl ⟨rfl, rfl, rfl, rfl, rfl⟩ rfl rfl rfl rfl rfl (by kernel_rfl) Try.func5 (by kernel_rfl)
    (of_decide_eq_true (by kernel_rfl)) (by unfold Func.isWrapper; first | (rw [if_pos (by decide +kernel)]; kernel_rfl) | (rw [if_neg (by decide +kernel)]; exact ⟨rfl, rfl⟩))
    (fun os started H enc _ => lifted os started H enc)
end Go.Proofs.Ytnjohlimjbmkgaa.zedAdds
namespace Go.Proofs.Ytnjohlimjbmkgaa

/-- The statement. -/
theorem zedAdds_holds : Rows.ZedAddsSaid := zedAdds.over
end Go.Proofs.Ytnjohlimjbmkgaa
