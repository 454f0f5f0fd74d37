
/- OctantGroups: Turns one behind the other hang on their order alone; what Then tells of its parts is what Make makes of them; eight eighths are none, and two flips. No conditions. -/
import Derived.Test.YtabpaiboodllbaaGreatRows
import Derived.Test.YtabpaiboodllbaaGreatOt
import Derived.Test.YtabpaiboodllbaaGreatLawZ
import Derived.Test.YtabpaiboodllbaaGreatVs
import Derived.Test.YtabpaiboodllbaaGreatJn
set_option linter.unusedSimpArgs false
set_option linter.unusedVariables false
namespace Go.Proofs.YtabpaiboodllbaaGreat
open Go.RowKit Go.IntWalk
set_option maxHeartbeats 16000000 in
theorem p_octantGroups (f0 : Bool) (k0 : Int) (u0 : (Lit.int .i64 k0).wf = true) (m0 x0 y0 : ByteArray) (wm0 : m0.size ≤ 9223372036854775807) (wx0 : x0.size ≤ 9223372036854775807) (wy0 : y0.size ≤ 9223372036854775807) (f1 : Bool) (k1 : Int) (u1 : (Lit.int .i64 k1).wf = true) (m1 x1 y1 : ByteArray) (wm1 : m1.size ≤ 9223372036854775807) (wx1 : x1.size ≤ 9223372036854775807) (wy1 : y1.size ≤ 9223372036854775807) (f2 : Bool) (k2 : Int) (u2 : (Lit.int .i64 k2).wf = true) (m2 x2 y2 : ByteArray) (wm2 : m2.size ≤ 9223372036854775807) (wx2 : x2.size ≤ 9223372036854775807) (wy2 : y2.size ≤ 9223372036854775807) (px : Int) (w3 : (Lit.int .i64 px).wf = true) (py : Int) (w4 : (Lit.int .i64 py).wf = true) :
    PCalls tb Tryz.prog 8 [.agg #[.bool f0, .int .i64 k0, .string m0, .string x0, .string y0], .agg #[.bool f1, .int .i64 k1, .string m1, .string x1, .string y1], .agg #[.bool f2, .int .i64 k2, .string m2, .string x2, .string y2], .int .i64 px, .int .i64 py] [] (IsV (.bool true)) := by
  refine PCalls.of_W tbOk Tryz.func8 rfl (by kernel_rfl) ?_
  refine W.cl [] (by kernel_rfl) (p_wmade f0 k0 m0 x0 y0 wm0 wx0 wy0) ?_
  rintro _ _ ⟨g0, o0, a1, b1, rfl, hW0, rfl⟩
  refine W.cl [] (by kernel_rfl) (p_wmade f1 k1 m1 x1 y1 wm1 wx1 wy1) ?_
  rintro _ _ ⟨g1, o1, a2, b2, rfl, hW1, rfl⟩
  refine W.cl [] (by kernel_rfl) (p_wmade f2 k2 m2 x2 y2 wm2 wx2 wy2) ?_
  rintro _ _ ⟨g2, o2, a3, b3, rfl, hW2, rfl⟩
  refine W.cl [] (by kernel_rfl) (p_oknown) ?_
  rintro _ _ ⟨rfl, rfl⟩
  by_cases h0 : wayOk k0 m0 x0 y0 = false
  · refine W.dt [63] 67 (!wayOk k0 m0 x0 y0) (by kernel_rfl) (by rw [h0]; rfl) ?_
    refine W.cl [74, 71, 67] (by kernel_rfl) (p_oknown) ?_
    rintro _ _ ⟨rfl, rfl⟩
    exact W.r [] (.bool true) (by kernel_rfl) ⟨rfl, rfl⟩ ent0
  have h0 : wayOk k0 m0 x0 y0 = true := by simpa using h0
  refine W.df [63] 67 (!wayOk k0 m0 x0 y0) (by kernel_rfl) (by rw [h0]; rfl) ?_
  by_cases h1 : wayOk k1 m1 x1 y1 = false
  · refine W.dt [67] 71 (!wayOk k1 m1 x1 y1) (by kernel_rfl) (by rw [h1]; rfl) ?_
    refine W.cl [74, 71] (by kernel_rfl) (p_oknown) ?_
    rintro _ _ ⟨rfl, rfl⟩
    exact W.r [] (.bool true) (by kernel_rfl) ⟨rfl, rfl⟩ ent0
  have h1 : wayOk k1 m1 x1 y1 = true := by simpa using h1
  refine W.df [67] 71 (!wayOk k1 m1 x1 y1) (by kernel_rfl) (by rw [h1]; rfl) ?_
  by_cases h2 : wayOk k2 m2 x2 y2 = false
  · refine W.dt [71] 74 (!wayOk k2 m2 x2 y2) (by kernel_rfl) (by rw [h2]; rfl) ?_
    refine W.cl [74] (by kernel_rfl) (p_oknown) ?_
    rintro _ _ ⟨rfl, rfl⟩
    exact W.r [] (.bool true) (by kernel_rfl) ⟨rfl, rfl⟩ ent0
  have h2 : wayOk k2 m2 x2 y2 = true := by simpa using h2
  refine W.df [71] 74 (!wayOk k2 m2 x2 y2) (by kernel_rfl) (by rw [h2]; rfl) ?_
  refine W.code 999 ?_
  obtain ⟨eg0, eo0⟩ := hW0 h0
  obtain rfl := eg0.symm
  obtain rfl := eo0.symm
  refine W.kf a1 b1 (by kernel_rfl) h0 ?_
  have hb0 := wayOk_bits (f := f0) h0
  have hO0 : 0 ≤ (wayOn f0 k0 m0 x0 y0).o ∧ (wayOn f0 k0 m0 x0 y0).o ≤ 7 := ⟨(wayOk_spec h0).1, (wayOk_spec h0).2.1⟩
  obtain ⟨eg1, eo1⟩ := hW1 h1
  obtain rfl := eg1.symm
  obtain rfl := eo1.symm
  refine W.kf a2 b2 (by kernel_rfl) h1 ?_
  have hb1 := wayOk_bits (f := f1) h1
  have hO1 : 0 ≤ (wayOn f1 k1 m1 x1 y1).o ∧ (wayOn f1 k1 m1 x1 y1).o ≤ 7 := ⟨(wayOk_spec h1).1, (wayOk_spec h1).2.1⟩
  obtain ⟨eg2, eo2⟩ := hW2 h2
  obtain rfl := eg2.symm
  obtain rfl := eo2.symm
  refine W.kf a3 b3 (by kernel_rfl) h2 ?_
  have hb2 := wayOk_bits (f := f2) h2
  have hO2 : 0 ≤ (wayOn f2 k2 m2 x2 y2).o ∧ (wayOn f2 k2 m2 x2 y2).o ≤ 7 := ⟨(wayOk_spec h2).1, (wayOk_spec h2).2.1⟩
  have w3' := wf64 w3
  have w4' := wf64 w4
  have hA := allT_bits
  have hb1x : bO 2 ox1 := bO_dec (by decide +kernel)
  have hbf : bO 2 oxf := bO_dec (by decide +kernel)
  have hM : 0 < (On.then (wayOn f0 k0 m0 x0 y0) (wayOn f1 k1 m1 x1 y1)).mag.num.sign := On.then_pos (wayOk_spec h0).2.2 (wayOk_spec h1).2.2
  have hbM : bO 910 (⟨(On.then (wayOn f0 k0 m0 x0 y0) (wayOn f1 k1 m1 x1 y1)).f, (On.then (wayOn f0 k0 m0 x0 y0) (wayOn f1 k1 m1 x1 y1)).o, (On.then (wayOn f0 k0 m0 x0 y0) (wayOn f1 k1 m1 x1 y1)).mag, 0, 0, 0, 0⟩ : On) := ⟨(bO.then hb0 hb1).mag, bq.zero 910 (by omega), bq.zero 910 (by omega), bq.zero 910 (by omega), bq.zero 910 (by omega)⟩
  have ass := On.X_ap (On.assoc_ap (wayOn f0 k0 m0 x0 y0) (wayOn f1 k1 m1 x1 y1) (wayOn f2 k2 m2 x2 y2) hO0 hO1 hO2 ⟨px, 0, py, 0⟩)
  have mov := On.X_move (On.then (wayOn f0 k0 m0 x0 y0) (wayOn f1 k1 m1 x1 y1)) px py
  have hb_x5 := bO.then hb0 hb1
  refine W.cl [74] (by kernel_rfl) (p_othenT (wayOn f0 k0 m0 x0 y0) (wayOn f1 k1 m1 x1 y1) a1 a2 hb0 hb1 hO0 hO1) ?_
  rintro _ _ ⟨x5, rfl, rfl⟩
  have hb_x6 := bO.then hb_x5 hb2
  refine W.cl [] (by kernel_rfl) (p_othenT (On.then (wayOn f0 k0 m0 x0 y0) (wayOn f1 k1 m1 x1 y1)) (wayOn f2 k2 m2 x2 y2) x5 a3 hb_x5 hb2 (On.then_o (wayOn f0 k0 m0 x0 y0) (wayOn f1 k1 m1 x1 y1)) hO2) ?_
  rintro _ _ ⟨x6, rfl, rfl⟩
  refine W.cl [] (by kernel_rfl) (p_oatT (On.then (On.then (wayOn f0 k0 m0 x0 y0) (wayOn f1 k1 m1 x1 y1)) (wayOn f2 k2 m2 x2 y2)) x6 px py hb_x6 (On.then_o (On.then (wayOn f0 k0 m0 x0 y0) (wayOn f1 k1 m1 x1 y1)) (wayOn f2 k2 m2 x2 y2)) w3' w4') ?_
  rintro _ _ ⟨X7, Y7, rfl, rfl⟩
  have hb_x8 := bO.then hb1 hb2
  refine W.cl [] (by kernel_rfl) (p_othenT (wayOn f1 k1 m1 x1 y1) (wayOn f2 k2 m2 x2 y2) a2 a3 hb1 hb2 hO1 hO2) ?_
  rintro _ _ ⟨x8, rfl, rfl⟩
  have hb_x9 := bO.then hb0 hb_x8
  refine W.cl [] (by kernel_rfl) (p_othenT (wayOn f0 k0 m0 x0 y0) (On.then (wayOn f1 k1 m1 x1 y1) (wayOn f2 k2 m2 x2 y2)) a1 x8 hb0 hb_x8 hO0 (On.then_o (wayOn f1 k1 m1 x1 y1) (wayOn f2 k2 m2 x2 y2))) ?_
  rintro _ _ ⟨x9, rfl, rfl⟩
  refine W.cl [] (by kernel_rfl) (p_oatT (On.then (wayOn f0 k0 m0 x0 y0) (On.then (wayOn f1 k1 m1 x1 y1) (wayOn f2 k2 m2 x2 y2))) x9 px py hb_x9 (On.then_o (wayOn f0 k0 m0 x0 y0) (On.then (wayOn f1 k1 m1 x1 y1) (wayOn f2 k2 m2 x2 y2))) w3' w4') ?_
  rintro _ _ ⟨X10, Y10, rfl, rfl⟩
  refine W.cl [] (by kernel_rfl) (p_xcmp X7 X10 (by rfl) (by rfl)) ?_
  rintro _ _ ⟨rfl, rfl⟩
  refine W.cl [] (by kernel_rfl) (p_xcmp Y7 Y10 (by rfl) (by rfl)) ?_
  rintro _ _ ⟨rfl, rfl⟩
  have hb_x13 := bO.then hb0 hb1
  refine W.cl [] (by kernel_rfl) (p_othenT (wayOn f0 k0 m0 x0 y0) (wayOn f1 k1 m1 x1 y1) a1 a2 hb0 hb1 hO0 hO1) ?_
  rintro _ _ ⟨x13, rfl, rfl⟩
  refine W.cl [] (by kernel_rfl) (p_oflip (On.then (wayOn f0 k0 m0 x0 y0) (wayOn f1 k1 m1 x1 y1)).f (On.then (wayOn f0 k0 m0 x0 y0) (wayOn f1 k1 m1 x1 y1)).o x13.g x13.a x13.b x13.c x13.d) ?_
  rintro _ _ ⟨rfl, rfl⟩
  refine W.cx [] (by kernel_rfl) (fun I w _ hh => holds1 (Has.p (k := OF x13) (a := (_, (On.then (wayOn f0 k0 m0 x0 y0) (wayOn f1 k1 m1 x1 y1)))) inferInstance hh).1) (p_omag (On.then (wayOn f0 k0 m0 x0 y0) (wayOn f1 k1 m1 x1 y1)).f (On.then (wayOn f0 k0 m0 x0 y0) (wayOn f1 k1 m1 x1 y1)).o x13.g x13.a x13.b x13.c x13.d (V := (On.then (wayOn f0 k0 m0 x0 y0) (wayOn f1 k1 m1 x1 y1)))) ?_
  rintro _ _ ⟨g15, rfl, rfl⟩
  refine W.cl [] (by kernel_rfl) (p_ooct (On.then (wayOn f0 k0 m0 x0 y0) (wayOn f1 k1 m1 x1 y1)).f (On.then (wayOn f0 k0 m0 x0 y0) (wayOn f1 k1 m1 x1 y1)).o x13.g x13.a x13.b x13.c x13.d) ?_
  rintro _ _ ⟨rfl, rfl⟩
  refine W.cx [] (by kernel_rfl) (entQ0 (L' := 0)) (p_omake (On.then (wayOn f0 k0 m0 x0 y0) (wayOn f1 k1 m1 x1 y1)).f g15 (On.then (wayOn f0 k0 m0 x0 y0) (wayOn f1 k1 m1 x1 y1)).o nilQ nilQ (X := (On.then (wayOn f0 k0 m0 x0 y0) (wayOn f1 k1 m1 x1 y1)).mag) (Y := 0) (Z := 0) (On.then_o (wayOn f0 k0 m0 x0 y0) (wayOn f1 k1 m1 x1 y1)) hM) ?_
  rintro _ _ ⟨rfl, rfl⟩
  refine W.cl [] (by kernel_rfl) (p_oatT (On.then (wayOn f0 k0 m0 x0 y0) (wayOn f1 k1 m1 x1 y1)) x13 px py hb_x13 (On.then_o (wayOn f0 k0 m0 x0 y0) (wayOn f1 k1 m1 x1 y1)) w3' w4') ?_
  rintro _ _ ⟨X18, Y18, rfl, rfl⟩
  refine W.cl [] (by kernel_rfl) (p_oatT (⟨(On.then (wayOn f0 k0 m0 x0 y0) (wayOn f1 k1 m1 x1 y1)).f, (On.then (wayOn f0 k0 m0 x0 y0) (wayOn f1 k1 m1 x1 y1)).o, (On.then (wayOn f0 k0 m0 x0 y0) (wayOn f1 k1 m1 x1 y1)).mag, 0, 0, 0, 0⟩ : On) ⟨g15, nilQ, nilQ, nilQ, nilQ⟩ px py hbM (On.then_o (wayOn f0 k0 m0 x0 y0) (wayOn f1 k1 m1 x1 y1)) w3' w4') ?_
  rintro _ _ ⟨X19, Y19, rfl, rfl⟩
  refine W.cl [] (by kernel_rfl) (p_omove (On.then (wayOn f0 k0 m0 x0 y0) (wayOn f1 k1 m1 x1 y1)) x13) ?_
  rintro _ _ ⟨X20, Y20, rfl, rfl⟩
  refine W.cl [] (by kernel_rfl) (p_xadd X19 X20 (by rfl) (by rfl)) ?_
  rintro _ _ ⟨X21, rfl, rfl⟩
  refine W.cl [] (by kernel_rfl) (p_xadd Y19 Y20 (by rfl) (by rfl)) ?_
  rintro _ _ ⟨X22, rfl, rfl⟩
  refine W.cl [] (by kernel_rfl) (p_xcmp X18 X21 (by rfl) (by rfl)) ?_
  rintro _ _ ⟨rfl, rfl⟩
  refine W.cl [] (by kernel_rfl) (p_xcmp Y18 X22 (by rfl) (by rfl)) ?_
  rintro _ _ ⟨rfl, rfl⟩
  refine W.cl [] (by kernel_rfl) (p_zof 1 (by omega) (by omega)) ?_
  rintro _ _ ⟨u25, d25, rfl, rfl⟩   -- 1
  refine W.cl [] (by kernel_rfl) (p_qwhole u25 d25) ?_
  rintro _ _ ⟨n26, a26, m26, b26, rfl, rfl⟩   -- ((1 : Int) : Rat)
  refine W.cx [] (by kernel_rfl) (entQ0 (L' := 0)) (p_omake false ⟨n26, a26, m26, b26⟩ 1 nilQ nilQ (X := ((1 : Int) : Rat)) (Y := 0) (Z := 0) (by decide) (by decide +kernel)) ?_
  rintro _ _ ⟨rfl, rfl⟩
  refine W.cl [] (by kernel_rfl) (p_zof 1 (by omega) (by omega)) ?_
  rintro _ _ ⟨u28, d28, rfl, rfl⟩   -- 1
  refine W.cl [] (by kernel_rfl) (p_qwhole u28 d28) ?_
  rintro _ _ ⟨n29, a29, m29, b29, rfl, rfl⟩   -- ((1 : Int) : Rat)
  refine W.cx [] (by kernel_rfl) (entQ0 (L' := 0)) (p_omake true ⟨n29, a29, m29, b29⟩ 0 nilQ nilQ (X := ((1 : Int) : Rat)) (Y := 0) (Z := 0) (by decide) (by decide +kernel)) ?_
  rintro _ _ ⟨rfl, rfl⟩
  refine W.cl [] (by kernel_rfl) (p_othenK oxf oxf ⟨⟨n29, a29, m29, b29⟩, nilQ, nilQ, nilQ, nilQ⟩ ⟨⟨n29, a29, m29, b29⟩, nilQ, nilQ, nilQ, nilQ⟩ (k := 2) hA.1 (by decide) (by decide)) ?_
  rintro _ _ ⟨x31, rfl, rfl⟩
  refine W.unr [] 10 (by kernel_rfl) ?_
  refine W.cl [186] (by kernel_rfl) (p_othenK (allT 0) ox1 x31 ⟨⟨n26, a26, m26, b26⟩, nilQ, nilQ, nilQ, nilQ⟩ (k := 2) (hA.2.1 : bO 2 (allT 1)) (allT_o 0) (by decide)) ?_
  rintro _ _ ⟨x32, rfl, rfl⟩
  refine W.cl [186] (by kernel_rfl) (p_othenK (allT 1) ox1 x32 ⟨⟨n26, a26, m26, b26⟩, nilQ, nilQ, nilQ, nilQ⟩ (k := 2) (hA.2.2.1 : bO 2 (allT 2)) (allT_o 1) (by decide)) ?_
  rintro _ _ ⟨x33, rfl, rfl⟩
  refine W.cl [186] (by kernel_rfl) (p_othenK (allT 2) ox1 x33 ⟨⟨n26, a26, m26, b26⟩, nilQ, nilQ, nilQ, nilQ⟩ (k := 2) (hA.2.2.2.1 : bO 2 (allT 3)) (allT_o 2) (by decide)) ?_
  rintro _ _ ⟨x34, rfl, rfl⟩
  refine W.cl [186] (by kernel_rfl) (p_othenK (allT 3) ox1 x34 ⟨⟨n26, a26, m26, b26⟩, nilQ, nilQ, nilQ, nilQ⟩ (k := 2) (hA.2.2.2.2.1 : bO 2 (allT 4)) (allT_o 3) (by decide)) ?_
  rintro _ _ ⟨x35, rfl, rfl⟩
  refine W.cl [186] (by kernel_rfl) (p_othenK (allT 4) ox1 x35 ⟨⟨n26, a26, m26, b26⟩, nilQ, nilQ, nilQ, nilQ⟩ (k := 2) (hA.2.2.2.2.2.1 : bO 2 (allT 5)) (allT_o 4) (by decide)) ?_
  rintro _ _ ⟨x36, rfl, rfl⟩
  refine W.cl [186] (by kernel_rfl) (p_othenK (allT 5) ox1 x36 ⟨⟨n26, a26, m26, b26⟩, nilQ, nilQ, nilQ, nilQ⟩ (k := 2) (hA.2.2.2.2.2.2.1 : bO 2 (allT 6)) (allT_o 5) (by decide)) ?_
  rintro _ _ ⟨x37, rfl, rfl⟩
  refine W.cl [186] (by kernel_rfl) (p_othenK (allT 6) ox1 x37 ⟨⟨n26, a26, m26, b26⟩, nilQ, nilQ, nilQ, nilQ⟩ (k := 2) (hA.2.2.2.2.2.2.2.1 : bO 2 (allT 7)) (allT_o 6) (by decide)) ?_
  rintro _ _ ⟨x38, rfl, rfl⟩
  refine W.cl [186] (by kernel_rfl) (p_othenK (allT 7) ox1 x38 ⟨⟨n26, a26, m26, b26⟩, nilQ, nilQ, nilQ, nilQ⟩ (k := 2) (hA.2.2.2.2.2.2.2.2 : bO 2 (allT 8)) (allT_o 7) (by decide)) ?_
  rintro _ _ ⟨x39, rfl, rfl⟩
  refine W.dt [186] 194 ((Sn.sub (On.X (On.then (On.then (wayOn f0 k0 m0 x0 y0) (wayOn f1 k1 m1 x1 y1)) (wayOn f2 k2 m2 x2 y2)) px py) (On.X (On.then (wayOn f0 k0 m0 x0 y0) (On.then (wayOn f1 k1 m1 x1 y1) (wayOn f2 k2 m2 x2 y2))) px py)).sg == 0) (by kernel_rfl) (beq0 (Sn.sg_eq ass.1)) ?_
  refine W.dt [194] 198 ((Sn.sub (On.Y (On.then (On.then (wayOn f0 k0 m0 x0 y0) (wayOn f1 k1 m1 x1 y1)) (wayOn f2 k2 m2 x2 y2)) px py) (On.Y (On.then (wayOn f0 k0 m0 x0 y0) (On.then (wayOn f1 k1 m1 x1 y1) (wayOn f2 k2 m2 x2 y2))) px py)).sg == 0) (by kernel_rfl) (beq0 (Sn.sg_eq ass.2)) ?_
  refine W.dt [202, 198] 206 ((Sn.sub (On.X (On.then (wayOn f0 k0 m0 x0 y0) (wayOn f1 k1 m1 x1 y1)) px py) (Sn.add (On.X (⟨(On.then (wayOn f0 k0 m0 x0 y0) (wayOn f1 k1 m1 x1 y1)).f, (On.then (wayOn f0 k0 m0 x0 y0) (wayOn f1 k1 m1 x1 y1)).o, (On.then (wayOn f0 k0 m0 x0 y0) (wayOn f1 k1 m1 x1 y1)).mag, 0, 0, 0, 0⟩ : On) px py) (r2 ((On.then (wayOn f0 k0 m0 x0 y0) (wayOn f1 k1 m1 x1 y1))).a ((On.then (wayOn f0 k0 m0 x0 y0) (wayOn f1 k1 m1 x1 y1))).b))).sg == 0) (by kernel_rfl) (beq0 (Sn.sg_eq mov.1)) ?_
  refine W.dt [206] 210 ((Sn.sub (On.Y (On.then (wayOn f0 k0 m0 x0 y0) (wayOn f1 k1 m1 x1 y1)) px py) (Sn.add (On.Y (⟨(On.then (wayOn f0 k0 m0 x0 y0) (wayOn f1 k1 m1 x1 y1)).f, (On.then (wayOn f0 k0 m0 x0 y0) (wayOn f1 k1 m1 x1 y1)).o, (On.then (wayOn f0 k0 m0 x0 y0) (wayOn f1 k1 m1 x1 y1)).mag, 0, 0, 0, 0⟩ : On) px py) (r2 ((On.then (wayOn f0 k0 m0 x0 y0) (wayOn f1 k1 m1 x1 y1))).c ((On.then (wayOn f0 k0 m0 x0 y0) (wayOn f1 k1 m1 x1 y1))).d))).sg == 0) (by kernel_rfl) (beq0 (Sn.sg_eq mov.2)) ?_
  refine W.cl [210] (by kernel_rfl) (p_oatE (allT 8) x39 px py hA.2.2.2.2.2.2.2.2 (allT_o 8) w3' w4' (allT_id px py).1 (allT_id px py).2) ?_
  rintro _ _ ⟨X40, Y40, rfl, rfl⟩
  refine W.cl [210] (by kernel_rfl) (r_whole8 px py w3' w4') ?_
  rintro _ _ ⟨Y41, Z41, rfl, rfl⟩
  refine W.cl [210] (by kernel_rfl) (p_oalike X40 Y40 Y41 Z41) ?_
  rintro _ _ ⟨rfl, rfl⟩
  exact W.r [210] (.bool true) (by kernel_rfl) ⟨rfl, rfl⟩ ent0

end Go.Proofs.YtabpaiboodllbaaGreat
namespace Go.Proofs.YtabpaiboodllbaaGreat.octantGroups
open Go.ChangeShapes Go.WideShapes Go.ChangeAt Go.RowKit
open Go.ChangeMaps (open_string shut_string)

theorem closed : joinedFacts Tryz.pinned.checked.prog 8 Tryz.f8 Rows.octantGroupsSpec Rows.octantGroupsRow = true := by
  unfold joinedFacts
  rw [show Tryz.pinned.checked.prog.mayEnter = true from jn_enter, show (Rows.octantGroupsRow.lifted == Tryz.pinned.checked.prog.liftsFinal) = true from jn_lift, show (Tryz.pinned.checked.prog.make == some Rows.octantGroupsRow.make) = true from jn_make,
    show laidOutB Tryz.pinned.checked.prog = true from jn_laid, show mapsRowed Tryz.pinned.checked.prog = true from jn_maps]
  kernel_rfl

set_option maxRecDepth 100000 in
theorem lifted (os : Os) (started : os.Started) (H : Type) (enc : TypeId × Value → H) :
    ReturnsInHanded {} Tryz.checked os 8 .any (Rows.octantGroupsSpec.pre6 enc Tryz.prog Tryz.f8 Rows.octantGroupsRow.domain false) (Rows.octantGroupsSpec.post enc Tryz.prog Tryz.f8 false true false false) := by
  refine returnsInHanded_of_change (C := Tryz.checked) jn_own started (by kernel_rfl) Tryz.func8
    (ChangeSpec.witness6 (enc := enc) (C := Tryz.checked) false ⟨#[], #[.agg #[.bool false, .int .i64 0, .string ⟨#[]⟩, .string ⟨#[]⟩, .string ⟨#[]⟩], .agg #[.bool false, .int .i64 0, .string ⟨#[]⟩, .string ⟨#[]⟩, .string ⟨#[]⟩], .agg #[.bool false, .int .i64 0, .string ⟨#[]⟩, .string ⟨#[]⟩, .string ⟨#[]⟩], .int .i64 0, .int .i64 0], []⟩ 8 (by kernel_rfl) (by kernel_rfl) (by kernel_rfl) (by kernel_rfl)) ?_
  intro W base args ds gs before hval0 hW hcnd _
  have hval : ∀ (j : Nat) t v, Tryz.f8.params[j]? = some t → args[j]? = some v → Value.okWide Tryz.prog W .any base t v := hval0
  have hW' := hW
  obtain ⟨p, q, hA0, hV, rfl, hfz, hnd⟩ := hW
  have hA : DataW.TrodAll enc Tryz.prog W 0 (fun _ => true) true Tryz.f8.params.toList args.toList ds p := hA0
  have hK := hA
  rw [Tryz.params8] at hA hval hK
  obtain ⟨v0, vs0, d0, ds0, p0, q0, hargs, rfl, rfl, h0, r0⟩ := trodAll_cons hA
  obtain ⟨v1, vs1, d1, ds1, p1, q1, rfl, rfl, rfl, h1, r1⟩ := trodAll_cons r0
  obtain ⟨v2, vs2, d2, ds2, p2, q2, rfl, rfl, rfl, h2, r2⟩ := trodAll_cons r1
  obtain ⟨v3, vs3, d3, ds3, p3, q3, rfl, rfl, rfl, h3, r3⟩ := trodAll_cons r2
  obtain ⟨v4, vs4, d4, ds4, p4, q4, rfl, rfl, rfl, h4, r4⟩ := trodAll_cons r3
  obtain ⟨rfl, rfl, rfl⟩ := trodAll_nil r4
  obtain rfl : args = #[v0, v1, v2, v3, v4] := by cases args; simp_all
  obtain ⟨rfl, rfl⟩ := trodVars_none hV
  obtain ⟨f0, k0, m0, x0, y0, rfl, u0, wm0, wx0, wy0⟩ := open_way Tryz.underlying65 (by kernel_rfl) ⟨rfl, rfl⟩ ⟨rfl, rfl⟩ ⟨rfl, rfl⟩ ⟨rfl, rfl⟩ ⟨rfl, rfl⟩ Tryz.underlying4 (by kernel_rfl) Tryz.underlying3 (by kernel_rfl) Tryz.underlying9 (by kernel_rfl) (hval 0 65 v0 rfl rfl) h0
  obtain ⟨f1, k1, m1, x1, y1, rfl, u1, wm1, wx1, wy1⟩ := open_way Tryz.underlying65 (by kernel_rfl) ⟨rfl, rfl⟩ ⟨rfl, rfl⟩ ⟨rfl, rfl⟩ ⟨rfl, rfl⟩ ⟨rfl, rfl⟩ Tryz.underlying4 (by kernel_rfl) Tryz.underlying3 (by kernel_rfl) Tryz.underlying9 (by kernel_rfl) (hval 1 65 v1 rfl rfl) h1
  obtain ⟨f2, k2, m2, x2, y2, rfl, u2, wm2, wx2, wy2⟩ := open_way Tryz.underlying65 (by kernel_rfl) ⟨rfl, rfl⟩ ⟨rfl, rfl⟩ ⟨rfl, rfl⟩ ⟨rfl, rfl⟩ ⟨rfl, rfl⟩ Tryz.underlying4 (by kernel_rfl) Tryz.underlying3 (by kernel_rfl) Tryz.underlying9 (by kernel_rfl) (hval 2 65 v2 rfl rfl) h2
  obtain ⟨a3, rfl, rfl, rfl, w3⟩ := open_int Tryz.underlying3 (hval 3 3 v3 rfl rfl) h3
  obtain ⟨a4, rfl, rfl, rfl, w4⟩ := open_int Tryz.underlying3 (hval 4 3 v4 rfl rfl) h4
  clear hA0 hval0
  simp only [List.append_nil] at hW' hK
  refine (law_calls' (p_octantGroups f0 k0 u0 m0 x0 y0 wm0 wx0 wy0 f1 k1 u1 m1 x1 y1 wm1 wx1 wy1 f2 k2 u2 m2 x2 y2 wm2 wx2 wy2 a3 w3 a4 w4) W (Holds.nil _ _)).mono fun e W' ⟨he, hg⟩ => ?_
  subst he
  exact ⟨_, rfl, law_post hW' rfl (fun _ _ _ => (trodAll_cons_mk (shut_bool Tryz.underlying4 _) trodAll_mk0)) (fun sp hsp => trodAll_stays jn_laid hg (by kernel_rfl) hK (fun x hx => hW'.lt x (by first | exact hx | simpa using hx)) (fun x hx => hsp x (by first | exact hx | simpa using hx))) rfl hg⟩

theorem over : Rows.octantGroupsRow.holds Tryz.pinned (OpenSpec.ofChange Rows.octantGroupsSpec) :=
  OpenClaim.holds_of_wide 8 Tryz.f8 rfl rfl rfl rfl rfl rfl rfl ⟨rfl, rfl, rfl, rfl, rfl⟩ rfl rfl rfl rfl rfl (by kernel_rfl) Tryz.func8 closed
    (of_decide_eq_true (by kernel_rfl)) (by unfold Func.isWrapper; first | (rw [if_pos (by decide +kernel)]; kernel_rfl) | (rw [if_neg (by decide +kernel)]; exact ⟨rfl, rfl⟩))
    (fun os started H enc _ => lifted os started H enc)
end Go.Proofs.YtabpaiboodllbaaGreat.octantGroups
namespace Go.Proofs.YtabpaiboodllbaaGreat

/-- The statement. -/
theorem octantGroups_holds : Rows.OctantGroupsSaid := octantGroups.over
end Go.Proofs.YtabpaiboodllbaaGreat
