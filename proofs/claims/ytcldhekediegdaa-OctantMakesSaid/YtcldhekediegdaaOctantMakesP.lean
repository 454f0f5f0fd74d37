
/- The law OctantMakes holds: a turn has the parts of which it was made, one that may not be is refused, and the zero value leaves all where it is, for all arguments. -/
import Derived.Test.YtcldhekediegdaaRows
import Derived.Test.YtcldhekediegdaaOd
import Derived.Test.YtcldhekediegdaaLawZ
import Derived.Test.YtcldhekediegdaaVs
import Derived.Test.YtcldhekediegdaaJn
set_option linter.unusedSimpArgs false
set_option linter.unusedVariables false
namespace Go.Proofs.Ytcldhekediegdaa
open Go.RowKit Go.IntWalk
set_option maxHeartbeats 8000000 in
theorem p_octantMakes (f : Bool) (g : Int) (hg : (Lit.int .i64 g).wf = true) (k : Int) (hk : (Lit.int .i64 k).wf = true) (x : Int) (hx : (Lit.int .i64 x).wf = true) (y : Int) (hy : (Lit.int .i64 y).wf = true) :
    PCalls tb Try.prog 3 [.bool f, .int .i64 g, .int .i64 k, .int .i64 x, .int .i64 y] [] (IsV (.bool true)) := by
  have hg1 := wf64 hg
  have hk1 := wf64 hk
  have hx1 := wf64 hx
  have hy1 := wf64 hy
  have hsg : ((g : Int) : Rat).num.sign = g.sign := rfl
  refine PCalls.of_W tbOk Try.func3 rfl (by kernel_rfl) ?_
  refine W.more (Δ := [QG nilQ (0, 0)]) rfl entQ0 ?_
  refine W.cl [] (by kernel_rfl) (p_zof g (by omega) (by omega)) ?_
  rintro _ _ ⟨u1, d1, rfl, rfl⟩
  refine W.cl [] (by kernel_rfl) (p_qwhole u1 d1) ?_
  rintro _ _ ⟨n2, a2, m2, b2, rfl, rfl⟩
  refine W.cl [] (by kernel_rfl) (p_zof x (by omega) (by omega)) ?_
  rintro _ _ ⟨u3, d3, rfl, rfl⟩
  refine W.cl [] (by kernel_rfl) (p_qwhole u3 d3) ?_
  rintro _ _ ⟨n4, a4, m4, b4, rfl, rfl⟩
  refine W.cl [] (by kernel_rfl) (p_zof y (by omega) (by omega)) ?_
  rintro _ _ ⟨u5, d5, rfl, rfl⟩
  refine W.cl [] (by kernel_rfl) (p_qwhole u5 d5) ?_
  rintro _ _ ⟨n6, a6, m6, b6, rfl, rfl⟩
  by_cases hk0 : k < 0
  · refine W.cl [] (by kernel_rfl) (p_omake1 f ⟨n2, a2, m2, b2⟩ k ⟨n4, a4, m4, b4⟩ ⟨n6, a6, m6, b6⟩ hk0) ?_
    rintro _ _ ⟨rfl, rfl⟩
    refine W.cl [] (by kernel_rfl) p_oknown ?_
    rintro _ _ ⟨rfl, rfl⟩
    refine W.cl [35, 39, 44, 50, 60, 68] (by kernel_rfl) (p_oflip false 0 nilQ nilQ nilQ nilQ nilQ) ?_
    rintro _ _ ⟨rfl, rfl⟩
    refine W.cl [35, 39, 44, 50, 60, 68] (by kernel_rfl) (p_ooct false 0 nilQ nilQ nilQ nilQ nilQ) ?_
    rintro _ _ ⟨rfl, rfl⟩
    refine W.cx [35, 39, 44, 50, 60, 68] (Γ' := [QG nilQ (0, ox0.g)]) (by kernel_rfl) entQ0 (p_omag false 0 nilQ nilQ nilQ nilQ nilQ (V := ox0)) ?_
    rintro _ _ ⟨g11, rfl, rfl⟩
    refine W.cl [35, 39, 44, 50, 60, 68] (by kernel_rfl) (p_qtext g11.n g11.a g11.m g11.b) ?_
    rintro _ _ ⟨rfl, rfl⟩
    refine W.df [35, 39, 44] 50 (!((qtxt ox0.mag).toList == (⟨#[49]⟩ : ByteArray).toList)) (by kernel_rfl) (by decide +kernel) ?_
    refine W.cx [35, 39, 44, 50, 60, 68] (Γ' := [OF ⟨nilQ, nilQ, nilQ, nilQ, nilQ⟩ (0, ox0)]) (by kernel_rfl) (entO rfl rfl rfl rfl rfl (by omega)) (p_oat ox0 ⟨nilQ, nilQ, nilQ, nilQ, nilQ⟩ x y (by decide) (by omega) (by omega)) ?_
    rintro _ _ ⟨X13, Y13, rfl, rfl⟩
    rw [(ox0_at _ _).1, (ox0_at _ _).2]
    refine W.cl [35, 39, 44, 50, 60, 68] (by kernel_rfl) (r_whole8 x y (by omega) (by omega)) ?_
    rintro _ _ ⟨Y14, Z14, rfl, rfl⟩
    refine W.cl [35, 39, 44, 50, 60, 68] (by kernel_rfl) (p_oalike X13 Y13 Y14 Z14) ?_
    rintro _ _ ⟨rfl, rfl⟩
    refine W.cl [35, 39, 44, 50, 60, 68] (by kernel_rfl) (p_owhole8 x y (by omega) (by omega)) ?_
    rintro _ _ ⟨X16, Y16, rfl, rfl⟩
    refine W.cl [35, 39, 44, 50, 60, 68] (by kernel_rfl) (r_whole8 x y (by omega) (by omega)) ?_
    rintro _ _ ⟨Y17, Z17, rfl, rfl⟩
    refine W.cl [35, 39, 44, 50, 60, 68] (by kernel_rfl) (p_oalike X16 Y16 Y17 Z17) ?_
    rintro _ _ ⟨rfl, rfl⟩
    refine W.dt [35, 39, 44, 50, 60, 68] 72 (decide (k < 0)) (by kernel_rfl) (by rw [decide_eq_true_iff]; exact hk0) ?_
    exact W.r [35, 39, 44, 50, 60, 68, 72, 69] (.bool true) (by kernel_rfl) ⟨rfl, rfl⟩ ent0
  by_cases hk7 : 7 < k
  · refine W.cl [] (by kernel_rfl) (p_omake2 f ⟨n2, a2, m2, b2⟩ k ⟨n4, a4, m4, b4⟩ ⟨n6, a6, m6, b6⟩ hk7) ?_
    rintro _ _ ⟨rfl, rfl⟩
    refine W.cl [] (by kernel_rfl) p_oknown ?_
    rintro _ _ ⟨rfl, rfl⟩
    refine W.cl [35, 39, 44, 50, 60, 68] (by kernel_rfl) (p_oflip false 0 nilQ nilQ nilQ nilQ nilQ) ?_
    rintro _ _ ⟨rfl, rfl⟩
    refine W.cl [35, 39, 44, 50, 60, 68] (by kernel_rfl) (p_ooct false 0 nilQ nilQ nilQ nilQ nilQ) ?_
    rintro _ _ ⟨rfl, rfl⟩
    refine W.cx [35, 39, 44, 50, 60, 68] (Γ' := [QG nilQ (0, ox0.g)]) (by kernel_rfl) entQ0 (p_omag false 0 nilQ nilQ nilQ nilQ nilQ (V := ox0)) ?_
    rintro _ _ ⟨g11, rfl, rfl⟩
    refine W.cl [35, 39, 44, 50, 60, 68] (by kernel_rfl) (p_qtext g11.n g11.a g11.m g11.b) ?_
    rintro _ _ ⟨rfl, rfl⟩
    refine W.df [35, 39, 44] 50 (!((qtxt ox0.mag).toList == (⟨#[49]⟩ : ByteArray).toList)) (by kernel_rfl) (by decide +kernel) ?_
    refine W.cx [35, 39, 44, 50, 60, 68] (Γ' := [OF ⟨nilQ, nilQ, nilQ, nilQ, nilQ⟩ (0, ox0)]) (by kernel_rfl) (entO rfl rfl rfl rfl rfl (by omega)) (p_oat ox0 ⟨nilQ, nilQ, nilQ, nilQ, nilQ⟩ x y (by decide) (by omega) (by omega)) ?_
    rintro _ _ ⟨X13, Y13, rfl, rfl⟩
    rw [(ox0_at _ _).1, (ox0_at _ _).2]
    refine W.cl [35, 39, 44, 50, 60, 68] (by kernel_rfl) (r_whole8 x y (by omega) (by omega)) ?_
    rintro _ _ ⟨Y14, Z14, rfl, rfl⟩
    refine W.cl [35, 39, 44, 50, 60, 68] (by kernel_rfl) (p_oalike X13 Y13 Y14 Z14) ?_
    rintro _ _ ⟨rfl, rfl⟩
    refine W.cl [35, 39, 44, 50, 60, 68] (by kernel_rfl) (p_owhole8 x y (by omega) (by omega)) ?_
    rintro _ _ ⟨X16, Y16, rfl, rfl⟩
    refine W.cl [35, 39, 44, 50, 60, 68] (by kernel_rfl) (r_whole8 x y (by omega) (by omega)) ?_
    rintro _ _ ⟨Y17, Z17, rfl, rfl⟩
    refine W.cl [35, 39, 44, 50, 60, 68] (by kernel_rfl) (p_oalike X16 Y16 Y17 Z17) ?_
    rintro _ _ ⟨rfl, rfl⟩
    refine W.df [35, 39, 44, 50, 60, 68] 72 (decide (k < 0)) (by kernel_rfl) (by rw [decide_eq_false_iff_not]; exact hk0) ?_
    refine W.dt [35, 39, 44, 50, 60, 68, 72] 69 (decide (k > 7)) (by kernel_rfl) (by rw [decide_eq_true_iff]; omega) ?_
    exact W.r [35, 39, 44, 50, 60, 68, 72, 69] (.bool true) (by kernel_rfl) ⟨rfl, rfl⟩ ent0
  by_cases hg0 : g ≤ 0
  · refine W.cl [] (by kernel_rfl) (p_omake3 f ⟨n2, a2, m2, b2⟩ k ⟨n4, a4, m4, b4⟩ ⟨n6, a6, m6, b6⟩ (by omega) (by rw [hsg]; rcases Int.lt_or_eq_of_le hg0 with h | h; rw [Int.sign_eq_neg_one_of_neg h]; omega; rw [h]; decide)) ?_
    rintro _ _ ⟨rfl, rfl⟩
    refine W.cl [] (by kernel_rfl) p_oknown ?_
    rintro _ _ ⟨rfl, rfl⟩
    refine W.cl [35, 39, 44, 50, 60, 68] (by kernel_rfl) (p_oflip false 0 nilQ nilQ nilQ nilQ nilQ) ?_
    rintro _ _ ⟨rfl, rfl⟩
    refine W.cl [35, 39, 44, 50, 60, 68] (by kernel_rfl) (p_ooct false 0 nilQ nilQ nilQ nilQ nilQ) ?_
    rintro _ _ ⟨rfl, rfl⟩
    refine W.cx [35, 39, 44, 50, 60, 68] (Γ' := [QG nilQ (0, ox0.g)]) (by kernel_rfl) entQ0 (p_omag false 0 nilQ nilQ nilQ nilQ nilQ (V := ox0)) ?_
    rintro _ _ ⟨g11, rfl, rfl⟩
    refine W.cl [35, 39, 44, 50, 60, 68] (by kernel_rfl) (p_qtext g11.n g11.a g11.m g11.b) ?_
    rintro _ _ ⟨rfl, rfl⟩
    refine W.df [35, 39, 44] 50 (!((qtxt ox0.mag).toList == (⟨#[49]⟩ : ByteArray).toList)) (by kernel_rfl) (by decide +kernel) ?_
    refine W.cx [35, 39, 44, 50, 60, 68] (Γ' := [OF ⟨nilQ, nilQ, nilQ, nilQ, nilQ⟩ (0, ox0)]) (by kernel_rfl) (entO rfl rfl rfl rfl rfl (by omega)) (p_oat ox0 ⟨nilQ, nilQ, nilQ, nilQ, nilQ⟩ x y (by decide) (by omega) (by omega)) ?_
    rintro _ _ ⟨X13, Y13, rfl, rfl⟩
    rw [(ox0_at _ _).1, (ox0_at _ _).2]
    refine W.cl [35, 39, 44, 50, 60, 68] (by kernel_rfl) (r_whole8 x y (by omega) (by omega)) ?_
    rintro _ _ ⟨Y14, Z14, rfl, rfl⟩
    refine W.cl [35, 39, 44, 50, 60, 68] (by kernel_rfl) (p_oalike X13 Y13 Y14 Z14) ?_
    rintro _ _ ⟨rfl, rfl⟩
    refine W.cl [35, 39, 44, 50, 60, 68] (by kernel_rfl) (p_owhole8 x y (by omega) (by omega)) ?_
    rintro _ _ ⟨X16, Y16, rfl, rfl⟩
    refine W.cl [35, 39, 44, 50, 60, 68] (by kernel_rfl) (r_whole8 x y (by omega) (by omega)) ?_
    rintro _ _ ⟨Y17, Z17, rfl, rfl⟩
    refine W.cl [35, 39, 44, 50, 60, 68] (by kernel_rfl) (p_oalike X16 Y16 Y17 Z17) ?_
    rintro _ _ ⟨rfl, rfl⟩
    refine W.df [35, 39, 44, 50, 60, 68] 72 (decide (k < 0)) (by kernel_rfl) (by rw [decide_eq_false_iff_not]; exact hk0) ?_
    refine W.df [35, 39, 44, 50, 60, 68, 72] 69 (decide (k > 7)) (by kernel_rfl) (by rw [decide_eq_false_iff_not]; omega) ?_
    refine W.dt [35, 39, 44, 50, 60, 68, 72, 69] 78 (decide (g ≤ 0)) (by kernel_rfl) (by rw [decide_eq_true_iff]; exact hg0) ?_
    exact W.r [35, 39, 44, 50, 60, 68, 72, 69, 78, 85] (.bool true) (by kernel_rfl) ⟨rfl, rfl⟩ ent0
  refine W.cl [] (by kernel_rfl) (p_omake f ⟨n2, a2, m2, b2⟩ k ⟨n4, a4, m4, b4⟩ ⟨n6, a6, m6, b6⟩ (by omega) (by rw [hsg, Int.sign_eq_one_of_pos (by omega)]; decide)) ?_
  rintro _ _ ⟨rfl, rfl⟩
  refine W.cl [] (by kernel_rfl) p_oknown ?_
  rintro _ _ ⟨rfl, rfl⟩
  refine W.cl [35, 39, 44, 50, 60, 68] (by kernel_rfl) (p_oflip false 0 nilQ nilQ nilQ nilQ nilQ) ?_
  rintro _ _ ⟨rfl, rfl⟩
  refine W.cl [35, 39, 44, 50, 60, 68] (by kernel_rfl) (p_ooct false 0 nilQ nilQ nilQ nilQ nilQ) ?_
  rintro _ _ ⟨rfl, rfl⟩
  refine W.cx [35, 39, 44, 50, 60, 68] (Γ' := [QG nilQ (0, ox0.g)]) (by kernel_rfl) entQ0 (p_omag false 0 nilQ nilQ nilQ nilQ nilQ (V := ox0)) ?_
  rintro _ _ ⟨g11, rfl, rfl⟩
  refine W.cl [35, 39, 44, 50, 60, 68] (by kernel_rfl) (p_qtext g11.n g11.a g11.m g11.b) ?_
  rintro _ _ ⟨rfl, rfl⟩
  refine W.df [35, 39, 44] 50 (!((qtxt ox0.mag).toList == (⟨#[49]⟩ : ByteArray).toList)) (by kernel_rfl) (by decide +kernel) ?_
  refine W.cx [35, 39, 44, 50, 60, 68] (Γ' := [OF ⟨nilQ, nilQ, nilQ, nilQ, nilQ⟩ (0, ox0)]) (by kernel_rfl) (entO rfl rfl rfl rfl rfl (by omega)) (p_oat ox0 ⟨nilQ, nilQ, nilQ, nilQ, nilQ⟩ x y (by decide) (by omega) (by omega)) ?_
  rintro _ _ ⟨X13, Y13, rfl, rfl⟩
  rw [(ox0_at _ _).1, (ox0_at _ _).2]
  refine W.cl [35, 39, 44, 50, 60, 68] (by kernel_rfl) (r_whole8 x y (by omega) (by omega)) ?_
  rintro _ _ ⟨Y14, Z14, rfl, rfl⟩
  refine W.cl [35, 39, 44, 50, 60, 68] (by kernel_rfl) (p_oalike X13 Y13 Y14 Z14) ?_
  rintro _ _ ⟨rfl, rfl⟩
  refine W.cl [35, 39, 44, 50, 60, 68] (by kernel_rfl) (p_owhole8 x y (by omega) (by omega)) ?_
  rintro _ _ ⟨X16, Y16, rfl, rfl⟩
  refine W.cl [35, 39, 44, 50, 60, 68] (by kernel_rfl) (r_whole8 x y (by omega) (by omega)) ?_
  rintro _ _ ⟨Y17, Z17, rfl, rfl⟩
  refine W.cl [35, 39, 44, 50, 60, 68] (by kernel_rfl) (p_oalike X16 Y16 Y17 Z17) ?_
  rintro _ _ ⟨rfl, rfl⟩
  refine W.df [35, 39, 44, 50, 60, 68] 72 (decide (k < 0)) (by kernel_rfl) (by rw [decide_eq_false_iff_not]; exact hk0) ?_
  refine W.df [35, 39, 44, 50, 60, 68, 72] 69 (decide (k > 7)) (by kernel_rfl) (by rw [decide_eq_false_iff_not]; omega) ?_
  refine W.df [35, 39, 44, 50, 60, 68, 72, 69] 78 (decide (g ≤ 0)) (by kernel_rfl) (by rw [decide_eq_false_iff_not]; exact hg0) ?_
  refine W.cl [35, 39, 44, 50, 60, 68, 72, 69, 78, 85] (by kernel_rfl) (p_oflip f k ⟨n2, a2, m2, b2⟩ ⟨n4, a4, m4, b4⟩ nilQ ⟨n6, a6, m6, b6⟩ nilQ) ?_
  rintro _ _ ⟨rfl, rfl⟩
  refine W.dt [35, 39, 44, 50, 60, 68, 72, 69, 78, 85] 91 (f == f) (by kernel_rfl) (by simp) ?_
  refine W.cl [35, 39, 44, 50, 60, 68, 72, 69, 78, 85, 91] (by kernel_rfl) (p_ooct f k ⟨n2, a2, m2, b2⟩ ⟨n4, a4, m4, b4⟩ nilQ ⟨n6, a6, m6, b6⟩ nilQ) ?_
  rintro _ _ ⟨rfl, rfl⟩
  refine W.dt [35, 39, 44, 50, 60, 68, 72, 69, 78, 85, 91] 97 (k == k) (by kernel_rfl) (by simp) ?_
  refine W.cx [35, 39, 44, 50, 60, 68, 72, 69, 78, 85, 91, 97] (Γ' := [QG ⟨n2, a2, m2, b2⟩ (2, ((⟨f, k, ((g : Int) : Rat), ((x : Int) : Rat), 0, ((y : Int) : Rat), 0⟩ : On)).g)]) (by kernel_rfl) (entQ (by omega) rfl) (p_omag f k ⟨n2, a2, m2, b2⟩ ⟨n4, a4, m4, b4⟩ nilQ ⟨n6, a6, m6, b6⟩ nilQ (V := (⟨f, k, ((g : Int) : Rat), ((x : Int) : Rat), 0, ((y : Int) : Rat), 0⟩ : On))) ?_
  rintro _ _ ⟨g21, rfl, rfl⟩
  have hmag : ((⟨f, k, ((g : Int) : Rat), ((x : Int) : Rat), 0, ((y : Int) : Rat), 0⟩ : On)).mag = ((g : Int) : Rat) := by
    unfold On.mag
    simp only
    rw [hsg, Int.sign_eq_one_of_pos (by omega), if_neg (by decide)]
  rw [hmag]
  refine W.cl [35, 39, 44, 50, 60, 68, 72, 69, 78, 85, 91, 97] (by kernel_rfl) (p_zof g (by omega) (by omega)) ?_
  rintro _ _ ⟨u22, d22, rfl, rfl⟩
  refine W.cl [35, 39, 44, 50, 60, 68, 72, 69, 78, 85, 91, 97] (by kernel_rfl) (p_qwhole u22 d22) ?_
  rintro _ _ ⟨n23, a23, m23, b23, rfl, rfl⟩
  refine W.cl [35, 39, 44, 50, 60, 68, 72, 69, 78, 85, 91, 97] (by kernel_rfl) (p_qcmp g21.n g21.a g21.m g21.b n23 a23 m23 b23) ?_
  rintro _ _ ⟨rfl, rfl⟩
  refine W.dt [35, 39, 44, 50, 60, 68, 72, 69, 78, 85, 91, 97] 106 (cmpQ ((g : Int) : Rat) ((g : Int) : Rat) == 0) (by kernel_rfl) (by rw [beq_iff_eq, cmpQ_eq]) ?_
  refine W.cl [35, 39, 44, 50, 60, 68, 72, 69, 78, 85, 91, 97, 106] (by kernel_rfl) (p_omove (⟨f, k, ((g : Int) : Rat), ((x : Int) : Rat), 0, ((y : Int) : Rat), 0⟩ : On) ⟨⟨n2, a2, m2, b2⟩, ⟨n4, a4, m4, b4⟩, nilQ, ⟨n6, a6, m6, b6⟩, nilQ⟩) ?_
  rintro _ _ ⟨X25, Y25, rfl, rfl⟩
  refine W.cl [106] (by kernel_rfl) (r_whole8 x y (by omega) (by omega)) ?_
  rintro _ _ ⟨Y26, Z26, rfl, rfl⟩
  refine W.cl [106] (by kernel_rfl) (p_oalike X25 Y25 Y26 Z26) ?_
  rintro _ _ ⟨rfl, rfl⟩
  exact W.r [106] (.bool true) (by kernel_rfl) ⟨rfl, rfl⟩ ent0

end Go.Proofs.Ytcldhekediegdaa
namespace Go.Proofs.Ytcldhekediegdaa.octantMakes
open Go.ChangeShapes Go.WideShapes Go.ChangeAt Go.RowKit
open Go.ChangeMaps (open_string shut_string)

theorem closed : joinedFacts Try.pinned.checked.prog 3 Try.f3 Rows.octantMakesSpec Rows.octantMakesRow = true := by
  unfold joinedFacts
  rw [show Try.pinned.checked.prog.mayEnter = true from jn_enter, show (Rows.octantMakesRow.lifted == Try.pinned.checked.prog.liftsFinal) = true from jn_lift, show (Try.pinned.checked.prog.make == some Rows.octantMakesRow.make) = true from jn_make,
    show laidOutB Try.pinned.checked.prog = true from jn_laid, show mapsRowed Try.pinned.checked.prog = true from jn_maps]
  kernel_rfl

set_option maxRecDepth 100000 in
theorem lifted (os : Os) (started : os.Started) (H : Type) (enc : TypeId × Value → H) :
    ReturnsInHanded {} Try.checked os 3 .any (Rows.octantMakesSpec.pre6 enc Try.prog Try.f3 Rows.octantMakesRow.domain false) (Rows.octantMakesSpec.post enc Try.prog Try.f3 false true false false) := by
  refine returnsInHanded_of_change (C := Try.checked) jn_own started (by kernel_rfl) Try.func3
    (ChangeSpec.witness6 (enc := enc) (C := Try.checked) false ⟨#[], #[.bool false, .int .i64 0, .int .i64 0, .int .i64 0, .int .i64 0], []⟩ 8 (by kernel_rfl) (by kernel_rfl) (by kernel_rfl) (by kernel_rfl)) ?_
  intro W base args ds gs before hval0 hW hcnd _
  have hval : ∀ (j : Nat) t v, Try.f3.params[j]? = some t → args[j]? = some v → Value.okWide Try.prog W .any base t v := hval0
  have hW' := hW
  obtain ⟨p, q, hA0, hV, rfl, hfz, hnd⟩ := hW
  have hA : DataW.TrodAll enc Try.prog W 0 (fun _ => true) true Try.f3.params.toList args.toList ds p := hA0
  have hK := hA
  rw [Try.params3] at hA hval hK
  obtain ⟨v0, vs0, d0, ds0, p0, q0, hargs, rfl, rfl, h0, r0⟩ := trodAll_cons hA
  obtain ⟨v1, vs1, d1, ds1, p1, q1, rfl, rfl, rfl, h1, r1⟩ := trodAll_cons r0
  obtain ⟨v2, vs2, d2, ds2, p2, q2, rfl, rfl, rfl, h2, r2⟩ := trodAll_cons r1
  obtain ⟨v3, vs3, d3, ds3, p3, q3, rfl, rfl, rfl, h3, r3⟩ := trodAll_cons r2
  obtain ⟨v4, vs4, d4, ds4, p4, q4, rfl, rfl, rfl, h4, r4⟩ := trodAll_cons r3
  obtain ⟨rfl, rfl, rfl⟩ := trodAll_nil r4
  obtain rfl : args = #[v0, v1, v2, v3, v4] := by cases args; simp_all
  obtain ⟨rfl, rfl⟩ := trodVars_none hV
  obtain ⟨a0, rfl, rfl, rfl⟩ := open_bool Try.underlying4 (hval 0 4 v0 rfl rfl) h0
  obtain ⟨a1, rfl, rfl, rfl, w1⟩ := open_int Try.underlying3 (hval 1 3 v1 rfl rfl) h1
  obtain ⟨a2, rfl, rfl, rfl, w2⟩ := open_int Try.underlying3 (hval 2 3 v2 rfl rfl) h2
  obtain ⟨a3, rfl, rfl, rfl, w3⟩ := open_int Try.underlying3 (hval 3 3 v3 rfl rfl) h3
  obtain ⟨a4, rfl, rfl, rfl, w4⟩ := open_int Try.underlying3 (hval 4 3 v4 rfl rfl) h4
  clear hA0 hval0
  simp only [List.append_nil] at hW' hK
  refine (law_calls' (p_octantMakes a0 a1 w1 a2 w2 a3 w3 a4 w4) W (Holds.nil _ _)).mono fun e W' ⟨he, hg⟩ => ?_
  subst he
  exact ⟨_, rfl, law_post hW' rfl (fun _ _ _ => (trodAll_cons_mk (shut_bool Try.underlying4 _) trodAll_mk0)) (fun sp hsp => trodAll_stays jn_laid hg (by kernel_rfl) hK (fun x hx => hW'.lt x (by first | exact hx | simpa using hx)) (fun x hx => hsp x (by first | exact hx | simpa using hx))) rfl hg⟩

theorem over : Rows.octantMakesRow.holds Try.pinned (OpenSpec.ofChange Rows.octantMakesSpec) :=
  OpenClaim.holds_of_wide 3 Try.f3 rfl rfl rfl rfl rfl rfl rfl ⟨rfl, rfl, rfl, rfl, rfl⟩ rfl rfl rfl rfl rfl (by kernel_rfl) Try.func3 closed
    (of_decide_eq_true (by kernel_rfl)) (by unfold Func.isWrapper; first | (rw [if_pos (by decide +kernel)]; kernel_rfl) | (rw [if_neg (by decide +kernel)]; exact ⟨rfl, rfl⟩))
    (fun os started H enc _ => lifted os started H enc)
end Go.Proofs.Ytcldhekediegdaa.octantMakes
namespace Go.Proofs.Ytcldhekediegdaa

/-- The statement. -/
theorem octantMakes_holds : Rows.OctantMakesSaid := octantMakes.over
end Go.Proofs.Ytcldhekediegdaa
