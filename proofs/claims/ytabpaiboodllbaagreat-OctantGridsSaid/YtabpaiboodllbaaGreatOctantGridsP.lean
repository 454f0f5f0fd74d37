
/- OctantGrids: the nearest point of the grid is the document's, or lies outside. No conditions. -/
import Derived.Test.YtabpaiboodllbaaGreatRows
import Derived.Test.YtabpaiboodllbaaGreatGr
import Derived.Test.YtabpaiboodllbaaGreatKp
import Derived.Test.YtabpaiboodllbaaGreatLawZ
import Derived.Test.YtabpaiboodllbaaGreatVs
import Derived.Test.YtabpaiboodllbaaGreatJn
set_option linter.unusedSimpArgs false
set_option linter.unusedVariables false
namespace Go.Proofs.YtabpaiboodllbaaGreat
open Go.RowKit Go.IntWalk
set_option maxHeartbeats 16000000 in
theorem p_octantGrids (f0 : Bool) (k0 : Int) (u0 : (Lit.int .i64 k0).wf = true) (m0 x0 y0 : ByteArray) (wm0 : m0.size ≤ 9223372036854775807) (wx0 : x0.size ≤ 9223372036854775807) (wy0 : y0.size ≤ 9223372036854775807) (px : Int) (w1 : (Lit.int .i64 px).wf = true) (py : Int) (w2 : (Lit.int .i64 py).wf = true) :
    PCalls tb Tryz.prog 5 [.agg #[.bool f0, .int .i64 k0, .string m0, .string x0, .string y0], .int .i64 px, .int .i64 py] [] (IsV (.bool true)) := by
  refine PCalls.of_W tbOk Tryz.func5 rfl (by kernel_rfl) ?_
  refine W.cl [] (by kernel_rfl) (p_wmade f0 k0 m0 x0 y0 wm0 wx0 wy0) ?_
  rintro _ _ ⟨g0, o0, a1, b1, rfl, hW0, rfl⟩
  refine W.cl [] (by kernel_rfl) (p_oknown) ?_
  rintro _ _ ⟨rfl, rfl⟩
  by_cases h0 : wayOk k0 m0 x0 y0 = false
  · refine W.dt [23] 26 (!wayOk k0 m0 x0 y0) (by kernel_rfl) (by rw [h0]; rfl) ?_
    refine W.cl [26] (by kernel_rfl) (p_oknown) ?_
    rintro _ _ ⟨rfl, rfl⟩
    exact W.r [] (.bool true) (by kernel_rfl) ⟨rfl, rfl⟩ ent0
  have h0 : wayOk k0 m0 x0 y0 = true := by simpa using h0
  refine W.df [23] 26 (!wayOk k0 m0 x0 y0) (by kernel_rfl) (by rw [h0]; rfl) ?_
  refine W.code 999 ?_
  obtain ⟨eg0, eo0⟩ := hW0 h0
  obtain rfl := eg0.symm
  obtain rfl := eo0.symm
  refine W.kf a1 b1 (by kernel_rfl) h0 ?_
  have hb0 := wayOk_bits (f := f0) h0
  have hO0 : 0 ≤ (wayOn f0 k0 m0 x0 y0).o ∧ (wayOn f0 k0 m0 x0 y0).o ≤ 7 := ⟨(wayOk_spec h0).1, (wayOk_spec h0).2.1⟩
  have w1' := wf64 w1
  have w2' := wf64 w2
  obtain ⟨law1, law2⟩ := mkRn_at f0 k0 (qval m0) (qval x0) (qval y0) hO0 (wayOk_spec h0).2.2 px 0 py 0
  obtain ⟨bX, bY⟩ := bO.X hb0 w1' w2'
  have m1 := bX.2.2.1.md
  have m2 := bX.2.2.2.1.md
  have m3 := bY.2.2.1.md
  have m4 := bY.2.2.2.1.md
  have z0 : (0 : Int) ≤ 0 := by decide
  have z2 : (0 : Int) ≤ 2 := by decide
  refine W.cl [26] (by kernel_rfl) (p_oatT (wayOn f0 k0 m0 x0 y0) a1 px py hb0 hO0 w1' w2') ?_
  rintro _ _ ⟨X3, Y3, rfl, rfl⟩
  by_cases hg : inG (On.X (wayOn f0 k0 m0 x0 y0) px py).nr ∧ inG (On.Y (wayOn f0 k0 m0 x0 y0) px py).nr
  · refine W.cl [] (by kernel_rfl) (p_ogrT X3 Y3 (X := (On.X (wayOn f0 k0 m0 x0 y0) px py)) (Y := (On.Y (wayOn f0 k0 m0 x0 y0) px py)) z2 z0 z2 z0 hg.1 hg.2) ?_
    rintro _ _ ⟨rfl, rfl⟩
    refine W.cl [] (by kernel_rfl) (r_whole8 px py w1' w2') ?_
    rintro _ _ ⟨Y5, Z5, rfl, rfl⟩
    refine W.cl [] (by kernel_rfl) (r_at8E b1 Y5 Z5 (X := (On.X (wayOn f0 k0 m0 x0 y0) px py)) (Y := (On.Y (wayOn f0 k0 m0 x0 y0) px py)) law1 law2) ?_
    rintro _ _ ⟨Y6, Z6, rfl, rfl⟩
    refine W.cl [] (by kernel_rfl) (r_grid8T Y6 Z6 (X := (On.X (wayOn f0 k0 m0 x0 y0) px py)) (Y := (On.Y (wayOn f0 k0 m0 x0 y0) px py)) (A := 766) (D := 766) rfl rfl m1 m2 m3 m4 (by decide) (by decide) hg.1 hg.2 (by decide) (by decide)) ?_
    rintro _ _ ⟨rfl, rfl⟩
    refine W.df [] 48 (!true) (by kernel_rfl) rfl ?_
    refine W.dt [48] 58 ((0 : Int) == 0) (by kernel_rfl) rfl ?_
    refine W.eqv [58] 76 #[.int .i64 (On.X (wayOn f0 k0 m0 x0 y0) px py).nr, .int .i64 (On.Y (wayOn f0 k0 m0 x0 y0) px py).nr] 3 (by kernel_rfl) (by omega) (by kernel_rfl) (by kernel_rfl) (by kernel_rfl) (key_pt (wf_of ⟨by have := hg.1.1; omega, by have := hg.1.2; omega⟩) (wf_of ⟨by have := hg.2.1; omega, by have := hg.2.2; omega⟩)) ?_
    exact W.r [58] (.bool true) (by kernel_rfl) ⟨rfl, rfl⟩ ent0
  · refine W.cl [] (by kernel_rfl) (p_ogrF X3 Y3 (X := (On.X (wayOn f0 k0 m0 x0 y0) px py)) (Y := (On.Y (wayOn f0 k0 m0 x0 y0) px py)) z2 z0 z2 z0 hg) ?_
    rintro _ _ ⟨rfl, rfl⟩
    refine W.cl [] (by kernel_rfl) (r_whole8 px py w1' w2') ?_
    rintro _ _ ⟨Y5, Z5, rfl, rfl⟩
    refine W.cl [] (by kernel_rfl) (r_at8E b1 Y5 Z5 (X := (On.X (wayOn f0 k0 m0 x0 y0) px py)) (Y := (On.Y (wayOn f0 k0 m0 x0 y0) px py)) law1 law2) ?_
    rintro _ _ ⟨Y6, Z6, rfl, rfl⟩
    refine W.cl [] (by kernel_rfl) (r_grid8F Y6 Z6 (X := (On.X (wayOn f0 k0 m0 x0 y0) px py)) (Y := (On.Y (wayOn f0 k0 m0 x0 y0) px py)) (A := 766) (D := 766) rfl rfl m1 m2 m3 m4 (by decide) (by decide) hg (by decide) (by decide)) ?_
    rintro _ _ ⟨a7, b7, rfl, rfl⟩
    refine W.dt [] 48 (!false) (by kernel_rfl) rfl ?_
    refine W.dt [48] 51 ((26 : Int) == 26) (by kernel_rfl) rfl ?_
    refine W.eqv [51] 76 #[.int .i64 0, .int .i64 0] 3 (by kernel_rfl) (by omega) (by kernel_rfl) (by kernel_rfl) (by kernel_rfl) (by kernel_rfl) ?_
    exact W.r [51] (.bool true) (by kernel_rfl) ⟨rfl, rfl⟩ ent0

end Go.Proofs.YtabpaiboodllbaaGreat
namespace Go.Proofs.YtabpaiboodllbaaGreat.octantGrids
open Go.ChangeShapes Go.WideShapes Go.ChangeAt Go.RowKit
open Go.ChangeMaps (open_string shut_string)

theorem closed : joinedFacts Tryz.pinned.checked.prog 5 Tryz.f5 Rows.octantGridsSpec Rows.octantGridsRow = true := by
  unfold joinedFacts
  rw [show Tryz.pinned.checked.prog.mayEnter = true from jn_enter, show (Rows.octantGridsRow.lifted == Tryz.pinned.checked.prog.liftsFinal) = true from jn_lift, show (Tryz.pinned.checked.prog.make == some Rows.octantGridsRow.make) = true from jn_make,
    show laidOutB Tryz.pinned.checked.prog = true from jn_laid, show mapsRowed Tryz.pinned.checked.prog = true from jn_maps]
  kernel_rfl

set_option maxRecDepth 100000 in
theorem lifted (os : Os) (started : os.Started) (H : Type) (enc : TypeId × Value → H) :
    ReturnsInHanded {} Tryz.checked os 5 .any (Rows.octantGridsSpec.pre6 enc Tryz.prog Tryz.f5 Rows.octantGridsRow.domain false) (Rows.octantGridsSpec.post enc Tryz.prog Tryz.f5 false true false false) := by
  refine returnsInHanded_of_change (C := Tryz.checked) jn_own started (by kernel_rfl) Tryz.func5
    (ChangeSpec.witness6 (enc := enc) (C := Tryz.checked) false ⟨#[], #[.agg #[.bool false, .int .i64 0, .string ⟨#[]⟩, .string ⟨#[]⟩, .string ⟨#[]⟩], .int .i64 0, .int .i64 0], []⟩ 8 (by kernel_rfl) (by kernel_rfl) (by kernel_rfl) (by kernel_rfl)) ?_
  intro W base args ds gs before hval0 hW hcnd _
  have hval : ∀ (j : Nat) t v, Tryz.f5.params[j]? = some t → args[j]? = some v → Value.okWide Tryz.prog W .any base t v := hval0
  have hW' := hW
  obtain ⟨p, q, hA0, hV, rfl, hfz, hnd⟩ := hW
  have hA : DataW.TrodAll enc Tryz.prog W 0 (fun _ => true) true Tryz.f5.params.toList args.toList ds p := hA0
  have hK := hA
  rw [Tryz.params5] at hA hval hK
  obtain ⟨v0, vs0, d0, ds0, p0, q0, hargs, rfl, rfl, h0, r0⟩ := trodAll_cons hA
  obtain ⟨v1, vs1, d1, ds1, p1, q1, rfl, rfl, rfl, h1, r1⟩ := trodAll_cons r0
  obtain ⟨v2, vs2, d2, ds2, p2, q2, rfl, rfl, rfl, h2, r2⟩ := trodAll_cons r1
  obtain ⟨rfl, rfl, rfl⟩ := trodAll_nil r2
  obtain rfl : args = #[v0, v1, v2] := by cases args; simp_all
  obtain ⟨rfl, rfl⟩ := trodVars_none hV
  obtain ⟨f0, k0, m0, x0, y0, rfl, u0, wm0, wx0, wy0⟩ := open_way Tryz.underlying65 (by kernel_rfl) ⟨rfl, rfl⟩ ⟨rfl, rfl⟩ ⟨rfl, rfl⟩ ⟨rfl, rfl⟩ ⟨rfl, rfl⟩ Tryz.underlying4 (by kernel_rfl) Tryz.underlying3 (by kernel_rfl) Tryz.underlying9 (by kernel_rfl) (hval 0 65 v0 rfl rfl) h0
  obtain ⟨a1, rfl, rfl, rfl, w1⟩ := open_int Tryz.underlying3 (hval 1 3 v1 rfl rfl) h1
  obtain ⟨a2, rfl, rfl, rfl, w2⟩ := open_int Tryz.underlying3 (hval 2 3 v2 rfl rfl) h2
  clear hA0 hval0
  simp only [List.append_nil] at hW' hK
  refine (law_calls' (p_octantGrids f0 k0 u0 m0 x0 y0 wm0 wx0 wy0 a1 w1 a2 w2) W (Holds.nil _ _)).mono fun e W' ⟨he, hg⟩ => ?_
  subst he
  exact ⟨_, rfl, law_post hW' rfl (fun _ _ _ => (trodAll_cons_mk (shut_bool Tryz.underlying4 _) trodAll_mk0)) (fun sp hsp => trodAll_stays jn_laid hg (by kernel_rfl) hK (fun x hx => hW'.lt x (by first | exact hx | simpa using hx)) (fun x hx => hsp x (by first | exact hx | simpa using hx))) rfl hg⟩

theorem over : Rows.octantGridsRow.holds Tryz.pinned (OpenSpec.ofChange Rows.octantGridsSpec) :=
  OpenClaim.holds_of_wide 5 Tryz.f5 rfl rfl rfl rfl rfl rfl rfl ⟨rfl, rfl, rfl, rfl, rfl⟩ rfl rfl rfl rfl rfl (by kernel_rfl) Tryz.func5 closed
    (of_decide_eq_true (by kernel_rfl)) (by unfold Func.isWrapper; first | (rw [if_pos (by decide +kernel)]; kernel_rfl) | (rw [if_neg (by decide +kernel)]; exact ⟨rfl, rfl⟩))
    (fun os started H enc _ => lifted os started H enc)
end Go.Proofs.YtabpaiboodllbaaGreat.octantGrids
namespace Go.Proofs.YtabpaiboodllbaaGreat

/-- The statement. -/
theorem octantGrids_holds : Rows.OctantGridsSaid := octantGrids.over
end Go.Proofs.YtabpaiboodllbaaGreat
