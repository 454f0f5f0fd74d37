/- FracMakes: whatever the two numbers, the law returns true; no condition. -/
import Derived.Test.YtmpcabpepnmfiaaRows
import Derived.Test.YtmpcabpepnmfiaaFl
import Derived.Test.YtmpcabpepnmfiaaLawZ
import Derived.Test.YtmpcabpepnmfiaaVx
import Derived.Test.YtmpcabpepnmfiaaJn
set_option linter.unusedSimpArgs false
set_option linter.unusedVariables false
namespace Go.Proofs.Ytmpcabpepnmfiaa
open Go.RowKit Go.IntWalk
theorem i64_wf {a : Int} (h : (Lit.int .i64 a).wf = true) : -9223372036854775808 ≤ a ∧ a < 9223372036854775808 := by
  have : -9223372036854775808 ≤ a ∧ a ≤ 9223372036854775807 := by simpa [Lit.wf, IntKind.min, IntKind.max, IntKind.signed, IntKind.bits] using h
  omega
theorem qtxt_whole (a : Int) : qtxt (a : Rat) = ztxt a := rfl
theorem cmpQ_self (a : Rat) : cmpQ a a = 0 := cmpQ_eq.2 rfl
set_option maxHeartbeats 1000000 in
theorem p_fracMakes (a : Int) (ha : (Lit.int .i64 a).wf = true) (b : Int) (hb : (Lit.int .i64 b).wf = true) : PCalls tb Try.prog 10 [.int .i64 a, .int .i64 b] [] (IsV (.bool true)) := by
  obtain ⟨h1, h2⟩ := i64_wf ha
  obtain ⟨h3, h4⟩ := i64_wf hb
  refine PCalls.of_W tbOk Try.func10 rfl (by kernel_rfl) ?_
  by_cases h0 : b = 0
  · subst h0
    refine W.cl [] (by kernel_rfl) (p_qof0 a h1 h2) ?_
    rintro _ _ ⟨rfl, rfl⟩
    refine W.cl [] (by kernel_rfl) (p_zof a h1 h2) ?_
    rintro _ _ ⟨u2, d2, rfl, rfl⟩
    refine W.cl [] (by kernel_rfl) (p_zof 0 (by omega) (by omega)) ?_
    rintro _ _ ⟨u3, d3, rfl, rfl⟩
    refine W.cl [] (by kernel_rfl) (p_qmake0 u2 d2 u3 d3) ?_
    rintro _ _ ⟨rfl, rfl⟩
    refine W.cl [] (by kernel_rfl) (p_zof a h1 h2) ?_
    rintro _ _ ⟨u5, d5, rfl, rfl⟩
    refine W.cl [] (by kernel_rfl) (p_qwhole u5 d5) ?_
    rintro _ _ ⟨n6, a6, m6, b6, rfl, rfl⟩
    refine W.cl [] (by kernel_rfl) (p_qknown) ?_
    rintro _ _ ⟨rfl, rfl⟩
    refine W.cl [29] (by kernel_rfl) (p_qtext n6 a6 m6 b6) ?_
    rintro _ _ ⟨rfl, rfl⟩
    refine W.cl [29] (by kernel_rfl) (p_zof a h1 h2) ?_
    rintro _ _ ⟨u9, d9, rfl, rfl⟩
    refine W.cl [29] (by kernel_rfl) (p_ztext u9 d9) ?_
    rintro _ _ ⟨rfl, rfl⟩
    refine W.df [29] 36 (!(qtxt (a : Rat)).toList == (ztxt a).toList) (by kernel_rfl) (by rw [qtxt_whole]; simp) ?_
    refine W.cl [45, 41, 38, 36] (by kernel_rfl) (p_qsign ⟨none, 0, 0⟩ false ⟨none, 0, 0⟩ false) ?_
    rintro _ _ ⟨rfl, rfl⟩
    refine W.cl [50, 45] (by kernel_rfl) (p_qsign ⟨none, 0, 0⟩ false ⟨none, 0, 0⟩ false) ?_
    rintro _ _ ⟨rfl, rfl⟩
    exact W.r [50] (.bool true) (by kernel_rfl) ⟨rfl, rfl⟩ ent0
  · refine W.cl [] (by kernel_rfl) (p_qof a b h0 h1 h2 h3 h4) ?_
    rintro _ _ ⟨n1, a1, m1, b1, rfl, rfl⟩
    refine W.cl [] (by kernel_rfl) (p_zof a h1 h2) ?_
    rintro _ _ ⟨u2, d2, rfl, rfl⟩
    refine W.cl [] (by kernel_rfl) (p_zof b h3 h4) ?_
    rintro _ _ ⟨u3, d3, rfl, rfl⟩
    refine W.cl [] (by kernel_rfl) (p_qmake u2 d2 u3 d3 h0) ?_
    rintro _ _ ⟨n4, a4, m4, b4, rfl, rfl⟩
    refine W.cl [] (by kernel_rfl) (p_zof a h1 h2) ?_
    rintro _ _ ⟨u5, d5, rfl, rfl⟩
    refine W.cl [] (by kernel_rfl) (p_qwhole u5 d5) ?_
    rintro _ _ ⟨n6, a6, m6, b6, rfl, rfl⟩
    refine W.cl [] (by kernel_rfl) (p_qknown) ?_
    rintro _ _ ⟨rfl, rfl⟩
    refine W.cl [29] (by kernel_rfl) (p_qtext n6 a6 m6 b6) ?_
    rintro _ _ ⟨rfl, rfl⟩
    refine W.cl [29] (by kernel_rfl) (p_zof a h1 h2) ?_
    rintro _ _ ⟨u9, d9, rfl, rfl⟩
    refine W.cl [29] (by kernel_rfl) (p_ztext u9 d9) ?_
    rintro _ _ ⟨rfl, rfl⟩
    refine W.df [29] 36 (!(qtxt (a : Rat)).toList == (ztxt a).toList) (by kernel_rfl) (by rw [qtxt_whole]; simp) ?_
    refine W.df [36] 38 (b == 0) (by kernel_rfl) (beq_eq_false_iff_ne.2 h0) ?_
    refine W.cl [61, 57, 38] (by kernel_rfl) (p_yof a h1 h2) ?_
    rintro _ _ ⟨S11, t11, rfl, rfl⟩
    refine W.cl [61] (by kernel_rfl) (p_yof b h3 h4) ?_
    rintro _ _ ⟨S12, t12, rfl, rfl⟩
    refine W.cl [61] (by kernel_rfl) (s_make S11 t11 S12 t12 h0) ?_
    rintro _ _ ⟨S13, s13, R13, t13, rfl, rfl⟩
    refine W.cl [61] (by kernel_rfl) (p_qsame n1 a1 m1 b1 S13 s13 R13 t13) ?_
    rintro _ _ ⟨rfl, rfl⟩
    refine W.cl [70, 61] (by kernel_rfl) (p_qcmp n1 a1 m1 b1 n4 a4 m4 b4) ?_
    rintro _ _ ⟨rfl, rfl⟩
    exact W.r [70] (.bool ((cmpQ (Rat.divInt a b) (Rat.divInt a b)) == 0)) (by kernel_rfl) ⟨by rw [cmpQ_self]; rfl, rfl⟩ ent0

end Go.Proofs.Ytmpcabpepnmfiaa
namespace Go.Proofs.Ytmpcabpepnmfiaa.fracMakes
open Go.ChangeShapes Go.WideShapes Go.ChangeAt Go.RowKit
open Go.ChangeMaps (open_string shut_string)

theorem closed : joinedFacts Try.pinned.checked.prog 10 Try.f10 Rows.fracMakesSpec Rows.fracMakesRow = true := by
  unfold joinedFacts
  rw [show Try.pinned.checked.prog.mayEnter = true from jn_enter, show (Rows.fracMakesRow.lifted == Try.pinned.checked.prog.liftsFinal) = true from jn_lift, show (Try.pinned.checked.prog.make == some Rows.fracMakesRow.make) = true from jn_make,
    show laidOutB Try.pinned.checked.prog = true from jn_laid, show mapsRowed Try.pinned.checked.prog = true from jn_maps]
  kernel_rfl

set_option maxRecDepth 100000 in
theorem lifted (os : Os) (started : os.Started) (H : Type) (enc : TypeId × Value → H) :
    ReturnsInHanded {} Try.checked os 10 .any (Rows.fracMakesSpec.pre6 enc Try.prog Try.f10 Rows.fracMakesRow.domain false) (Rows.fracMakesSpec.post enc Try.prog Try.f10 false true false false) := by
  refine returnsInHanded_of_change (C := Try.checked) jn_own started (by kernel_rfl) Try.func10
    (ChangeSpec.witness6 (enc := enc) (C := Try.checked) false ⟨#[], #[.int .i64 0, .int .i64 0], []⟩ 8 (by kernel_rfl) (by kernel_rfl) (by kernel_rfl) (by kernel_rfl)) ?_
  intro W base args ds gs before hval0 hW hcnd _
  have hval : ∀ (j : Nat) t v, Try.f10.params[j]? = some t → args[j]? = some v → Value.okWide Try.prog W .any base t v := hval0
  have hW' := hW
  obtain ⟨p, q, hA0, hV, rfl, hfz, hnd⟩ := hW
  have hA : DataW.TrodAll enc Try.prog W 0 (fun _ => true) true Try.f10.params.toList args.toList ds p := hA0
  have hK := hA
  rw [Try.params10] at hA hval hK
  obtain ⟨v0, vs0, d0, ds0, p0, q0, hargs, rfl, rfl, h0, r0⟩ := trodAll_cons hA
  obtain ⟨v1, vs1, d1, ds1, p1, q1, rfl, rfl, rfl, h1, r1⟩ := trodAll_cons r0
  obtain ⟨rfl, rfl, rfl⟩ := trodAll_nil r1
  obtain rfl : args = #[v0, v1] := by cases args; simp_all
  obtain ⟨rfl, rfl⟩ := trodVars_none hV
  obtain ⟨a0, rfl, rfl, rfl, w0⟩ := open_int Try.underlying3 (hval 0 3 v0 rfl rfl) h0
  obtain ⟨a1, rfl, rfl, rfl, w1⟩ := open_int Try.underlying3 (hval 1 3 v1 rfl rfl) h1
  clear hA0 hval0
  simp only [List.append_nil] at hW' hK
  refine (law_calls' (p_fracMakes a0 w0 a1 w1) W (Holds.nil _ _)).mono fun e W' ⟨he, hg⟩ => ?_
  subst he
  exact ⟨_, rfl, law_post hW' rfl (fun _ _ _ => (trodAll_cons_mk (shut_bool Try.underlying4 _) trodAll_mk0)) (fun sp hsp => trodAll_stays jn_laid hg (by kernel_rfl) hK (fun x hx => hW'.lt x (by first | exact hx | simpa using hx)) (fun x hx => hsp x (by first | exact hx | simpa using hx))) rfl hg⟩

theorem over : Rows.fracMakesRow.holds Try.pinned (OpenSpec.ofChange Rows.fracMakesSpec) :=
  OpenClaim.holds_of_wide 10 Try.f10 rfl rfl rfl rfl rfl rfl rfl ⟨rfl, rfl, rfl, rfl, rfl⟩ rfl rfl rfl rfl rfl (by kernel_rfl) Try.func10 closed
    (of_decide_eq_true (by kernel_rfl)) (by unfold Func.isWrapper; first | (rw [if_pos (by decide +kernel)]; kernel_rfl) | (rw [if_neg (by decide +kernel)]; exact ⟨rfl, rfl⟩))
    (fun os started H enc _ => lifted os started H enc)
end Go.Proofs.Ytmpcabpepnmfiaa.fracMakes
namespace Go.Proofs.Ytmpcabpepnmfiaa

/-- The statement. -/
theorem fracMakes_holds : Rows.FracMakesSaid := fracMakes.over
end Go.Proofs.Ytmpcabpepnmfiaa
