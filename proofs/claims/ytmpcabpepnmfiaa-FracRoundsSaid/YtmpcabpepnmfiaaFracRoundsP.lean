/- FracRounds: whatever the text, the law returns true; no condition. -/
import Derived.Test.YtmpcabpepnmfiaaRows
import Derived.Test.YtmpcabpepnmfiaaFl
import Derived.Test.YtmpcabpepnmfiaaLawZ
import Derived.Test.YtmpcabpepnmfiaaVx
import Derived.Test.YtmpcabpepnmfiaaJn
set_option linter.unusedSimpArgs false
set_option linter.unusedVariables false
namespace Go.Proofs.Ytmpcabpepnmfiaa
open Go.RowKit Go.IntWalk
theorem p_fracRounds (x : ByteArray) (hx : x.size ≤ 9223372036854775807) : PCalls tb Try.prog 8 [.string x] [] (IsV (.bool true)) := by
  refine PCalls.of_W tbOk Try.func8 rfl (by kernel_rfl) ?_
  refine W.cl [] (by kernel_rfl) (p_qone x) ?_
  rintro _ _ ⟨n1, a1, m1, b1, S1, s1, R1, t1, rfl, hS1, rfl⟩
  refine W.cl [] (by kernel_rfl) (p_qknown) ?_
  rintro _ _ ⟨rfl, rfl⟩
  generalize qfv x = X at *
  cases hk1 : qok x with
  | false =>
    refine W.cl [17, 14] (by kernel_rfl) (p_qknown) ?_
    rintro _ _ ⟨rfl, rfl⟩
    refine W.cl [19] (by kernel_rfl) (p_qapart x) ?_
    rintro _ _ ⟨rfl, rfl⟩
    exact W.r [19] (.bool true) (by kernel_rfl) ⟨rfl, rfl⟩ ent0
  | true =>
    refine W.cl [17, 14] (by kernel_rfl) (p_qfloor n1 a1 m1 b1) ?_
    rintro _ _ ⟨u5, d5, rfl, rfl⟩
    refine W.cl [] (by kernel_rfl) (p_ztext u5 d5) ?_
    rintro _ _ ⟨rfl, rfl⟩
    refine W.cl [] (by kernel_rfl) (s_floor S1 s1 R1 t1) ?_
    rintro _ _ ⟨S7, t7, rfl, rfl⟩
    refine W.cl [] (by kernel_rfl) (p_ytext S7 t7) ?_
    rintro _ _ ⟨rfl, rfl⟩
    refine W.dt [] 31 ((ztxt (qfl X)).toList == (ztxt (qfl X)).toList) (by kernel_rfl) (by simp) ?_
    refine W.cl [31] (by kernel_rfl) (p_qnear n1 a1 m1 b1) ?_
    rintro _ _ ⟨u9, d9, rfl, rfl⟩
    refine W.cl [31] (by kernel_rfl) (p_ztext u9 d9) ?_
    rintro _ _ ⟨rfl, rfl⟩
    refine W.cl [31] (by kernel_rfl) (s_near S1 s1 R1 t1) ?_
    rintro _ _ ⟨S11, t11, rfl, rfl⟩
    refine W.cl [31] (by kernel_rfl) (p_ytext S11 t11) ?_
    rintro _ _ ⟨rfl, rfl⟩
    exact W.r [31] (.bool ((ztxt (qnr X)).toList == (ztxt (qnr X)).toList)) (by kernel_rfl) ⟨by simp, rfl⟩ ent0

end Go.Proofs.Ytmpcabpepnmfiaa
namespace Go.Proofs.Ytmpcabpepnmfiaa.fracRounds
open Go.ChangeShapes Go.WideShapes Go.ChangeAt Go.RowKit
open Go.ChangeMaps (open_string shut_string)

theorem closed : joinedFacts Try.pinned.checked.prog 8 Try.f8 Rows.fracRoundsSpec Rows.fracRoundsRow = true := by
  unfold joinedFacts
  rw [show Try.pinned.checked.prog.mayEnter = true from jn_enter, show (Rows.fracRoundsRow.lifted == Try.pinned.checked.prog.liftsFinal) = true from jn_lift, show (Try.pinned.checked.prog.make == some Rows.fracRoundsRow.make) = true from jn_make,
    show laidOutB Try.pinned.checked.prog = true from jn_laid, show mapsRowed Try.pinned.checked.prog = true from jn_maps]
  kernel_rfl

set_option maxRecDepth 100000 in
theorem lifted (os : Os) (started : os.Started) (H : Type) (enc : TypeId × Value → H) :
    ReturnsInHanded {} Try.checked os 8 .any (Rows.fracRoundsSpec.pre6 enc Try.prog Try.f8 Rows.fracRoundsRow.domain false) (Rows.fracRoundsSpec.post enc Try.prog Try.f8 false true false false) := by
  refine returnsInHanded_of_change (C := Try.checked) jn_own started (by kernel_rfl) Try.func8
    (ChangeSpec.witness6 (enc := enc) (C := Try.checked) false ⟨#[], #[.string ⟨#[]⟩], []⟩ 8 (by kernel_rfl) (by kernel_rfl) (by kernel_rfl) (by kernel_rfl)) ?_
  intro W base args ds gs before hval0 hW hcnd _
  have hval : ∀ (j : Nat) t v, Try.f8.params[j]? = some t → args[j]? = some v → Value.okWide Try.prog W .any base t v := hval0
  have hW' := hW
  obtain ⟨p, q, hA0, hV, rfl, hfz, hnd⟩ := hW
  have hA : DataW.TrodAll enc Try.prog W 0 (fun _ => true) true Try.f8.params.toList args.toList ds p := hA0
  have hK := hA
  rw [Try.params8] at hA hval hK
  obtain ⟨v0, vs0, d0, ds0, p0, q0, hargs, rfl, rfl, h0, r0⟩ := trodAll_cons hA
  obtain ⟨rfl, rfl, rfl⟩ := trodAll_nil r0
  obtain rfl : args = #[v0] := by cases args; simp_all
  obtain ⟨rfl, rfl⟩ := trodVars_none hV
  obtain ⟨a0, rfl, rfl, rfl, w0⟩ := open_string Try.underlying9 (hval 0 9 v0 rfl rfl) h0
  clear hA0 hval0
  simp only [List.append_nil] at hW' hK
  refine (law_calls' (p_fracRounds a0 w0) W (Holds.nil _ _)).mono fun e W' ⟨he, hg⟩ => ?_
  subst he
  exact ⟨_, rfl, law_post hW' rfl (fun _ _ _ => (trodAll_cons_mk (shut_bool Try.underlying4 _) trodAll_mk0)) (fun sp hsp => trodAll_stays jn_laid hg (by kernel_rfl) hK (fun x hx => hW'.lt x (by first | exact hx | simpa using hx)) (fun x hx => hsp x (by first | exact hx | simpa using hx))) rfl hg⟩

theorem over : Rows.fracRoundsRow.holds Try.pinned (OpenSpec.ofChange Rows.fracRoundsSpec) :=
  OpenClaim.holds_of_wide 8 Try.f8 rfl rfl rfl rfl rfl rfl rfl ⟨rfl, rfl, rfl, rfl, rfl⟩ rfl rfl rfl rfl rfl (by kernel_rfl) Try.func8 closed
    (of_decide_eq_true (by kernel_rfl)) (by unfold Func.isWrapper; first | (rw [if_pos (by decide +kernel)]; kernel_rfl) | (rw [if_neg (by decide +kernel)]; exact ⟨rfl, rfl⟩))
    (fun os started H enc _ => lifted os started H enc)
end Go.Proofs.Ytmpcabpepnmfiaa.fracRounds
namespace Go.Proofs.Ytmpcabpepnmfiaa

/-- The statement. -/
theorem fracRounds_holds : Rows.FracRoundsSaid := fracRounds.over
end Go.Proofs.Ytmpcabpepnmfiaa
