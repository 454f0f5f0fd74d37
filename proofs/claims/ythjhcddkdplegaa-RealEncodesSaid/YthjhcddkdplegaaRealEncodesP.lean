
/- A number's bytes, or that it has none, are what the document says. -/
import Derived.Test.YthjhcddkdplegaaRows
import Derived.Test.YthjhcddkdplegaaRo
import Derived.Test.YthjhcddkdplegaaLawZ
import Derived.Test.YthjhcddkdplegaaVs
import Derived.Test.YthjhcddkdplegaaJn
set_option linter.unusedSimpArgs false
set_option linter.unusedVariables false
namespace Go.Proofs.Ythjhcddkdplegaa
open Go.RowKit Go.IntWalk
theorem p_realEncodes (s : ByteArray) (hs : s.size ≤ 9223372036854775807) :
    PCalls tb Try.prog 7 [.string s] [] (IsV (.bool true)) := by
  refine PCalls.of_W tbOk Try.func7 rfl (by kernel_rfl) ?_
  by_cases h : 60 < s.size
  · refine W.dt [] 13 (decide ((s.size : Int) > 60)) (by kernel_rfl) (by rw [decide_eq_true_iff]; omega) ?_
    refine W.sub' [13] s none (some (.int .i64 ((60 : Nat) : Int))) 0 60 tbOk (by kernel_rfl) (.inr ⟨rfl, rfl⟩) (.inl rfl) (by omega) (by omega) ?_
    have hs2 : (s.extract 0 60).size ≤ 60 := by simp; omega
    generalize s.extract 0 60 = s' at *
    refine W.cl [] (by kernel_rfl) (p_qparse s' (by omega)) ?_
    rintro _ _ ⟨n1, a1, m1, b1, rfl, rfl⟩
    refine W.cl [] (by kernel_rfl) (s_parse s' (by omega)) ?_
    rintro _ _ ⟨S2, s2, R2, t2, rfl, rfl⟩
    refine W.cl [] (by kernel_rfl) (p_rknown) ?_
    rintro _ _ ⟨rfl, rfl⟩
    refine W.d [28] 32 (qerr s' != 0) (by kernel_rfl) (fun h1 => ?_) (fun h1 => ?_)
    · refine W.cl [35, 32] (by kernel_rfl) (p_rknown) ?_
      rintro _ _ ⟨rfl, rfl⟩
      exact W.r [] (.bool true) (by kernel_rfl) ⟨rfl, rfl⟩ ent0
    refine W.df [32] 35 (qerr s' != 0) (by kernel_rfl) h1 ?_
    refine W.cl [35] (by kernel_rfl) (p_enc n1 a1 m1 b1) ?_
    rintro _ _ ⟨r, hr, ⟨rfl, rfl, rfl⟩ | ⟨bs, bo, cc, rfl, hb1, hb2, rfl, hcc, rfl⟩⟩
    · refine W.cl [] (by kernel_rfl) (r_enc S2 s2 R2 t2) ?_
      rintro _ _ ⟨r', hr', ⟨rfl, rfl, rfl⟩ | ⟨bs, bo2, cc2, rfl, hb3, hb4, rfl, hcc2, rfl⟩⟩
      rotate_left
      · exact absurd (hr.unique hr') (by simp)
      refine W.cx [50] (by kernel_rfl) (fun I w _ _ => Holds.cons (RA.nil none I w) (Holds.nil _ _)) (p_bsame none 0 0 [] none 0 0 rfl rfl) ?_
      rintro _ _ ⟨rfl, rfl⟩
      exact W.r [50] (.bool true) (by kernel_rfl) ⟨rfl, rfl⟩ ent0
    · refine W.cl [] (by kernel_rfl) (r_enc S2 s2 R2 t2) ?_
      rintro _ _ ⟨r', hr', ⟨rfl, rfl, rfl⟩ | ⟨bs', bo2, cc2, rfl, hb3, hb4, rfl, hcc2, rfl⟩⟩
      · exact absurd (hr.unique hr') (by simp)
      have e := hr.unique hr'
      simp only [Option.some.injEq] at e
      subst e
      refine W.cl [50] (by kernel_rfl) (p_bsame bo 8 cc bs bo2 8 cc2 hb1.symm hb1.symm) ?_
      rintro _ _ ⟨rfl, rfl⟩
      exact W.r [50] (.bool true) (by kernel_rfl) ⟨rfl, rfl⟩ ent0
  · refine W.df [] 13 (decide ((s.size : Int) > 60)) (by kernel_rfl) (by rw [decide_eq_false_iff_not]; omega) ?_
    refine W.cl [13] (by kernel_rfl) (p_qparse s (by omega)) ?_
    rintro _ _ ⟨n1, a1, m1, b1, rfl, rfl⟩
    refine W.cl [] (by kernel_rfl) (s_parse s (by omega)) ?_
    rintro _ _ ⟨S2, s2, R2, t2, rfl, rfl⟩
    refine W.cl [] (by kernel_rfl) (p_rknown) ?_
    rintro _ _ ⟨rfl, rfl⟩
    refine W.d [28] 32 (qerr s != 0) (by kernel_rfl) (fun h1 => ?_) (fun h1 => ?_)
    · refine W.cl [35, 32] (by kernel_rfl) (p_rknown) ?_
      rintro _ _ ⟨rfl, rfl⟩
      exact W.r [] (.bool true) (by kernel_rfl) ⟨rfl, rfl⟩ ent0
    refine W.df [32] 35 (qerr s != 0) (by kernel_rfl) h1 ?_
    refine W.cl [35] (by kernel_rfl) (p_enc n1 a1 m1 b1) ?_
    rintro _ _ ⟨r, hr, ⟨rfl, rfl, rfl⟩ | ⟨bs, bo, cc, rfl, hb1, hb2, rfl, hcc, rfl⟩⟩
    · refine W.cl [] (by kernel_rfl) (r_enc S2 s2 R2 t2) ?_
      rintro _ _ ⟨r', hr', ⟨rfl, rfl, rfl⟩ | ⟨bs, bo2, cc2, rfl, hb3, hb4, rfl, hcc2, rfl⟩⟩
      rotate_left
      · exact absurd (hr.unique hr') (by simp)
      refine W.cx [50] (by kernel_rfl) (fun I w _ _ => Holds.cons (RA.nil none I w) (Holds.nil _ _)) (p_bsame none 0 0 [] none 0 0 rfl rfl) ?_
      rintro _ _ ⟨rfl, rfl⟩
      exact W.r [50] (.bool true) (by kernel_rfl) ⟨rfl, rfl⟩ ent0
    · refine W.cl [] (by kernel_rfl) (r_enc S2 s2 R2 t2) ?_
      rintro _ _ ⟨r', hr', ⟨rfl, rfl, rfl⟩ | ⟨bs', bo2, cc2, rfl, hb3, hb4, rfl, hcc2, rfl⟩⟩
      · exact absurd (hr.unique hr') (by simp)
      have e := hr.unique hr'
      simp only [Option.some.injEq] at e
      subst e
      refine W.cl [50] (by kernel_rfl) (p_bsame bo 8 cc bs bo2 8 cc2 hb1.symm hb1.symm) ?_
      rintro _ _ ⟨rfl, rfl⟩
      exact W.r [50] (.bool true) (by kernel_rfl) ⟨rfl, rfl⟩ ent0

end Go.Proofs.Ythjhcddkdplegaa
namespace Go.Proofs.Ythjhcddkdplegaa.realEncodes
open Go.ChangeShapes Go.WideShapes Go.ChangeAt Go.RowKit
open Go.ChangeMaps (open_string shut_string)

theorem closed : joinedFacts Try.pinned.checked.prog 7 Try.f7 Rows.realEncodesSpec Rows.realEncodesRow = true := by
  unfold joinedFacts
  rw [show Try.pinned.checked.prog.mayEnter = true from jn_enter, show (Rows.realEncodesRow.lifted == Try.pinned.checked.prog.liftsFinal) = true from jn_lift, show (Try.pinned.checked.prog.make == some Rows.realEncodesRow.make) = true from jn_make,
    show laidOutB Try.pinned.checked.prog = true from jn_laid, show mapsRowed Try.pinned.checked.prog = true from jn_maps]
  kernel_rfl

set_option maxRecDepth 100000 in
set_option maxHeartbeats 2000000 in
theorem lifted (os : Os) (started : os.Started) (H : Type) (enc : TypeId × Value → H) :
    ReturnsInHanded {} Try.checked os 7 .any (Rows.realEncodesSpec.pre6 enc Try.prog Try.f7 Rows.realEncodesRow.domain false) (Rows.realEncodesSpec.post enc Try.prog Try.f7 false true false false) := by
  refine returnsInHanded_of_change (C := Try.checked) jn_own started (by kernel_rfl) Try.func7
    (ChangeSpec.witness6 (enc := enc) (C := Try.checked) false ⟨#[], #[.string ⟨#[]⟩], []⟩ 8 (by kernel_rfl) (by kernel_rfl) (by kernel_rfl) (by kernel_rfl)) ?_
  intro W base args ds gs before hval0 hW hcnd _
  have hval : ∀ (j : Nat) t v, Try.f7.params[j]? = some t → args[j]? = some v → Value.okWide Try.prog W .any base t v := hval0
  have hW' := hW
  obtain ⟨p, q, hA0, hV, rfl, hfz, hnd⟩ := hW
  have hA : DataW.TrodAll enc Try.prog W 0 (fun _ => true) true Try.f7.params.toList args.toList ds p := hA0
  have hK := hA
  rw [Try.params7] at hA hval hK
  obtain ⟨v0, vs0, d0, ds0, p0, q0, hargs, rfl, rfl, h0, r0⟩ := trodAll_cons hA
  obtain ⟨rfl, rfl, rfl⟩ := trodAll_nil r0
  obtain rfl : args = #[v0] := by cases args; simp_all
  obtain ⟨rfl, rfl⟩ := trodVars_none hV
  obtain ⟨a0, rfl, rfl, rfl, w0⟩ := open_string Try.underlying9 (hval 0 9 v0 rfl rfl) h0
  clear hA0 hval0
  simp only [List.append_nil] at hW' hK
  refine (law_calls' (p_realEncodes a0 w0) W (Holds.nil _ _)).mono fun e W' ⟨he, hg⟩ => ?_
  subst he
  exact ⟨_, rfl, law_post hW' rfl (fun _ _ _ => (trodAll_cons_mk (shut_bool Try.underlying4 _) trodAll_mk0)) (fun sp hsp => trodAll_stays jn_laid hg (by kernel_rfl) hK (fun x hx => hW'.lt x (by first | exact hx | simpa using hx)) (fun x hx => hsp x (by first | exact hx | simpa using hx))) rfl hg⟩

theorem over : Rows.realEncodesRow.holds Try.pinned (OpenSpec.ofChange Rows.realEncodesSpec) :=
  OpenClaim.holds_of_wide 7 Try.f7 rfl rfl rfl rfl rfl rfl rfl ⟨rfl, rfl, rfl, rfl, rfl⟩ rfl rfl rfl rfl rfl (by kernel_rfl) Try.func7 closed
    (of_decide_eq_true (by kernel_rfl)) (by unfold Func.isWrapper; first | (rw [if_pos (by decide +kernel)]; kernel_rfl) | (rw [if_neg (by decide +kernel)]; exact ⟨rfl, rfl⟩))
    (fun os started H enc _ => lifted os started H enc)
end Go.Proofs.Ythjhcddkdplegaa.realEncodes
namespace Go.Proofs.Ythjhcddkdplegaa

/-- The statement. -/
theorem realEncodes_holds : Rows.RealEncodesSaid := realEncodes.over
end Go.Proofs.Ythjhcddkdplegaa
