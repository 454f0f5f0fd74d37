
/- Every eight bytes mean the number that the document says. -/
import Derived.Test.YthjhcddkdplegaaRows
import Derived.Test.YthjhcddkdplegaaRo
import Derived.Test.YthjhcddkdplegaaLawZ
import Derived.Test.YthjhcddkdplegaaVs
import Derived.Test.YthjhcddkdplegaaJn
set_option linter.unusedSimpArgs false
set_option linter.unusedVariables false
namespace Go.Proofs.Ythjhcddkdplegaa
open Go.RowKit Go.IntWalk
theorem p_realDecodes (ao : Option Addr) (n c : Nat) (zs : List Int) (hn : n = zs.length) (hw : ∀ z ∈ zs, (Lit.int .u8 z).wf = true) (hc : n ≤ c) :
    PCalls tb Try.prog 3 [.slice ao n c] [RA ao (zs.map (Value.int .u8))] (IsV (.bool true)) := by
  have hz := wf_bytes hw
  refine PCalls.of_W tbOk Try.func3 rfl (by kernel_rfl) ?_
  by_cases h : n > 64
  · refine W.ra ao rfl (by intro e; rw [List.map_eq_nil_iff] at e; subst e; simp at hn; omega) (fun ba of e => ?_)
    subst e
    refine W.more rfl (entRAt (b := ba) (off := of) (take_map 64)) ?_
    have hn2 : 64 = (zs.take 64).length := by rw [List.length_take]; omega
    have hz2 := hz.take 64
    refine W.dt [] 10 (decide ((n : Int) > 64)) (by kernel_rfl) (decide_eq_true (by omega)) ?_
    refine W.sls [10] 1 ba of n c none (some (.int .i64 ((64 : Nat) : Int))) 0 64 tbOk (by kernel_rfl) (.inr ⟨rfl, rfl⟩) (.inl rfl) (by decide) (by omega) (by omega) ?_
    refine W.cl [] (by kernel_rfl) (p_copied (some ⟨ba, of + 0 * 1, none⟩) 64 c (zs.take 64) hn2 (by decide)) ?_
    rintro _ _ ⟨bo1, cc1, rfl, hc1, rfl⟩
    refine W.cl [] (by kernel_rfl) (p_rdec bo1 64 cc1 (zs.take 64) hn2 hz2 hc1) ?_
    rintro _ _ ⟨n2, a2, m2, b2, rfl, rfl⟩
    refine W.cl [] (by kernel_rfl) (r_rdec (some ⟨ba, of + 0 * 1, none⟩) 64 c (zs.take 64) hn2 hz2 (by omega)) ?_
    rintro _ _ ⟨S3, s3, R3, t3, rfl, rfl⟩
    refine W.cl [] (by kernel_rfl) (p_rknown) ?_
    rintro _ _ ⟨rfl, rfl⟩
    refine W.cl [26] (by kernel_rfl) (p_bsame (some ⟨ba, of + 0 * 1, none⟩) 64 c (zs.take 64) bo1 64 cc1 hn2 hn2) ?_
    rintro _ _ ⟨rfl, rfl⟩
    refine W.dt [31, 26] 36 (derr (zs.take 64) == derr (zs.take 64)) (by kernel_rfl) (by simp) ?_
    refine W.cl [36] (by kernel_rfl) (p_qtext n2 a2 m2 b2) ?_
    rintro _ _ ⟨rfl, rfl⟩
    refine W.cl [36] (by kernel_rfl) (s_text S3 s3 R3 t3) ?_
    rintro _ _ ⟨rfl, rfl⟩
    exact W.r [36] (.bool ((qtxt (rval (zs.take 64))).toList == (qtxt (rval (zs.take 64))).toList)) (by kernel_rfl) ⟨by simp, rfl⟩ ent0
  · refine W.df [] 10 (decide ((n : Int) > 64)) (by kernel_rfl) (decide_eq_false (by omega)) ?_
    refine W.cl [10] (by kernel_rfl) (p_copied ao n c zs hn (by omega)) ?_
    rintro _ _ ⟨bo1, cc1, rfl, hc1, rfl⟩
    refine W.cl [] (by kernel_rfl) (p_rdec bo1 n cc1 zs hn hz hc1) ?_
    rintro _ _ ⟨n2, a2, m2, b2, rfl, rfl⟩
    refine W.cl [] (by kernel_rfl) (r_rdec ao n c zs hn hz hc) ?_
    rintro _ _ ⟨S3, s3, R3, t3, rfl, rfl⟩
    refine W.cl [] (by kernel_rfl) (p_rknown) ?_
    rintro _ _ ⟨rfl, rfl⟩
    refine W.cl [26] (by kernel_rfl) (p_bsame ao n c zs bo1 n cc1 hn hn) ?_
    rintro _ _ ⟨rfl, rfl⟩
    refine W.dt [31, 26] 36 (derr zs == derr zs) (by kernel_rfl) (by simp) ?_
    refine W.cl [36] (by kernel_rfl) (p_qtext n2 a2 m2 b2) ?_
    rintro _ _ ⟨rfl, rfl⟩
    refine W.cl [36] (by kernel_rfl) (s_text S3 s3 R3 t3) ?_
    rintro _ _ ⟨rfl, rfl⟩
    exact W.r [36] (.bool ((qtxt (rval zs)).toList == (qtxt (rval zs)).toList)) (by kernel_rfl) ⟨by simp, rfl⟩ ent0

end Go.Proofs.Ythjhcddkdplegaa
namespace Go.Proofs.Ythjhcddkdplegaa.realDecodes
open Go.ChangeShapes Go.WideShapes Go.ChangeAt Go.RowKit
open Go.ChangeMaps (open_string shut_string)

theorem closed : joinedFacts Try.pinned.checked.prog 3 Try.f3 Rows.realDecodesSpec Rows.realDecodesRow = true := by
  unfold joinedFacts
  rw [show Try.pinned.checked.prog.mayEnter = true from jn_enter, show (Rows.realDecodesRow.lifted == Try.pinned.checked.prog.liftsFinal) = true from jn_lift, show (Try.pinned.checked.prog.make == some Rows.realDecodesRow.make) = true from jn_make,
    show laidOutB Try.pinned.checked.prog = true from jn_laid, show mapsRowed Try.pinned.checked.prog = true from jn_maps]
  kernel_rfl

set_option maxRecDepth 100000 in
set_option maxHeartbeats 2000000 in
theorem lifted (os : Os) (started : os.Started) (H : Type) (enc : TypeId × Value → H) :
    ReturnsInHanded {} Try.checked os 3 .any (Rows.realDecodesSpec.pre6 enc Try.prog Try.f3 Rows.realDecodesRow.domain false) (Rows.realDecodesSpec.post enc Try.prog Try.f3 false true false false) := by
  refine returnsInHanded_of_change (C := Try.checked) jn_own started (by kernel_rfl) Try.func3
    (ChangeSpec.witness6 (enc := enc) (C := Try.checked) false ⟨#[], #[.slice none 0 0], []⟩ 8 (by kernel_rfl) (by kernel_rfl) (by kernel_rfl) (by kernel_rfl)) ?_
  intro W base args ds gs before hval0 hW hcnd _
  have hval : ∀ (j : Nat) t v, Try.f3.params[j]? = some t → args[j]? = some v → Value.okWide Try.prog W .any base t v := hval0
  have hW' := hW
  obtain ⟨p, q, hA0, hV, rfl, hfz, hnd⟩ := hW
  have hA : DataW.TrodAll enc Try.prog W 0 (fun _ => true) true Try.f3.params.toList args.toList ds p := hA0
  have hK := hA
  rw [Try.params3] at hA hval hK
  obtain ⟨v0, vs0, d0, ds0, p0, q0, hargs, rfl, rfl, h0, r0⟩ := trodAll_cons hA
  obtain ⟨rfl, rfl, rfl⟩ := trodAll_nil r0
  obtain rfl : args = #[v0] := by cases args; simp_all
  obtain ⟨rfl, rfl⟩ := trodVars_none hV
  obtain ⟨ao0, n0, c0, hv0⟩ := okWide_slice Try.underlying22 (hval 0 22 v0 rfl rfl)
  obtain ⟨a0, e0, w0, q0, g0⟩ := row_ints Try.underlying22 Try.underlying5 (by kernel_rfl) hv0 h0
  subst hv0
  clear hA0 hval0
  simp only [List.append_nil] at hW' hK
  refine (law_calls' (p_realDecodes ao0 n0 c0 a0 e0 w0 q0) W (Holds.cons g0 (Holds.nil _ _))).mono fun e W' ⟨he, hg⟩ => ?_
  subst he
  exact ⟨_, rfl, law_post hW' rfl (fun _ _ _ => (trodAll_cons_mk (shut_bool Try.underlying4 _) trodAll_mk0)) (fun sp hsp => trodAll_stays jn_laid hg (by kernel_rfl) hK (fun x hx => hW'.lt x (by first | exact hx | simpa using hx)) (fun x hx => hsp x (by first | exact hx | simpa using hx))) rfl hg⟩

theorem over : Rows.realDecodesRow.holds Try.pinned (OpenSpec.ofChange Rows.realDecodesSpec) :=
  OpenClaim.holds_of_wide 3 Try.f3 rfl rfl rfl rfl rfl rfl rfl ⟨rfl, rfl, rfl, rfl, rfl⟩ rfl rfl rfl rfl rfl (by kernel_rfl) Try.func3 closed
    (of_decide_eq_true (by kernel_rfl)) (by unfold Func.isWrapper; first | (rw [if_pos (by decide +kernel)]; kernel_rfl) | (rw [if_neg (by decide +kernel)]; exact ⟨rfl, rfl⟩))
    (fun os started H enc _ => lifted os started H enc)
end Go.Proofs.Ythjhcddkdplegaa.realDecodes
namespace Go.Proofs.Ythjhcddkdplegaa

/-- The statement. -/
theorem realDecodes_holds : Rows.RealDecodesSaid := realDecodes.over
end Go.Proofs.Ythjhcddkdplegaa
