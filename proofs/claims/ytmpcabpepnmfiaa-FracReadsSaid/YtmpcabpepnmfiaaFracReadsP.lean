/- FracReads: whatever the text, the law returns true; no condition. -/
import Derived.Test.YtmpcabpepnmfiaaRows
import Derived.Test.YtmpcabpepnmfiaaFl
import Derived.Test.YtmpcabpepnmfiaaLawZ
import Derived.Test.YtmpcabpepnmfiaaVx
import Derived.Test.YtmpcabpepnmfiaaJn
set_option linter.unusedSimpArgs false
set_option linter.unusedVariables false
namespace Go.Proofs.Ytmpcabpepnmfiaa
open Go.RowKit Go.IntWalk
theorem qval_err {s : ByteArray} (h : qerr s ≠ 0) : qval s = 0 := by unfold qval; rw [if_pos h]
set_option maxHeartbeats 1000000 in
theorem p_fracReads (x : ByteArray) (hx : x.size ≤ 9223372036854775807) : PCalls tb Try.prog 9 [.string x] [] (IsV (.bool true)) := by
  refine PCalls.of_W tbOk Try.func9 rfl (by kernel_rfl) ?_
  by_cases h300 : 300 < x.size
  · refine W.dt [] 11 (decide ((x.size : Int) > 300)) (by kernel_rfl) (by rw [decide_eq_true_iff]; omega) ?_
    refine W.sub' [11] x none (some (.int .i64 ((300 : Nat) : Int))) 0 300 tbOk (by kernel_rfl) (.inr ⟨rfl, rfl⟩) (.inl rfl) (by omega) (by omega) ?_
    have hsz : (x.extract 0 300).size ≤ 300 := by rw [ByteArray.size_extract]; omega
    generalize x.extract 0 300 = s at hsz ⊢
    refine W.cl [] (by kernel_rfl) (p_qparse s (by omega)) ?_
    rintro _ _ ⟨n2, a2, m2, b2, rfl, rfl⟩
    refine W.cl [] (by kernel_rfl) ((s_parse s (by omega)).info (fun v Δ => ∀ S t R r L, Δ = [PF S t R r (L, qval s)] → S = (qval s).num.sign) (by
      rintro v Δ - I w hh S t R r L rfl
      exact pf_sign (hh _ (.head _)))) ?_
    rintro _ _ ⟨⟨S3, s3, R3, t3, rfl, rfl⟩, hS⟩
    have hS := hS _ _ _ _ _ rfl
    refine W.cl [] (by kernel_rfl) (p_qknown) ?_
    rintro _ _ ⟨rfl, rfl⟩
    refine W.df [26] 30 ((qerr s) != (qerr s)) (by kernel_rfl) (by simp) ?_
    by_cases h0 : qerr s = 0
    · rw [h0]
      generalize qval s = q at *
      refine W.df [30] 32 ((0 : Int) != 0) (by kernel_rfl) rfl ?_
      refine W.cl [32] (by kernel_rfl) (s_lowest S3 s3 R3 t3) ?_
      rintro _ _ ⟨S5, t5, R5, r5, rfl, rfl⟩
      refine W.cl [] (by kernel_rfl) (p_qsame n2 a2 m2 b2 S3 s3 R3 t3) ?_
      rintro _ _ ⟨rfl, rfl⟩
      refine W.cl [44] (by kernel_rfl) (p_qnum n2 a2 m2 b2) ?_
      rintro _ _ ⟨u7, d7, rfl, rfl⟩
      refine W.cl [44] (by kernel_rfl) (p_ztext u7 d7) ?_
      rintro _ _ ⟨rfl, rfl⟩
      refine W.cl [44] (by kernel_rfl) (p_ytext S5 t5) ?_
      rintro _ _ ⟨rfl, rfl⟩
      refine W.dt [44] 52 ((ztxt q.num).toList == (ztxt q.num).toList) (by kernel_rfl) (by simp) ?_
      refine W.cl [52] (by kernel_rfl) (p_qden n2 a2 m2 b2) ?_
      rintro _ _ ⟨u10, d10, rfl, rfl⟩
      refine W.cl [52] (by kernel_rfl) (p_ztext u10 d10) ?_
      rintro _ _ ⟨rfl, rfl⟩
      refine W.cl [52] (by kernel_rfl) (p_ytext R5 r5) ?_
      rintro _ _ ⟨rfl, rfl⟩
      refine W.dt [52] 60 ((ztxt (q.den : Int)).toList == (ztxt (q.den : Int)).toList) (by kernel_rfl) (by simp) ?_
      refine W.cl [60] (by kernel_rfl) (p_qsign n2 a2 m2 b2) ?_
      rintro _ _ ⟨rfl, rfl⟩
      exact W.r [60] (.bool (q.num.sign == S3)) (by kernel_rfl) ⟨by rw [hS]; simp, rfl⟩ ent0
    · have hv := qval_err h0
      refine W.dt [30] 32 ((qerr s) != 0) (by kernel_rfl) (by simpa using h0) ?_
      refine W.cl [32] (by kernel_rfl) (p_qtext n2 a2 m2 b2) ?_
      rintro _ _ ⟨rfl, rfl⟩
      refine W.r [] (.bool ((qtxt (qval s)).toList == (⟨#[48]⟩ : ByteArray).toList)) (by kernel_rfl) ⟨?_, rfl⟩ ent0
      rw [hv, show ((qtxt 0).toList == (⟨#[48]⟩ : ByteArray).toList) = true from by decide +kernel]
  · refine W.df [] 11 (decide ((x.size : Int) > 300)) (by kernel_rfl) (by rw [decide_eq_false_iff_not]; omega) ?_
    have hsz : x.size ≤ 300 := by omega
    generalize x = s at hsz ⊢
    refine W.cl [11] (by kernel_rfl) (p_qparse s (by omega)) ?_
    rintro _ _ ⟨n2, a2, m2, b2, rfl, rfl⟩
    refine W.cl [] (by kernel_rfl) ((s_parse s (by omega)).info (fun v Δ => ∀ S t R r L, Δ = [PF S t R r (L, qval s)] → S = (qval s).num.sign) (by
      rintro v Δ - I w hh S t R r L rfl
      exact pf_sign (hh _ (.head _)))) ?_
    rintro _ _ ⟨⟨S3, s3, R3, t3, rfl, rfl⟩, hS⟩
    have hS := hS _ _ _ _ _ rfl
    refine W.cl [] (by kernel_rfl) (p_qknown) ?_
    rintro _ _ ⟨rfl, rfl⟩
    refine W.df [26] 30 ((qerr s) != (qerr s)) (by kernel_rfl) (by simp) ?_
    by_cases h0 : qerr s = 0
    · rw [h0]
      generalize qval s = q at *
      refine W.df [30] 32 ((0 : Int) != 0) (by kernel_rfl) rfl ?_
      refine W.cl [32] (by kernel_rfl) (s_lowest S3 s3 R3 t3) ?_
      rintro _ _ ⟨S5, t5, R5, r5, rfl, rfl⟩
      refine W.cl [] (by kernel_rfl) (p_qsame n2 a2 m2 b2 S3 s3 R3 t3) ?_
      rintro _ _ ⟨rfl, rfl⟩
      refine W.cl [44] (by kernel_rfl) (p_qnum n2 a2 m2 b2) ?_
      rintro _ _ ⟨u7, d7, rfl, rfl⟩
      refine W.cl [44] (by kernel_rfl) (p_ztext u7 d7) ?_
      rintro _ _ ⟨rfl, rfl⟩
      refine W.cl [44] (by kernel_rfl) (p_ytext S5 t5) ?_
      rintro _ _ ⟨rfl, rfl⟩
      refine W.dt [44] 52 ((ztxt q.num).toList == (ztxt q.num).toList) (by kernel_rfl) (by simp) ?_
      refine W.cl [52] (by kernel_rfl) (p_qden n2 a2 m2 b2) ?_
      rintro _ _ ⟨u10, d10, rfl, rfl⟩
      refine W.cl [52] (by kernel_rfl) (p_ztext u10 d10) ?_
      rintro _ _ ⟨rfl, rfl⟩
      refine W.cl [52] (by kernel_rfl) (p_ytext R5 r5) ?_
      rintro _ _ ⟨rfl, rfl⟩
      refine W.dt [52] 60 ((ztxt (q.den : Int)).toList == (ztxt (q.den : Int)).toList) (by kernel_rfl) (by simp) ?_
      refine W.cl [60] (by kernel_rfl) (p_qsign n2 a2 m2 b2) ?_
      rintro _ _ ⟨rfl, rfl⟩
      exact W.r [60] (.bool (q.num.sign == S3)) (by kernel_rfl) ⟨by rw [hS]; simp, rfl⟩ ent0
    · have hv := qval_err h0
      refine W.dt [30] 32 ((qerr s) != 0) (by kernel_rfl) (by simpa using h0) ?_
      refine W.cl [32] (by kernel_rfl) (p_qtext n2 a2 m2 b2) ?_
      rintro _ _ ⟨rfl, rfl⟩
      refine W.r [] (.bool ((qtxt (qval s)).toList == (⟨#[48]⟩ : ByteArray).toList)) (by kernel_rfl) ⟨?_, rfl⟩ ent0
      rw [hv, show ((qtxt 0).toList == (⟨#[48]⟩ : ByteArray).toList) = true from by decide +kernel]

end Go.Proofs.Ytmpcabpepnmfiaa
namespace Go.Proofs.Ytmpcabpepnmfiaa.fracReads
open Go.ChangeShapes Go.WideShapes Go.ChangeAt Go.RowKit
open Go.ChangeMaps (open_string shut_string)

theorem closed : joinedFacts Try.pinned.checked.prog 9 Try.f9 Rows.fracReadsSpec Rows.fracReadsRow = true := by
  unfold joinedFacts
  rw [show Try.pinned.checked.prog.mayEnter = true from jn_enter, show (Rows.fracReadsRow.lifted == Try.pinned.checked.prog.liftsFinal) = true from jn_lift, show (Try.pinned.checked.prog.make == some Rows.fracReadsRow.make) = true from jn_make,
    show laidOutB Try.pinned.checked.prog = true from jn_laid, show mapsRowed Try.pinned.checked.prog = true from jn_maps]
  kernel_rfl

set_option maxRecDepth 100000 in
theorem lifted (os : Os) (started : os.Started) (H : Type) (enc : TypeId × Value → H) :
    ReturnsInHanded {} Try.checked os 9 .any (Rows.fracReadsSpec.pre6 enc Try.prog Try.f9 Rows.fracReadsRow.domain false) (Rows.fracReadsSpec.post enc Try.prog Try.f9 false true false false) := by
  refine returnsInHanded_of_change (C := Try.checked) jn_own started (by kernel_rfl) Try.func9
    (ChangeSpec.witness6 (enc := enc) (C := Try.checked) false ⟨#[], #[.string ⟨#[]⟩], []⟩ 8 (by kernel_rfl) (by kernel_rfl) (by kernel_rfl) (by kernel_rfl)) ?_
  intro W base args ds gs before hval0 hW hcnd _
  have hval : ∀ (j : Nat) t v, Try.f9.params[j]? = some t → args[j]? = some v → Value.okWide Try.prog W .any base t v := hval0
  have hW' := hW
  obtain ⟨p, q, hA0, hV, rfl, hfz, hnd⟩ := hW
  have hA : DataW.TrodAll enc Try.prog W 0 (fun _ => true) true Try.f9.params.toList args.toList ds p := hA0
  have hK := hA
  rw [Try.params9] at hA hval hK
  obtain ⟨v0, vs0, d0, ds0, p0, q0, hargs, rfl, rfl, h0, r0⟩ := trodAll_cons hA
  obtain ⟨rfl, rfl, rfl⟩ := trodAll_nil r0
  obtain rfl : args = #[v0] := by cases args; simp_all
  obtain ⟨rfl, rfl⟩ := trodVars_none hV
  obtain ⟨a0, rfl, rfl, rfl, w0⟩ := open_string Try.underlying9 (hval 0 9 v0 rfl rfl) h0
  clear hA0 hval0
  simp only [List.append_nil] at hW' hK
  refine (law_calls' (p_fracReads a0 w0) W (Holds.nil _ _)).mono fun e W' ⟨he, hg⟩ => ?_
  subst he
  exact ⟨_, rfl, law_post hW' rfl (fun _ _ _ => (trodAll_cons_mk (shut_bool Try.underlying4 _) trodAll_mk0)) (fun sp hsp => trodAll_stays jn_laid hg (by kernel_rfl) hK (fun x hx => hW'.lt x (by first | exact hx | simpa using hx)) (fun x hx => hsp x (by first | exact hx | simpa using hx))) rfl hg⟩

theorem over : Rows.fracReadsRow.holds Try.pinned (OpenSpec.ofChange Rows.fracReadsSpec) :=
  OpenClaim.holds_of_wide 9 Try.f9 rfl rfl rfl rfl rfl rfl rfl ⟨rfl, rfl, rfl, rfl, rfl⟩ rfl rfl rfl rfl rfl (by kernel_rfl) Try.func9 closed
    (of_decide_eq_true (by kernel_rfl)) (by unfold Func.isWrapper; first | (rw [if_pos (by decide +kernel)]; kernel_rfl) | (rw [if_neg (by decide +kernel)]; exact ⟨rfl, rfl⟩))
    (fun os started H enc _ => lifted os started H enc)
end Go.Proofs.Ytmpcabpepnmfiaa.fracReads
namespace Go.Proofs.Ytmpcabpepnmfiaa

/-- The statement. -/
theorem fracReads_holds : Rows.FracReadsSaid := fracReads.over
end Go.Proofs.Ytmpcabpepnmfiaa
