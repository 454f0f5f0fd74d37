
/- SurdRounds: the whole numbers below, and nearest to, a number are the document's. No conditions. -/
import Derived.Test.YtabpaiboodllbaaGreatRows
import Derived.Test.YtabpaiboodllbaaGreatRx
import Derived.Test.YtabpaiboodllbaaGreatLawZ
import Derived.Test.YtabpaiboodllbaaGreatVs
import Derived.Test.YtabpaiboodllbaaGreatJn
set_option linter.unusedSimpArgs false
set_option linter.unusedVariables false
namespace Go.Proofs.YtabpaiboodllbaaGreat
open Go.RowKit Go.IntWalk
set_option maxHeartbeats 16000000 in
theorem p_surdRounds (M0 N0 : Int) (u0 : (Lit.int .i64 M0).wf = true) (x0 : (Lit.int .i64 N0).wf = true) (ao0 : Option Addr) (n0 c0 : Nat) (a0 : List ByteArray) (e0 : n0 = a0.length) (w0 : ∀ s ∈ a0, s.size ≤ 9223372036854775807) :
    PCalls tb Tryz.prog 3 [.agg #[.int .i64 M0, .int .i64 N0, .slice ao0 n0 c0]] [RA ao0 (a0.map Value.string)] (IsV (.bool true)) := by
  refine PCalls.of_W tbOk Tryz.func3 rfl (by kernel_rfl) ?_
  refine W.cl [] (by kernel_rfl) (p_xmade M0 N0 u0 x0 ao0 n0 c0 a0 e0 w0) ?_
  rintro _ _ ⟨X1, Y1, rfl, rfl⟩
  refine W.cl [] (by kernel_rfl) (p_xknown) ?_
  rintro _ _ ⟨rfl, rfl⟩
  by_cases h0 : madeOk M0 N0 a0 = false
  · refine W.dt [14] 17 (!madeOk M0 N0 a0) (by kernel_rfl) (by rw [h0]; rfl) ?_
    refine W.cl [17] (by kernel_rfl) (p_xknown) ?_
    rintro _ _ ⟨rfl, rfl⟩
    exact W.r [] (.bool true) (by kernel_rfl) ⟨rfl, rfl⟩ ent0
  have h0 : madeOk M0 N0 a0 = true := by simpa using h0
  refine W.df [14] 17 (!madeOk M0 N0 a0) (by kernel_rfl) (by rw [h0]; rfl) ?_
  obtain ⟨hm0, hn0⟩ := madeOk_pos h0
  have cm := int_pow (wf64 u0)
  have cn := int_pow (wf64 x0)
  have hb := snOf_bits h0
  refine W.code 999 ?_
  refine W.mf X1 Y1 (by kernel_rfl) h0 ?_
  refine W.cl [17] (by kernel_rfl) (p_xfl X1 hm0 hn0) ?_
  rintro _ _ ⟨u3, d3, rfl, rfl⟩   -- ((snOf M0 N0 a0).fl)
  refine W.cl [] (by kernel_rfl) (p_ztext u3 d3 (by decide)) ?_
  rintro _ _ ⟨rfl, rfl⟩
  refine W.cl [] (by kernel_rfl) (r_floorE Y1 hb hm0 hn0 cm cn (by decide) (by decide) (by decide)) ?_
  rintro _ _ ⟨S5, t5, rfl, rfl⟩   -- (snOf M0 N0 a0).fl
  refine W.cl [] (by kernel_rfl) (p_ytext S5 t5 (by decide)) ?_
  rintro _ _ ⟨rfl, rfl⟩
  refine W.dt [] 26 ((ztxt ((snOf M0 N0 a0).fl)).toList == (ztxt (snOf M0 N0 a0).fl).toList) (by kernel_rfl) (by simp) ?_
  refine W.cl [26] (by kernel_rfl) (p_xnr X1 hm0 hn0) ?_
  rintro _ _ ⟨u7, d7, rfl, rfl⟩   -- ((snOf M0 N0 a0).nr)
  refine W.cl [26] (by kernel_rfl) (p_ztext u7 d7 (by decide)) ?_
  rintro _ _ ⟨rfl, rfl⟩
  refine W.cl [26] (by kernel_rfl) (r_nearE Y1 hb hm0 hn0 cm cn (by decide) (by decide) (by decide)) ?_
  rintro _ _ ⟨S9, t9, rfl, rfl⟩   -- (snOf M0 N0 a0).nr
  refine W.cl [26] (by kernel_rfl) (p_ytext S9 t9 (by decide)) ?_
  rintro _ _ ⟨rfl, rfl⟩
  exact W.r [26] (.bool ((ztxt ((snOf M0 N0 a0).nr)).toList == (ztxt (snOf M0 N0 a0).nr).toList)) (by kernel_rfl) ⟨congrArg _ (by simp), rfl⟩ ent0

end Go.Proofs.YtabpaiboodllbaaGreat
namespace Go.Proofs.YtabpaiboodllbaaGreat.surdRounds
open Go.ChangeShapes Go.WideShapes Go.ChangeAt Go.RowKit
open Go.ChangeMaps (open_string shut_string)

theorem closed : joinedFacts Tryz.pinned.checked.prog 3 Tryz.f3 Rows.surdRoundsSpec Rows.surdRoundsRow = true := by
  unfold joinedFacts
  rw [show Tryz.pinned.checked.prog.mayEnter = true from jn_enter, show (Rows.surdRoundsRow.lifted == Tryz.pinned.checked.prog.liftsFinal) = true from jn_lift, show (Tryz.pinned.checked.prog.make == some Rows.surdRoundsRow.make) = true from jn_make,
    show laidOutB Tryz.pinned.checked.prog = true from jn_laid, show mapsRowed Tryz.pinned.checked.prog = true from jn_maps]
  kernel_rfl

set_option maxRecDepth 100000 in
theorem lifted (os : Os) (started : os.Started) (H : Type) (enc : TypeId × Value → H) :
    ReturnsInHanded {} Tryz.checked os 3 .any (Rows.surdRoundsSpec.pre6 enc Tryz.prog Tryz.f3 Rows.surdRoundsRow.domain false) (Rows.surdRoundsSpec.post enc Tryz.prog Tryz.f3 false true false false) := by
  refine returnsInHanded_of_change (C := Tryz.checked) jn_own started (by kernel_rfl) Tryz.func3
    (ChangeSpec.witness6 (enc := enc) (C := Tryz.checked) false ⟨#[], #[.agg #[.int .i64 0, .int .i64 0, .slice none 0 0]], []⟩ 8 (by kernel_rfl) (by kernel_rfl) (by kernel_rfl) (by kernel_rfl)) ?_
  intro W base args ds gs before hval0 hW hcnd _
  have hval : ∀ (j : Nat) t v, Tryz.f3.params[j]? = some t → args[j]? = some v → Value.okWide Tryz.prog W .any base t v := hval0
  have hW' := hW
  obtain ⟨p, q, hA0, hV, rfl, hfz, hnd⟩ := hW
  have hA : DataW.TrodAll enc Tryz.prog W 0 (fun _ => true) true Tryz.f3.params.toList args.toList ds p := hA0
  have hK := hA
  rw [Tryz.params3] at hA hval hK
  obtain ⟨v0, vs0, d0, ds0, p0, q0, hargs, rfl, rfl, h0, r0⟩ := trodAll_cons hA
  obtain ⟨rfl, rfl, rfl⟩ := trodAll_nil r0
  obtain rfl : args = #[v0] := by cases args; simp_all
  obtain ⟨rfl, rfl⟩ := trodVars_none hV
  obtain ⟨M0, N0, ao0, n0, c0, a0, rfl, u0, x0, e0, w0, g0⟩ := open_num Tryz.underlying24 (by kernel_rfl) ⟨rfl, rfl⟩ ⟨rfl, rfl⟩ ⟨rfl, rfl⟩ Tryz.underlying3 (by kernel_rfl) Tryz.underlying22 (by kernel_rfl) Tryz.underlying9 (by kernel_rfl) (hval 0 24 v0 rfl rfl) h0
  clear hA0 hval0
  simp only [List.append_nil] at hW' hK
  refine (law_calls' (p_surdRounds M0 N0 u0 x0 ao0 n0 c0 a0 e0 w0) W (Holds.cons g0 (Holds.nil _ _))).mono fun e W' ⟨he, hg⟩ => ?_
  subst he
  exact ⟨_, rfl, law_post hW' rfl (fun _ _ _ => (trodAll_cons_mk (shut_bool Tryz.underlying4 _) trodAll_mk0)) (fun sp hsp => trodAll_stays jn_laid hg (by kernel_rfl) hK (fun x hx => hW'.lt x (by first | exact hx | simpa using hx)) (fun x hx => hsp x (by first | exact hx | simpa using hx))) rfl hg⟩

theorem over : Rows.surdRoundsRow.holds Tryz.pinned (OpenSpec.ofChange Rows.surdRoundsSpec) :=
  OpenClaim.holds_of_wide 3 Tryz.f3 rfl rfl rfl rfl rfl rfl rfl ⟨rfl, rfl, rfl, rfl, rfl⟩ rfl rfl rfl rfl rfl (by kernel_rfl) Tryz.func3 closed
    (of_decide_eq_true (by kernel_rfl)) (by unfold Func.isWrapper; first | (rw [if_pos (by decide +kernel)]; kernel_rfl) | (rw [if_neg (by decide +kernel)]; exact ⟨rfl, rfl⟩))
    (fun os started H enc _ => lifted os started H enc)
end Go.Proofs.YtabpaiboodllbaaGreat.surdRounds
namespace Go.Proofs.YtabpaiboodllbaaGreat

/-- The statement. -/
theorem surdRounds_holds : Rows.SurdRoundsSaid := surdRounds.over
end Go.Proofs.YtabpaiboodllbaaGreat
