
/- The law SurdReckons holds: sums, differences and products of numbers with two roots are the document's, and numbers of unlike fields are refused, for all arguments. -/
import Derived.Test.YtcldhekediegdaaGreatRows
import Derived.Test.YtcldhekediegdaaGreatRc
import Derived.Test.YtcldhekediegdaaGreatLawZ
import Derived.Test.YtcldhekediegdaaGreatVs
import Derived.Test.YtcldhekediegdaaGreatJn
set_option linter.unusedSimpArgs false
set_option linter.unusedVariables false
namespace Go.Proofs.YtcldhekediegdaaGreat
open Go.RowKit Go.IntWalk
set_option maxHeartbeats 16000000 in
theorem p_surdReckons (M0 N0 : Int) (u0 : (Lit.int .i64 M0).wf = true) (x0 : (Lit.int .i64 N0).wf = true) (ao0 : Option Addr) (n0 c0 : Nat) (a0 : List ByteArray) (e0 : n0 = a0.length) (w0 : ∀ s ∈ a0, s.size ≤ 9223372036854775807) (M1 N1 : Int) (u1 : (Lit.int .i64 M1).wf = true) (x1 : (Lit.int .i64 N1).wf = true) (ao1 : Option Addr) (n1 c1 : Nat) (a1 : List ByteArray) (e1 : n1 = a1.length) (w1 : ∀ s ∈ a1, s.size ≤ 9223372036854775807) :
    PCalls tb Tryz.prog 5 [.agg #[.int .i64 M0, .int .i64 N0, .slice ao0 n0 c0], .agg #[.int .i64 M1, .int .i64 N1, .slice ao1 n1 c1]] [RA ao0 (a0.map Value.string), RA ao1 (a1.map Value.string)] (IsV (.bool true)) := by
  refine PCalls.of_W tbOk Tryz.func5 rfl (by kernel_rfl) ?_
  refine W.cl [] (by kernel_rfl) (p_xmade M0 N0 u0 x0 ao0 n0 c0 a0 e0 w0) ?_
  rintro _ _ ⟨X1, Y1, rfl, rfl⟩
  refine W.cl [] (by kernel_rfl) (p_xmade M1 N1 u1 x1 ao1 n1 c1 a1 e1 w1) ?_
  rintro _ _ ⟨X2, Y2, rfl, rfl⟩
  refine W.cl [] (by kernel_rfl) (p_in M0 N0 ao0 n0 c0 M1 N1 ao1 n1 c1) ?_
  rintro _ _ ⟨rfl, rfl⟩
  refine W.cl [] (by kernel_rfl) (p_xmade M0 N0 u0 x0 ao1 n1 c1 a1 e1 w1) ?_
  rintro _ _ ⟨X4, Y4, rfl, rfl⟩
  refine W.cl [] (by kernel_rfl) (p_xknown) ?_
  rintro _ _ ⟨rfl, rfl⟩
  by_cases h0 : madeOk M0 N0 a0 = false
  · refine W.dt [50] 54 (!madeOk M0 N0 a0) (by kernel_rfl) (by rw [h0]; rfl) ?_
    refine W.cl [61, 58, 54] (by kernel_rfl) (p_xknown) ?_
    rintro _ _ ⟨rfl, rfl⟩
    exact W.r [] (.bool true) (by kernel_rfl) ⟨rfl, rfl⟩ ent0
  have h0 : madeOk M0 N0 a0 = true := by simpa using h0
  refine W.df [50] 54 (!madeOk M0 N0 a0) (by kernel_rfl) (by rw [h0]; rfl) ?_
  by_cases h1 : madeOk M1 N1 a1 = false
  · refine W.dt [54] 58 (!madeOk M1 N1 a1) (by kernel_rfl) (by rw [h1]; rfl) ?_
    refine W.cl [61, 58] (by kernel_rfl) (p_xknown) ?_
    rintro _ _ ⟨rfl, rfl⟩
    exact W.r [] (.bool true) (by kernel_rfl) ⟨rfl, rfl⟩ ent0
  have h1 : madeOk M1 N1 a1 = true := by simpa using h1
  refine W.df [54] 58 (!madeOk M1 N1 a1) (by kernel_rfl) (by rw [h1]; rfl) ?_
  by_cases h2 : madeOk M0 N0 a1 = false
  · refine W.dt [58] 61 (!madeOk M0 N0 a1) (by kernel_rfl) (by rw [h2]; rfl) ?_
    refine W.cl [61] (by kernel_rfl) (p_xknown) ?_
    rintro _ _ ⟨rfl, rfl⟩
    exact W.r [] (.bool true) (by kernel_rfl) ⟨rfl, rfl⟩ ent0
  have h2 : madeOk M0 N0 a1 = true := by simpa using h2
  refine W.df [58] 61 (!madeOk M0 N0 a1) (by kernel_rfl) (by rw [h2]; rfl) ?_
  refine W.code 999 ?_
  refine W.mf X1 Y1 (by kernel_rfl) h0 ?_
  refine W.mf X2 Y2 (by kernel_rfl) h1 ?_
  refine W.mf X4 Y4 (by kernel_rfl) h2 ?_
  by_cases hmn : M0 = M1 ∧ N0 = N1
  · obtain ⟨rfl, rfl⟩ := hmn
    refine W.cl [61] (by kernel_rfl) (p_xadd X1 X2 (by rfl) (by rfl)) ?_
    rintro _ _ ⟨X6, rfl, rfl⟩
    refine W.cl [] (by kernel_rfl) (p_xsub X1 X2 (by rfl) (by rfl)) ?_
    rintro _ _ ⟨X7, rfl, rfl⟩
    refine W.cl [] (by kernel_rfl) (p_xmul X1 X2 (by rfl) (by rfl)) ?_
    rintro _ _ ⟨X8, rfl, rfl⟩
    refine W.cl [] (by kernel_rfl) (p_xcmp X1 X2 (by rfl) (by rfl)) ?_
    rintro _ _ ⟨rfl, rfl⟩
    refine W.df [] 92 (M0 != M0) (by kernel_rfl) (by simp) ?_
    refine W.df [92] 98 (N0 != N0) (by kernel_rfl) (by simp) ?_
    refine W.cl [98] (by kernel_rfl) (p_xadd X1 X4 (by rfl) (by rfl)) ?_
    rintro _ _ ⟨X10, rfl, rfl⟩
    refine W.cl [] (by kernel_rfl) (p_xsub X1 X4 (by rfl) (by rfl)) ?_
    rintro _ _ ⟨X11, rfl, rfl⟩
    refine W.cl [] (by kernel_rfl) (p_xmul X1 X4 (by rfl) (by rfl)) ?_
    rintro _ _ ⟨X12, rfl, rfl⟩
    refine W.cl [141, 137, 133] (by kernel_rfl) (r_xadd Y1 Y4) ?_
    rintro _ _ ⟨Y13, rfl, rfl⟩
    refine W.cl [141] (by kernel_rfl) (p_xsame X10 Y13) ?_
    rintro _ _ ⟨rfl, rfl⟩
    refine W.cl [148, 141] (by kernel_rfl) (r_xneg Y4) ?_
    rintro _ _ ⟨Y15, rfl, rfl⟩
    refine W.cl [148] (by kernel_rfl) (r_xadd Y1 Y15) ?_
    rintro _ _ ⟨Y16, rfl, rfl⟩
    rw [Sn.sub_eq]
    refine W.cl [148] (by kernel_rfl) (p_xsame X11 Y16) ?_
    rintro _ _ ⟨rfl, rfl⟩
    refine W.cl [156, 148] (by kernel_rfl) (r_xmul Y1 Y4) ?_
    rintro _ _ ⟨Y18, rfl, rfl⟩
    refine W.cl [156] (by kernel_rfl) (p_xsame X12 Y18) ?_
    rintro _ _ ⟨rfl, rfl⟩
    refine W.cl [163, 156] (by kernel_rfl) (p_xneg X1) ?_
    rintro _ _ ⟨X20, rfl, rfl⟩
    refine W.cl [163] (by kernel_rfl) (r_xneg Y1) ?_
    rintro _ _ ⟨Y21, rfl, rfl⟩
    refine W.cl [163] (by kernel_rfl) (p_xsame X20 Y21) ?_
    rintro _ _ ⟨rfl, rfl⟩
    refine W.cl [170, 163] (by kernel_rfl) (p_xsame X2 Y2) ?_
    rintro _ _ ⟨rfl, rfl⟩
    exact W.r [170] (.bool true) (by kernel_rfl) ⟨rfl, rfl⟩ ent0
  · have hu : ¬ ((snOf M0 N0 a0).m = (snOf M1 N1 a1).m ∧ (snOf M0 N0 a0).n = (snOf M1 N1 a1).n) := hmn
    refine W.cl [61] (by kernel_rfl) (p_xaddE X1 X2 hu) ?_
    rintro _ _ ⟨rfl, rfl⟩
    refine W.cl [] (by kernel_rfl) (p_xsubE X1 X2 hu) ?_
    rintro _ _ ⟨rfl, rfl⟩
    refine W.cl [] (by kernel_rfl) (p_xmulE X1 X2 hu) ?_
    rintro _ _ ⟨rfl, rfl⟩
    refine W.cl [] (by kernel_rfl) (p_xcmpE X1 X2 hu) ?_
    rintro _ _ ⟨rfl, rfl⟩
    by_cases hM : M0 = M1
    · have hN : N0 ≠ N1 := fun h => hmn ⟨hM, h⟩
      refine W.df [] 92 (M0 != M1) (by kernel_rfl) (by simpa using hM) ?_
      refine W.dt [92] 98 (N0 != N1) (by kernel_rfl) (by simpa using hN) ?_
      refine W.cl [112, 109, 105, 101, 98] (by kernel_rfl) (p_xadd X1 X4 (by rfl) (by rfl)) ?_
      rintro _ _ ⟨X10, rfl, rfl⟩
      refine W.cl [] (by kernel_rfl) (p_xsub X1 X4 (by rfl) (by rfl)) ?_
      rintro _ _ ⟨X11, rfl, rfl⟩
      refine W.cl [] (by kernel_rfl) (p_xmul X1 X4 (by rfl) (by rfl)) ?_
      rintro _ _ ⟨X12, rfl, rfl⟩
      refine W.cl [141, 137, 133] (by kernel_rfl) (r_xadd Y1 Y4) ?_
      rintro _ _ ⟨Y13, rfl, rfl⟩
      refine W.cl [141] (by kernel_rfl) (p_xsame X10 Y13) ?_
      rintro _ _ ⟨rfl, rfl⟩
      refine W.cl [148, 141] (by kernel_rfl) (r_xneg Y4) ?_
      rintro _ _ ⟨Y15, rfl, rfl⟩
      refine W.cl [148] (by kernel_rfl) (r_xadd Y1 Y15) ?_
      rintro _ _ ⟨Y16, rfl, rfl⟩
      rw [Sn.sub_eq]
      refine W.cl [148] (by kernel_rfl) (p_xsame X11 Y16) ?_
      rintro _ _ ⟨rfl, rfl⟩
      refine W.cl [156, 148] (by kernel_rfl) (r_xmul Y1 Y4) ?_
      rintro _ _ ⟨Y18, rfl, rfl⟩
      refine W.cl [156] (by kernel_rfl) (p_xsame X12 Y18) ?_
      rintro _ _ ⟨rfl, rfl⟩
      refine W.cl [163, 156] (by kernel_rfl) (p_xneg X1) ?_
      rintro _ _ ⟨X20, rfl, rfl⟩
      refine W.cl [163] (by kernel_rfl) (r_xneg Y1) ?_
      rintro _ _ ⟨Y21, rfl, rfl⟩
      refine W.cl [163] (by kernel_rfl) (p_xsame X20 Y21) ?_
      rintro _ _ ⟨rfl, rfl⟩
      refine W.cl [170, 163] (by kernel_rfl) (p_xsame X2 Y2) ?_
      rintro _ _ ⟨rfl, rfl⟩
      exact W.r [170] (.bool true) (by kernel_rfl) ⟨rfl, rfl⟩ ent0
    · refine W.dt [] 92 (M0 != M1) (by kernel_rfl) (by simpa using hM) ?_
      refine W.cl [112, 109, 105, 101, 98, 92] (by kernel_rfl) (p_xadd X1 X4 (by rfl) (by rfl)) ?_
      rintro _ _ ⟨X10, rfl, rfl⟩
      refine W.cl [] (by kernel_rfl) (p_xsub X1 X4 (by rfl) (by rfl)) ?_
      rintro _ _ ⟨X11, rfl, rfl⟩
      refine W.cl [] (by kernel_rfl) (p_xmul X1 X4 (by rfl) (by rfl)) ?_
      rintro _ _ ⟨X12, rfl, rfl⟩
      refine W.cl [141, 137, 133] (by kernel_rfl) (r_xadd Y1 Y4) ?_
      rintro _ _ ⟨Y13, rfl, rfl⟩
      refine W.cl [141] (by kernel_rfl) (p_xsame X10 Y13) ?_
      rintro _ _ ⟨rfl, rfl⟩
      refine W.cl [148, 141] (by kernel_rfl) (r_xneg Y4) ?_
      rintro _ _ ⟨Y15, rfl, rfl⟩
      refine W.cl [148] (by kernel_rfl) (r_xadd Y1 Y15) ?_
      rintro _ _ ⟨Y16, rfl, rfl⟩
      rw [Sn.sub_eq]
      refine W.cl [148] (by kernel_rfl) (p_xsame X11 Y16) ?_
      rintro _ _ ⟨rfl, rfl⟩
      refine W.cl [156, 148] (by kernel_rfl) (r_xmul Y1 Y4) ?_
      rintro _ _ ⟨Y18, rfl, rfl⟩
      refine W.cl [156] (by kernel_rfl) (p_xsame X12 Y18) ?_
      rintro _ _ ⟨rfl, rfl⟩
      refine W.cl [163, 156] (by kernel_rfl) (p_xneg X1) ?_
      rintro _ _ ⟨X20, rfl, rfl⟩
      refine W.cl [163] (by kernel_rfl) (r_xneg Y1) ?_
      rintro _ _ ⟨Y21, rfl, rfl⟩
      refine W.cl [163] (by kernel_rfl) (p_xsame X20 Y21) ?_
      rintro _ _ ⟨rfl, rfl⟩
      refine W.cl [170, 163] (by kernel_rfl) (p_xsame X2 Y2) ?_
      rintro _ _ ⟨rfl, rfl⟩
      exact W.r [170] (.bool true) (by kernel_rfl) ⟨rfl, rfl⟩ ent0

end Go.Proofs.YtcldhekediegdaaGreat
namespace Go.Proofs.YtcldhekediegdaaGreat.surdReckons
open Go.ChangeShapes Go.WideShapes Go.ChangeAt Go.RowKit
open Go.ChangeMaps (open_string shut_string)

theorem closed : joinedFacts Tryz.pinned.checked.prog 5 Tryz.f5 Rows.surdReckonsSpec Rows.surdReckonsRow = true := by
  unfold joinedFacts
  rw [show Tryz.pinned.checked.prog.mayEnter = true from jn_enter, show (Rows.surdReckonsRow.lifted == Tryz.pinned.checked.prog.liftsFinal) = true from jn_lift, show (Tryz.pinned.checked.prog.make == some Rows.surdReckonsRow.make) = true from jn_make,
    show laidOutB Tryz.pinned.checked.prog = true from jn_laid, show mapsRowed Tryz.pinned.checked.prog = true from jn_maps]
  kernel_rfl

set_option maxRecDepth 100000 in
theorem lifted (os : Os) (started : os.Started) (H : Type) (enc : TypeId × Value → H) :
    ReturnsInHanded {} Tryz.checked os 5 .any (Rows.surdReckonsSpec.pre6 enc Tryz.prog Tryz.f5 Rows.surdReckonsRow.domain false) (Rows.surdReckonsSpec.post enc Tryz.prog Tryz.f5 false true false false) := by
  refine returnsInHanded_of_change (C := Tryz.checked) jn_own started (by kernel_rfl) Tryz.func5
    (ChangeSpec.witness6 (enc := enc) (C := Tryz.checked) false ⟨#[], #[.agg #[.int .i64 0, .int .i64 0, .slice none 0 0], .agg #[.int .i64 0, .int .i64 0, .slice none 0 0]], []⟩ 8 (by kernel_rfl) (by kernel_rfl) (by kernel_rfl) (by kernel_rfl)) ?_
  intro W base args ds gs before hval0 hW hcnd _
  have hval : ∀ (j : Nat) t v, Tryz.f5.params[j]? = some t → args[j]? = some v → Value.okWide Tryz.prog W .any base t v := hval0
  have hW' := hW
  obtain ⟨p, q, hA0, hV, rfl, hfz, hnd⟩ := hW
  have hA : DataW.TrodAll enc Tryz.prog W 0 (fun _ => true) true Tryz.f5.params.toList args.toList ds p := hA0
  have hK := hA
  rw [Tryz.params5] at hA hval hK
  obtain ⟨v0, vs0, d0, ds0, p0, q0, hargs, rfl, rfl, h0, r0⟩ := trodAll_cons hA
  obtain ⟨v1, vs1, d1, ds1, p1, q1, rfl, rfl, rfl, h1, r1⟩ := trodAll_cons r0
  obtain ⟨rfl, rfl, rfl⟩ := trodAll_nil r1
  obtain rfl : args = #[v0, v1] := by cases args; simp_all
  obtain ⟨rfl, rfl⟩ := trodVars_none hV
  obtain ⟨M0, N0, ao0, n0, c0, a0, rfl, u0, x0, e0, w0, g0⟩ := open_num Tryz.underlying24 (by kernel_rfl) ⟨rfl, rfl⟩ ⟨rfl, rfl⟩ ⟨rfl, rfl⟩ Tryz.underlying3 (by kernel_rfl) Tryz.underlying22 (by kernel_rfl) Tryz.underlying9 (by kernel_rfl) (hval 0 24 v0 rfl rfl) h0
  obtain ⟨M1, N1, ao1, n1, c1, a1, rfl, u1, x1, e1, w1, g1⟩ := open_num Tryz.underlying24 (by kernel_rfl) ⟨rfl, rfl⟩ ⟨rfl, rfl⟩ ⟨rfl, rfl⟩ Tryz.underlying3 (by kernel_rfl) Tryz.underlying22 (by kernel_rfl) Tryz.underlying9 (by kernel_rfl) (hval 1 24 v1 rfl rfl) h1
  clear hA0 hval0
  simp only [List.append_nil] at hW' hK
  refine (law_calls' (p_surdReckons M0 N0 u0 x0 ao0 n0 c0 a0 e0 w0 M1 N1 u1 x1 ao1 n1 c1 a1 e1 w1) W (Holds.cons g0 (Holds.cons g1 (Holds.nil _ _)))).mono fun e W' ⟨he, hg⟩ => ?_
  subst he
  exact ⟨_, rfl, law_post hW' rfl (fun _ _ _ => (trodAll_cons_mk (shut_bool Tryz.underlying4 _) trodAll_mk0)) (fun sp hsp => trodAll_stays jn_laid hg (by kernel_rfl) hK (fun x hx => hW'.lt x (by first | exact hx | simpa using hx)) (fun x hx => hsp x (by first | exact hx | simpa using hx))) rfl hg⟩

theorem over : Rows.surdReckonsRow.holds Tryz.pinned (OpenSpec.ofChange Rows.surdReckonsSpec) :=
  OpenClaim.holds_of_wide 5 Tryz.f5 rfl rfl rfl rfl rfl rfl rfl ⟨rfl, rfl, rfl, rfl, rfl⟩ rfl rfl rfl rfl rfl (by kernel_rfl) Tryz.func5 closed
    (of_decide_eq_true (by kernel_rfl)) (by unfold Func.isWrapper; first | (rw [if_pos (by decide +kernel)]; kernel_rfl) | (rw [if_neg (by decide +kernel)]; exact ⟨rfl, rfl⟩))
    (fun os started H enc _ => lifted os started H enc)
end Go.Proofs.YtcldhekediegdaaGreat.surdReckons
namespace Go.Proofs.YtcldhekediegdaaGreat

/-- The statement. -/
theorem surdReckons_holds : Rows.SurdReckonsSaid := surdReckons.over
end Go.Proofs.YtcldhekediegdaaGreat
