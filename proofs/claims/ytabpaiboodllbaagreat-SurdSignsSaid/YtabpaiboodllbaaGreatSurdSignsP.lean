
/- SurdSigns: on which side of 0 a number lies, and which of two is greater, is the document's, however near they come. No conditions. -/
import Derived.Test.YtabpaiboodllbaaGreatRows
import Derived.Test.YtabpaiboodllbaaGreatRu
import Derived.Test.YtabpaiboodllbaaGreatLawZ
import Derived.Test.YtabpaiboodllbaaGreatVs
import Derived.Test.YtabpaiboodllbaaGreatJn
set_option linter.unusedSimpArgs false
set_option linter.unusedVariables false
namespace Go.Proofs.YtabpaiboodllbaaGreat
open Go.RowKit Go.IntWalk
set_option maxHeartbeats 16000000 in
theorem p_surdSigns (M0 N0 : Int) (u0 : (Lit.int .i64 M0).wf = true) (x0 : (Lit.int .i64 N0).wf = true) (ao0 : Option Addr) (n0 c0 : Nat) (a0 : List ByteArray) (e0 : n0 = a0.length) (w0 : ∀ s ∈ a0, s.size ≤ 9223372036854775807) (M1 N1 : Int) (u1 : (Lit.int .i64 M1).wf = true) (x1 : (Lit.int .i64 N1).wf = true) (ao1 : Option Addr) (n1 c1 : Nat) (a1 : List ByteArray) (e1 : n1 = a1.length) (w1 : ∀ s ∈ a1, s.size ≤ 9223372036854775807) :
    PCalls tb Tryz.prog 4 [.agg #[.int .i64 M0, .int .i64 N0, .slice ao0 n0 c0], .agg #[.int .i64 M1, .int .i64 N1, .slice ao1 n1 c1]] [RA ao0 (a0.map Value.string), RA ao1 (a1.map Value.string)] (IsV (.bool true)) := by
  refine PCalls.of_W tbOk Tryz.func4 rfl (by kernel_rfl) ?_
  refine W.cl [] (by kernel_rfl) (p_xmade M0 N0 u0 x0 ao0 n0 c0 a0 e0 w0) ?_
  rintro _ _ ⟨X1, Y1, rfl, rfl⟩
  refine W.cl [] (by kernel_rfl) (p_in M0 N0 ao0 n0 c0 M1 N1 ao1 n1 c1) ?_
  rintro _ _ ⟨rfl, rfl⟩
  refine W.cl [] (by kernel_rfl) (p_xmade M0 N0 u0 x0 ao1 n1 c1 a1 e1 w1) ?_
  rintro _ _ ⟨X3, Y3, rfl, rfl⟩
  refine W.cl [] (by kernel_rfl) (p_xknown) ?_
  rintro _ _ ⟨rfl, rfl⟩
  by_cases h0 : madeOk M0 N0 a0 = false
  · refine W.dt [29] 33 (!madeOk M0 N0 a0) (by kernel_rfl) (by rw [h0]; rfl) ?_
    refine W.cl [36, 33] (by kernel_rfl) (p_xknown) ?_
    rintro _ _ ⟨rfl, rfl⟩
    exact W.r [] (.bool true) (by kernel_rfl) ⟨rfl, rfl⟩ ent0
  have h0 : madeOk M0 N0 a0 = true := by simpa using h0
  refine W.df [29] 33 (!madeOk M0 N0 a0) (by kernel_rfl) (by rw [h0]; rfl) ?_
  by_cases h1 : madeOk M0 N0 a1 = false
  · refine W.dt [33] 36 (!madeOk M0 N0 a1) (by kernel_rfl) (by rw [h1]; rfl) ?_
    refine W.cl [36] (by kernel_rfl) (p_xknown) ?_
    rintro _ _ ⟨rfl, rfl⟩
    exact W.r [] (.bool true) (by kernel_rfl) ⟨rfl, rfl⟩ ent0
  have h1 : madeOk M0 N0 a1 = true := by simpa using h1
  refine W.df [33] 36 (!madeOk M0 N0 a1) (by kernel_rfl) (by rw [h1]; rfl) ?_
  obtain ⟨hm0, hn0⟩ := madeOk_pos h0
  have cm := int_pow (wf64 u0)
  have cn := int_pow (wf64 x0)
  have s1 := sepS (snOf_bits h0) hm0 hn0 cm cn (by decide)
  have s2 := sepS (S := Sn.sub (snOf M0 N0 a0) (snOf M0 N0 a1)) ((snOf_bits h0).sub (snOf_bits h1)) hm0 hn0 cm cn (by decide)
  refine W.code 999 ?_
  refine W.mf X1 Y1 (by kernel_rfl) h0 ?_
  refine W.mf X3 Y3 (by kernel_rfl) h1 ?_
  refine W.cl [36] (by kernel_rfl) (p_xcmp X1 X3 (by rfl) (by rfl)) ?_
  rintro _ _ ⟨rfl, rfl⟩
  refine W.cl [] (by kernel_rfl) (p_xsign X1) ?_
  rintro _ _ ⟨rfl, rfl⟩
  refine W.cl [] (by kernel_rfl) (r_sgn Y1 hm0 hn0 s1) ?_
  rintro _ _ ⟨rfl, rfl⟩
  refine W.dt [] 49 ((snOf M0 N0 a0).sg == (snOf M0 N0 a0).sg) (by kernel_rfl) (by simp) ?_
  refine W.cl [53, 49] (by kernel_rfl) (r_xneg Y3) ?_
  rintro _ _ ⟨Y8, rfl, rfl⟩   -- ((snOf M0 N0 a1).neg)
  refine W.cl [53] (by kernel_rfl) (r_xadd Y1 Y8) ?_
  rintro _ _ ⟨Y9, rfl, rfl⟩   -- ((snOf M0 N0 a0).add ((snOf M0 N0 a1).neg))
  rw [Sn.sub_eq]
  refine W.cl [53] (by kernel_rfl) (r_sgn Y9 hm0 hn0 s2) ?_
  rintro _ _ ⟨rfl, rfl⟩
  exact W.r [53] (.bool ((((snOf M0 N0 a0)).sub (snOf M0 N0 a1)).sg == ((snOf M0 N0 a0).sub (snOf M0 N0 a1)).sg)) (by kernel_rfl) ⟨congrArg _ (by simp), rfl⟩ ent0

end Go.Proofs.YtabpaiboodllbaaGreat
namespace Go.Proofs.YtabpaiboodllbaaGreat.surdSigns
open Go.ChangeShapes Go.WideShapes Go.ChangeAt Go.RowKit
open Go.ChangeMaps (open_string shut_string)

theorem closed : joinedFacts Tryz.pinned.checked.prog 4 Tryz.f4 Rows.surdSignsSpec Rows.surdSignsRow = true := by
  unfold joinedFacts
  rw [show Tryz.pinned.checked.prog.mayEnter = true from jn_enter, show (Rows.surdSignsRow.lifted == Tryz.pinned.checked.prog.liftsFinal) = true from jn_lift, show (Tryz.pinned.checked.prog.make == some Rows.surdSignsRow.make) = true from jn_make,
    show laidOutB Tryz.pinned.checked.prog = true from jn_laid, show mapsRowed Tryz.pinned.checked.prog = true from jn_maps]
  kernel_rfl

set_option maxRecDepth 100000 in
theorem lifted (os : Os) (started : os.Started) (H : Type) (enc : TypeId × Value → H) :
    ReturnsInHanded {} Tryz.checked os 4 .any (Rows.surdSignsSpec.pre6 enc Tryz.prog Tryz.f4 Rows.surdSignsRow.domain false) (Rows.surdSignsSpec.post enc Tryz.prog Tryz.f4 false true false false) := by
  refine returnsInHanded_of_change (C := Tryz.checked) jn_own started (by kernel_rfl) Tryz.func4
    (ChangeSpec.witness6 (enc := enc) (C := Tryz.checked) false ⟨#[], #[.agg #[.int .i64 0, .int .i64 0, .slice none 0 0], .agg #[.int .i64 0, .int .i64 0, .slice none 0 0]], []⟩ 8 (by kernel_rfl) (by kernel_rfl) (by kernel_rfl) (by kernel_rfl)) ?_
  intro W base args ds gs before hval0 hW hcnd _
  have hval : ∀ (j : Nat) t v, Tryz.f4.params[j]? = some t → args[j]? = some v → Value.okWide Tryz.prog W .any base t v := hval0
  have hW' := hW
  obtain ⟨p, q, hA0, hV, rfl, hfz, hnd⟩ := hW
  have hA : DataW.TrodAll enc Tryz.prog W 0 (fun _ => true) true Tryz.f4.params.toList args.toList ds p := hA0
  have hK := hA
  rw [Tryz.params4] at hA hval hK
  obtain ⟨v0, vs0, d0, ds0, p0, q0, hargs, rfl, rfl, h0, r0⟩ := trodAll_cons hA
  obtain ⟨v1, vs1, d1, ds1, p1, q1, rfl, rfl, rfl, h1, r1⟩ := trodAll_cons r0
  obtain ⟨rfl, rfl, rfl⟩ := trodAll_nil r1
  obtain rfl : args = #[v0, v1] := by cases args; simp_all
  obtain ⟨rfl, rfl⟩ := trodVars_none hV
  obtain ⟨M0, N0, ao0, n0, c0, a0, rfl, u0, x0, e0, w0, g0⟩ := open_num Tryz.underlying24 (by kernel_rfl) ⟨rfl, rfl⟩ ⟨rfl, rfl⟩ ⟨rfl, rfl⟩ Tryz.underlying3 (by kernel_rfl) Tryz.underlying22 (by kernel_rfl) Tryz.underlying9 (by kernel_rfl) (hval 0 24 v0 rfl rfl) h0
  obtain ⟨M1, N1, ao1, n1, c1, a1, rfl, u1, x1, e1, w1, g1⟩ := open_num Tryz.underlying24 (by kernel_rfl) ⟨rfl, rfl⟩ ⟨rfl, rfl⟩ ⟨rfl, rfl⟩ Tryz.underlying3 (by kernel_rfl) Tryz.underlying22 (by kernel_rfl) Tryz.underlying9 (by kernel_rfl) (hval 1 24 v1 rfl rfl) h1
  clear hA0 hval0
  simp only [List.append_nil] at hW' hK
  refine (law_calls' (p_surdSigns M0 N0 u0 x0 ao0 n0 c0 a0 e0 w0 M1 N1 u1 x1 ao1 n1 c1 a1 e1 w1) W (Holds.cons g0 (Holds.cons g1 (Holds.nil _ _)))).mono fun e W' ⟨he, hg⟩ => ?_
  subst he
  exact ⟨_, rfl, law_post hW' rfl (fun _ _ _ => (trodAll_cons_mk (shut_bool Tryz.underlying4 _) trodAll_mk0)) (fun sp hsp => trodAll_stays jn_laid hg (by kernel_rfl) hK (fun x hx => hW'.lt x (by first | exact hx | simpa using hx)) (fun x hx => hsp x (by first | exact hx | simpa using hx))) rfl hg⟩

theorem over : Rows.surdSignsRow.holds Tryz.pinned (OpenSpec.ofChange Rows.surdSignsSpec) :=
  OpenClaim.holds_of_wide 4 Tryz.f4 rfl rfl rfl rfl rfl rfl rfl ⟨rfl, rfl, rfl, rfl, rfl⟩ rfl rfl rfl rfl rfl (by kernel_rfl) Tryz.func4 closed
    (of_decide_eq_true (by kernel_rfl)) (by unfold Func.isWrapper; first | (rw [if_pos (by decide +kernel)]; kernel_rfl) | (rw [if_neg (by decide +kernel)]; exact ⟨rfl, rfl⟩))
    (fun os started H enc _ => lifted os started H enc)
end Go.Proofs.YtabpaiboodllbaaGreat.surdSigns
namespace Go.Proofs.YtabpaiboodllbaaGreat

/-- The statement. -/
theorem surdSigns_holds : Rows.SurdSignsSaid := surdSigns.over
end Go.Proofs.YtabpaiboodllbaaGreat
