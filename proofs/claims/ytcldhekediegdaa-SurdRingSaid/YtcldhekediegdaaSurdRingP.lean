
/- The law SurdRing holds: numbers with two roots obey the rules of a ring, for all arguments. -/
import Derived.Test.YtcldhekediegdaaRows
import Derived.Test.YtcldhekediegdaaSd
import Derived.Test.YtcldhekediegdaaLawZ
import Derived.Test.YtcldhekediegdaaVs
import Derived.Test.YtcldhekediegdaaJn
set_option linter.unusedSimpArgs false
set_option linter.unusedVariables false
namespace Go.Proofs.Ytcldhekediegdaa
open Go.RowKit Go.IntWalk
theorem beq0 {z : Int} (h : z = 0) : (z == 0) = true := by rw [h]; rfl
theorem Sn.sg_eq {A B : Sn} (h : A = B) : (A.sub B).sg = 0 := Sn.sg_sub (by rw [h]) (by rw [h]) (by rw [h]) (by rw [h])
set_option maxHeartbeats 8000000 in
theorem p_surdRing (M0 N0 : Int) (u0 : (Lit.int .i64 M0).wf = true) (x0 : (Lit.int .i64 N0).wf = true) (ao0 : Option Addr) (n0 c0 : Nat) (a0 : List ByteArray) (e0 : n0 = a0.length) (w0 : ∀ s ∈ a0, s.size ≤ 9223372036854775807) (M1 N1 : Int) (u1 : (Lit.int .i64 M1).wf = true) (x1 : (Lit.int .i64 N1).wf = true) (ao1 : Option Addr) (n1 c1 : Nat) (a1 : List ByteArray) (e1 : n1 = a1.length) (w1 : ∀ s ∈ a1, s.size ≤ 9223372036854775807) (M2 N2 : Int) (u2 : (Lit.int .i64 M2).wf = true) (x2 : (Lit.int .i64 N2).wf = true) (ao2 : Option Addr) (n2 c2 : Nat) (a2 : List ByteArray) (e2 : n2 = a2.length) (w2 : ∀ s ∈ a2, s.size ≤ 9223372036854775807) :
    PCalls tb Try.prog 5 [.agg #[.int .i64 M0, .int .i64 N0, .slice ao0 n0 c0], .agg #[.int .i64 M1, .int .i64 N1, .slice ao1 n1 c1], .agg #[.int .i64 M2, .int .i64 N2, .slice ao2 n2 c2]] [RA ao0 (a0.map Value.string), RA ao1 (a1.map Value.string), RA ao2 (a2.map Value.string)] (IsV (.bool true)) := by
  refine PCalls.of_W tbOk Try.func5 rfl (by kernel_rfl) ?_
  refine W.cl [] (by kernel_rfl) (p_xmade M0 N0 u0 x0 ao0 n0 c0 a0 e0 w0) ?_
  rintro _ _ ⟨X1, Y1, rfl, rfl⟩
  refine W.cl [] (by kernel_rfl) (p_in M0 N0 ao0 n0 c0 M1 N1 ao1 n1 c1) ?_
  rintro _ _ ⟨rfl, rfl⟩
  refine W.cl [] (by kernel_rfl) (p_xmade M0 N0 u0 x0 ao1 n1 c1 a1 e1 w1) ?_
  rintro _ _ ⟨X3, Y3, rfl, rfl⟩
  refine W.cl [] (by kernel_rfl) (p_in M0 N0 ao0 n0 c0 M2 N2 ao2 n2 c2) ?_
  rintro _ _ ⟨rfl, rfl⟩
  refine W.cl [] (by kernel_rfl) (p_xmade M0 N0 u0 x0 ao2 n2 c2 a2 e2 w2) ?_
  rintro _ _ ⟨X5, Y5, rfl, rfl⟩
  refine W.cl [] (by kernel_rfl) (p_xknown) ?_
  rintro _ _ ⟨rfl, rfl⟩
  by_cases h0 : madeOk M0 N0 a0 = false
  · refine W.dt [64] 68 (!madeOk M0 N0 a0) (by kernel_rfl) (by rw [h0]; rfl) ?_
    refine W.cl [75, 72, 68] (by kernel_rfl) (p_xknown) ?_
    rintro _ _ ⟨rfl, rfl⟩
    exact W.r [] (.bool true) (by kernel_rfl) ⟨rfl, rfl⟩ ent0
  have h0 : madeOk M0 N0 a0 = true := by simpa using h0
  refine W.df [64] 68 (!madeOk M0 N0 a0) (by kernel_rfl) (by rw [h0]; rfl) ?_
  by_cases h1 : madeOk M0 N0 a1 = false
  · refine W.dt [68] 72 (!madeOk M0 N0 a1) (by kernel_rfl) (by rw [h1]; rfl) ?_
    refine W.cl [75, 72] (by kernel_rfl) (p_xknown) ?_
    rintro _ _ ⟨rfl, rfl⟩
    exact W.r [] (.bool true) (by kernel_rfl) ⟨rfl, rfl⟩ ent0
  have h1 : madeOk M0 N0 a1 = true := by simpa using h1
  refine W.df [68] 72 (!madeOk M0 N0 a1) (by kernel_rfl) (by rw [h1]; rfl) ?_
  by_cases h2 : madeOk M0 N0 a2 = false
  · refine W.dt [72] 75 (!madeOk M0 N0 a2) (by kernel_rfl) (by rw [h2]; rfl) ?_
    refine W.cl [75] (by kernel_rfl) (p_xknown) ?_
    rintro _ _ ⟨rfl, rfl⟩
    exact W.r [] (.bool true) (by kernel_rfl) ⟨rfl, rfl⟩ ent0
  have h2 : madeOk M0 N0 a2 = true := by simpa using h2
  refine W.df [72] 75 (!madeOk M0 N0 a2) (by kernel_rfl) (by rw [h2]; rfl) ?_
  refine W.code 999 ?_
  refine W.mf X1 Y1 (by kernel_rfl) h0 ?_
  refine W.mf X3 Y3 (by kernel_rfl) h1 ?_
  refine W.mf X5 Y5 (by kernel_rfl) h2 ?_
  refine W.cl [75] (by kernel_rfl) (p_xadd X1 X3 (by rfl) (by rfl)) ?_
  rintro _ _ ⟨X7, rfl, rfl⟩   -- ((snOf M0 N0 a0).add (snOf M0 N0 a1))
  refine W.cl [] (by kernel_rfl) (p_xadd X3 X5 (by rfl) (by rfl)) ?_
  rintro _ _ ⟨X8, rfl, rfl⟩   -- ((snOf M0 N0 a1).add (snOf M0 N0 a2))
  refine W.cl [] (by kernel_rfl) (p_xadd X7 X5 (by rfl) (by rfl)) ?_
  rintro _ _ ⟨X9, rfl, rfl⟩   -- (((snOf M0 N0 a0).add (snOf M0 N0 a1)).add (snOf M0 N0 a2))
  refine W.cl [] (by kernel_rfl) (p_xadd X1 X8 (by rfl) (by rfl)) ?_
  rintro _ _ ⟨X10, rfl, rfl⟩   -- ((snOf M0 N0 a0).add ((snOf M0 N0 a1).add (snOf M0 N0 a2)))
  refine W.cl [] (by kernel_rfl) (p_xmul X1 X5 (by rfl) (by rfl)) ?_
  rintro _ _ ⟨X11, rfl, rfl⟩   -- ((snOf M0 N0 a0).mul (snOf M0 N0 a2))
  refine W.cl [] (by kernel_rfl) (p_xmul X3 X5 (by rfl) (by rfl)) ?_
  rintro _ _ ⟨X12, rfl, rfl⟩   -- ((snOf M0 N0 a1).mul (snOf M0 N0 a2))
  refine W.cl [] (by kernel_rfl) (p_xmul X7 X5 (by rfl) (by rfl)) ?_
  rintro _ _ ⟨X13, rfl, rfl⟩   -- (((snOf M0 N0 a0).add (snOf M0 N0 a1)).mul (snOf M0 N0 a2))
  refine W.cl [] (by kernel_rfl) (p_xadd X11 X12 (by rfl) (by rfl)) ?_
  rintro _ _ ⟨X14, rfl, rfl⟩   -- (((snOf M0 N0 a0).mul (snOf M0 N0 a2)).add ((snOf M0 N0 a1).mul (snOf M0 N0 a2)))
  refine W.cl [] (by kernel_rfl) (p_xmul X5 X1 (by rfl) (by rfl)) ?_
  rintro _ _ ⟨X15, rfl, rfl⟩   -- ((snOf M0 N0 a2).mul (snOf M0 N0 a0))
  refine W.cl [] (by kernel_rfl) (p_xcmp X9 X10 (by rfl) (by rfl)) ?_
  rintro _ _ ⟨rfl, rfl⟩
  refine W.cl [] (by kernel_rfl) (p_xcmp X13 X14 (by rfl) (by rfl)) ?_
  rintro _ _ ⟨rfl, rfl⟩
  refine W.cl [] (by kernel_rfl) (p_xcmp X11 X15 (by rfl) (by rfl)) ?_
  rintro _ _ ⟨rfl, rfl⟩
  refine W.dt [] 151 ((((((snOf M0 N0 a0).add (snOf M0 N0 a1)).add (snOf M0 N0 a2))).sub ((snOf M0 N0 a0).add ((snOf M0 N0 a1).add (snOf M0 N0 a2)))).sg == 0) (by kernel_rfl) (beq0 (Sn.sg_eq (Sn.add_assoc _ _ _))) ?_
  refine W.dt [151] 155 ((((((snOf M0 N0 a0).add (snOf M0 N0 a1)).mul (snOf M0 N0 a2))).sub (((snOf M0 N0 a0).mul (snOf M0 N0 a2)).add ((snOf M0 N0 a1).mul (snOf M0 N0 a2)))).sg == 0) (by kernel_rfl) (beq0 (Sn.sg_eq (Sn.add_mul rfl rfl))) ?_
  exact W.r [155] (.bool (((((snOf M0 N0 a0).mul (snOf M0 N0 a2))).sub ((snOf M0 N0 a2).mul (snOf M0 N0 a0))).sg == 0)) (by kernel_rfl) ⟨congrArg _ (beq0 (Sn.sg_eq (Sn.mul_comm (by rfl) (by rfl)))), rfl⟩ ent0

end Go.Proofs.Ytcldhekediegdaa
namespace Go.Proofs.Ytcldhekediegdaa.surdRing
open Go.ChangeShapes Go.WideShapes Go.ChangeAt Go.RowKit
open Go.ChangeMaps (open_string shut_string)

theorem closed : joinedFacts Try.pinned.checked.prog 5 Try.f5 Rows.surdRingSpec Rows.surdRingRow = true := by
  unfold joinedFacts
  rw [show Try.pinned.checked.prog.mayEnter = true from jn_enter, show (Rows.surdRingRow.lifted == Try.pinned.checked.prog.liftsFinal) = true from jn_lift, show (Try.pinned.checked.prog.make == some Rows.surdRingRow.make) = true from jn_make,
    show laidOutB Try.pinned.checked.prog = true from jn_laid, show mapsRowed Try.pinned.checked.prog = true from jn_maps]
  kernel_rfl

set_option maxRecDepth 100000 in
theorem lifted (os : Os) (started : os.Started) (H : Type) (enc : TypeId × Value → H) :
    ReturnsInHanded {} Try.checked os 5 .any (Rows.surdRingSpec.pre6 enc Try.prog Try.f5 Rows.surdRingRow.domain false) (Rows.surdRingSpec.post enc Try.prog Try.f5 false true false false) := by
  refine returnsInHanded_of_change (C := Try.checked) jn_own started (by kernel_rfl) Try.func5
    (ChangeSpec.witness6 (enc := enc) (C := Try.checked) false ⟨#[], #[.agg #[.int .i64 0, .int .i64 0, .slice none 0 0], .agg #[.int .i64 0, .int .i64 0, .slice none 0 0], .agg #[.int .i64 0, .int .i64 0, .slice none 0 0]], []⟩ 8 (by kernel_rfl) (by kernel_rfl) (by kernel_rfl) (by kernel_rfl)) ?_
  intro W base args ds gs before hval0 hW hcnd _
  have hval : ∀ (j : Nat) t v, Try.f5.params[j]? = some t → args[j]? = some v → Value.okWide Try.prog W .any base t v := hval0
  have hW' := hW
  obtain ⟨p, q, hA0, hV, rfl, hfz, hnd⟩ := hW
  have hA : DataW.TrodAll enc Try.prog W 0 (fun _ => true) true Try.f5.params.toList args.toList ds p := hA0
  have hK := hA
  rw [Try.params5] at hA hval hK
  obtain ⟨v0, vs0, d0, ds0, p0, q0, hargs, rfl, rfl, h0, r0⟩ := trodAll_cons hA
  obtain ⟨v1, vs1, d1, ds1, p1, q1, rfl, rfl, rfl, h1, r1⟩ := trodAll_cons r0
  obtain ⟨v2, vs2, d2, ds2, p2, q2, rfl, rfl, rfl, h2, r2⟩ := trodAll_cons r1
  obtain ⟨rfl, rfl, rfl⟩ := trodAll_nil r2
  obtain rfl : args = #[v0, v1, v2] := by cases args; simp_all
  obtain ⟨rfl, rfl⟩ := trodVars_none hV
  obtain ⟨M0, N0, ao0, n0, c0, a0, rfl, u0, x0, e0, w0, g0⟩ := open_num Try.underlying78 (by kernel_rfl) ⟨rfl, rfl⟩ ⟨rfl, rfl⟩ ⟨rfl, rfl⟩ Try.underlying3 (by kernel_rfl) Try.underlying76 (by kernel_rfl) Try.underlying9 (by kernel_rfl) (hval 0 78 v0 rfl rfl) h0
  obtain ⟨M1, N1, ao1, n1, c1, a1, rfl, u1, x1, e1, w1, g1⟩ := open_num Try.underlying78 (by kernel_rfl) ⟨rfl, rfl⟩ ⟨rfl, rfl⟩ ⟨rfl, rfl⟩ Try.underlying3 (by kernel_rfl) Try.underlying76 (by kernel_rfl) Try.underlying9 (by kernel_rfl) (hval 1 78 v1 rfl rfl) h1
  obtain ⟨M2, N2, ao2, n2, c2, a2, rfl, u2, x2, e2, w2, g2⟩ := open_num Try.underlying78 (by kernel_rfl) ⟨rfl, rfl⟩ ⟨rfl, rfl⟩ ⟨rfl, rfl⟩ Try.underlying3 (by kernel_rfl) Try.underlying76 (by kernel_rfl) Try.underlying9 (by kernel_rfl) (hval 2 78 v2 rfl rfl) h2
  clear hA0 hval0
  simp only [List.append_nil] at hW' hK
  refine (law_calls' (p_surdRing M0 N0 u0 x0 ao0 n0 c0 a0 e0 w0 M1 N1 u1 x1 ao1 n1 c1 a1 e1 w1 M2 N2 u2 x2 ao2 n2 c2 a2 e2 w2) W (Holds.cons g0 (Holds.cons g1 (Holds.cons g2 (Holds.nil _ _))))).mono fun e W' ⟨he, hg⟩ => ?_
  subst he
  exact ⟨_, rfl, law_post hW' rfl (fun _ _ _ => (trodAll_cons_mk (shut_bool Try.underlying4 _) trodAll_mk0)) (fun sp hsp => trodAll_stays jn_laid hg (by kernel_rfl) hK (fun x hx => hW'.lt x (by first | exact hx | simpa using hx)) (fun x hx => hsp x (by first | exact hx | simpa using hx))) rfl hg⟩

theorem over : Rows.surdRingRow.holds Try.pinned (OpenSpec.ofChange Rows.surdRingSpec) :=
  OpenClaim.holds_of_wide 5 Try.f5 rfl rfl rfl rfl rfl rfl rfl ⟨rfl, rfl, rfl, rfl, rfl⟩ rfl rfl rfl rfl rfl (by kernel_rfl) Try.func5 closed
    (of_decide_eq_true (by kernel_rfl)) (by unfold Func.isWrapper; first | (rw [if_pos (by decide +kernel)]; kernel_rfl) | (rw [if_neg (by decide +kernel)]; exact ⟨rfl, rfl⟩))
    (fun os started H enc _ => lifted os started H enc)
end Go.Proofs.Ytcldhekediegdaa.surdRing
namespace Go.Proofs.Ytcldhekediegdaa

/-- The statement. -/
theorem surdRing_holds : Rows.SurdRingSaid := surdRing.over
end Go.Proofs.Ytcldhekediegdaa
