/- FracReckons: whatever the two texts, the law returns true; no condition. -/
import Derived.Test.YtmpcabpepnmfiaaRows
import Derived.Test.YtmpcabpepnmfiaaFl
import Derived.Test.YtmpcabpepnmfiaaLawZ
import Derived.Test.YtmpcabpepnmfiaaVx
import Derived.Test.YtmpcabpepnmfiaaJn
set_option linter.unusedSimpArgs false
set_option linter.unusedVariables false
namespace Go.Proofs.Ytmpcabpepnmfiaa
open Go.RowKit Go.IntWalk
set_option maxHeartbeats 2000000 in
theorem p_fracReckons (x : ByteArray) (hx : x.size ≤ 9223372036854775807) (y : ByteArray) (hy : y.size ≤ 9223372036854775807) : PCalls tb Try.prog 12 [.string x, .string y] [] (IsV (.bool true)) := by
  refine PCalls.of_W tbOk Try.func12 rfl (by kernel_rfl) ?_
  refine W.cl [] (by kernel_rfl) (p_qone x) ?_
  rintro _ _ ⟨n1, a1, m1, b1, S1, s1, R1, t1, rfl, hS1, rfl⟩
  refine W.cl [] (by kernel_rfl) (p_qone y) ?_
  rintro _ _ ⟨n2, a2, m2, b2, S2, s2, R2, t2, rfl, hS2, rfl⟩
  refine W.cl [] (by kernel_rfl) (p_qknown) ?_
  rintro _ _ ⟨rfl, rfl⟩
  generalize qfv x = X at *
  generalize qfv y = Y at *
  cases hk1 : qok x with
  | false =>
    refine W.cl [34, 31, 27] (by kernel_rfl) (p_qknown) ?_
    rintro _ _ ⟨rfl, rfl⟩
    refine W.cl [36] (by kernel_rfl) (p_qapart x) ?_
    rintro _ _ ⟨rfl, rfl⟩
    refine W.cl [41, 36] (by kernel_rfl) (p_qapart y) ?_
    rintro _ _ ⟨rfl, rfl⟩
    exact W.r [41] (.bool true) (by kernel_rfl) ⟨rfl, rfl⟩ ent0
  | true =>
    cases hk2 : qok y with
    | false =>
      refine W.cl [34, 31, 27] (by kernel_rfl) (p_qknown) ?_
      rintro _ _ ⟨rfl, rfl⟩
      refine W.cl [36] (by kernel_rfl) (p_qapart x) ?_
      rintro _ _ ⟨rfl, rfl⟩
      refine W.cl [41, 36] (by kernel_rfl) (p_qapart y) ?_
      rintro _ _ ⟨rfl, rfl⟩
      exact W.r [41] (.bool true) (by kernel_rfl) ⟨rfl, rfl⟩ ent0
    | true =>
      by_cases hY : Y = 0
      · subst hY
        refine W.cl [34, 31, 27] (by kernel_rfl) (p_qdiv0 n1 a1 m1 b1 n2 a2 m2 b2) ?_
        rintro _ _ ⟨rfl, rfl⟩
        refine W.dt [] 55 (S2 == 0) (by kernel_rfl) (by rw [hS2]; rfl) ?_
        refine W.cl [58, 55] (by kernel_rfl) (p_qsign ⟨none, 0, 0⟩ false ⟨none, 0, 0⟩ false) ?_
        rintro _ _ ⟨rfl, rfl⟩
        refine W.cl [72, 65, 62, 58, 55] (by kernel_rfl) (p_qadd n1 a1 m1 b1 n2 a2 m2 b2) ?_
        rintro _ _ ⟨n13, a13, m13, b13, rfl, rfl⟩
        refine W.cl [] (by kernel_rfl) (s_add S1 s1 R1 t1 S2 s2 R2 t2) ?_
        rintro _ _ ⟨S14, s14, R14, t14, rfl, rfl⟩
        refine W.cl [] (by kernel_rfl) (p_qsame n13 a13 m13 b13 S14 s14 R14 t14) ?_
        rintro _ _ ⟨rfl, rfl⟩
        refine W.cl [80] (by kernel_rfl) (p_qsub n1 a1 m1 b1 n2 a2 m2 b2) ?_
        rintro _ _ ⟨n16, a16, m16, b16, rfl, rfl⟩
        refine W.cl [80] (by kernel_rfl) (s_sub S1 s1 R1 t1 S2 s2 R2 t2) ?_
        rintro _ _ ⟨S17, s17, R17, t17, rfl, rfl⟩
        refine W.cl [80] (by kernel_rfl) (p_qsame n16 a16 m16 b16 S17 s17 R17 t17) ?_
        rintro _ _ ⟨rfl, rfl⟩
        refine W.cl [89, 80] (by kernel_rfl) (p_qmul n1 a1 m1 b1 n2 a2 m2 b2) ?_
        rintro _ _ ⟨n19, a19, m19, b19, rfl, rfl⟩
        refine W.cl [89] (by kernel_rfl) (s_mul S1 s1 R1 t1 S2 s2 R2 t2) ?_
        rintro _ _ ⟨S20, s20, R20, t20, rfl, rfl⟩
        refine W.cl [89] (by kernel_rfl) (p_qsame n19 a19 m19 b19 S20 s20 R20 t20) ?_
        rintro _ _ ⟨rfl, rfl⟩
        refine W.cl [98, 89] (by kernel_rfl) (p_qneg n1 a1 m1 b1) ?_
        rintro _ _ ⟨n22, a22, m22, b22, rfl, rfl⟩
        refine W.cl [98] (by kernel_rfl) (s_neg S1 s1 R1 t1) ?_
        rintro _ _ ⟨S23, s23, R23, t23, rfl, rfl⟩
        refine W.cl [98] (by kernel_rfl) (p_qsame n22 a22 m22 b22 S23 s23 R23 t23) ?_
        rintro _ _ ⟨rfl, rfl⟩
        refine W.cl [105, 98] (by kernel_rfl) (p_qcmp n1 a1 m1 b1 n2 a2 m2 b2) ?_
        rintro _ _ ⟨rfl, rfl⟩
        refine W.cl [105] (by kernel_rfl) (s_cmp S1 s1 R1 t1 S2 s2 R2 t2) ?_
        rintro _ _ ⟨rfl, rfl⟩
        exact W.r [105] (.bool ((cmpQ X 0) == (cmpQ X 0))) (by kernel_rfl) ⟨by simp, rfl⟩ ent0
      · refine W.cl [34, 31, 27] (by kernel_rfl) (p_qdiv n1 a1 m1 b1 n2 a2 m2 b2 hY) ?_
        rintro _ _ ⟨n10, a10, m10, b10, rfl, rfl⟩
        refine W.df [] 55 (S2 == 0) (by kernel_rfl) (by rw [hS2, beq_eq_false_iff_ne, ne_eq, sign_eq0]; exact hY) ?_
        refine W.cl [65, 55] (by kernel_rfl) (s_div S1 s1 R1 t1 S2 s2 R2 t2 hY) ?_
        rintro _ _ ⟨S11, s11, R11, t11, rfl, rfl⟩
        refine W.cl [65] (by kernel_rfl) (p_qsame n10 a10 m10 b10 S11 s11 R11 t11) ?_
        rintro _ _ ⟨rfl, rfl⟩
        refine W.cl [72, 65, 62, 58, 55] (by kernel_rfl) (p_qadd n1 a1 m1 b1 n2 a2 m2 b2) ?_
        rintro _ _ ⟨n13, a13, m13, b13, rfl, rfl⟩
        refine W.cl [] (by kernel_rfl) (s_add S1 s1 R1 t1 S2 s2 R2 t2) ?_
        rintro _ _ ⟨S14, s14, R14, t14, rfl, rfl⟩
        refine W.cl [] (by kernel_rfl) (p_qsame n13 a13 m13 b13 S14 s14 R14 t14) ?_
        rintro _ _ ⟨rfl, rfl⟩
        refine W.cl [80] (by kernel_rfl) (p_qsub n1 a1 m1 b1 n2 a2 m2 b2) ?_
        rintro _ _ ⟨n16, a16, m16, b16, rfl, rfl⟩
        refine W.cl [80] (by kernel_rfl) (s_sub S1 s1 R1 t1 S2 s2 R2 t2) ?_
        rintro _ _ ⟨S17, s17, R17, t17, rfl, rfl⟩
        refine W.cl [80] (by kernel_rfl) (p_qsame n16 a16 m16 b16 S17 s17 R17 t17) ?_
        rintro _ _ ⟨rfl, rfl⟩
        refine W.cl [89, 80] (by kernel_rfl) (p_qmul n1 a1 m1 b1 n2 a2 m2 b2) ?_
        rintro _ _ ⟨n19, a19, m19, b19, rfl, rfl⟩
        refine W.cl [89] (by kernel_rfl) (s_mul S1 s1 R1 t1 S2 s2 R2 t2) ?_
        rintro _ _ ⟨S20, s20, R20, t20, rfl, rfl⟩
        refine W.cl [89] (by kernel_rfl) (p_qsame n19 a19 m19 b19 S20 s20 R20 t20) ?_
        rintro _ _ ⟨rfl, rfl⟩
        refine W.cl [98, 89] (by kernel_rfl) (p_qneg n1 a1 m1 b1) ?_
        rintro _ _ ⟨n22, a22, m22, b22, rfl, rfl⟩
        refine W.cl [98] (by kernel_rfl) (s_neg S1 s1 R1 t1) ?_
        rintro _ _ ⟨S23, s23, R23, t23, rfl, rfl⟩
        refine W.cl [98] (by kernel_rfl) (p_qsame n22 a22 m22 b22 S23 s23 R23 t23) ?_
        rintro _ _ ⟨rfl, rfl⟩
        refine W.cl [105, 98] (by kernel_rfl) (p_qcmp n1 a1 m1 b1 n2 a2 m2 b2) ?_
        rintro _ _ ⟨rfl, rfl⟩
        refine W.cl [105] (by kernel_rfl) (s_cmp S1 s1 R1 t1 S2 s2 R2 t2) ?_
        rintro _ _ ⟨rfl, rfl⟩
        exact W.r [105] (.bool ((cmpQ X Y) == (cmpQ X Y))) (by kernel_rfl) ⟨by simp, rfl⟩ ent0

end Go.Proofs.Ytmpcabpepnmfiaa
namespace Go.Proofs.Ytmpcabpepnmfiaa.fracReckons
open Go.ChangeShapes Go.WideShapes Go.ChangeAt Go.RowKit
open Go.ChangeMaps (open_string shut_string)

theorem closed : joinedFacts Try.pinned.checked.prog 12 Try.f12 Rows.fracReckonsSpec Rows.fracReckonsRow = true := by
  unfold joinedFacts
  rw [show Try.pinned.checked.prog.mayEnter = true from jn_enter, show (Rows.fracReckonsRow.lifted == Try.pinned.checked.prog.liftsFinal) = true from jn_lift, show (Try.pinned.checked.prog.make == some Rows.fracReckonsRow.make) = true from jn_make,
    show laidOutB Try.pinned.checked.prog = true from jn_laid, show mapsRowed Try.pinned.checked.prog = true from jn_maps]
  kernel_rfl

set_option maxRecDepth 100000 in
theorem lifted (os : Os) (started : os.Started) (H : Type) (enc : TypeId × Value → H) :
    ReturnsInHanded {} Try.checked os 12 .any (Rows.fracReckonsSpec.pre6 enc Try.prog Try.f12 Rows.fracReckonsRow.domain false) (Rows.fracReckonsSpec.post enc Try.prog Try.f12 false true false false) := by
  refine returnsInHanded_of_change (C := Try.checked) jn_own started (by kernel_rfl) Try.func12
    (ChangeSpec.witness6 (enc := enc) (C := Try.checked) false ⟨#[], #[.string ⟨#[]⟩, .string ⟨#[]⟩], []⟩ 8 (by kernel_rfl) (by kernel_rfl) (by kernel_rfl) (by kernel_rfl)) ?_
  intro W base args ds gs before hval0 hW hcnd _
  have hval : ∀ (j : Nat) t v, Try.f12.params[j]? = some t → args[j]? = some v → Value.okWide Try.prog W .any base t v := hval0
  have hW' := hW
  obtain ⟨p, q, hA0, hV, rfl, hfz, hnd⟩ := hW
  have hA : DataW.TrodAll enc Try.prog W 0 (fun _ => true) true Try.f12.params.toList args.toList ds p := hA0
  have hK := hA
  rw [Try.params12] at hA hval hK
  obtain ⟨v0, vs0, d0, ds0, p0, q0, hargs, rfl, rfl, h0, r0⟩ := trodAll_cons hA
  obtain ⟨v1, vs1, d1, ds1, p1, q1, rfl, rfl, rfl, h1, r1⟩ := trodAll_cons r0
  obtain ⟨rfl, rfl, rfl⟩ := trodAll_nil r1
  obtain rfl : args = #[v0, v1] := by cases args; simp_all
  obtain ⟨rfl, rfl⟩ := trodVars_none hV
  obtain ⟨a0, rfl, rfl, rfl, w0⟩ := open_string Try.underlying9 (hval 0 9 v0 rfl rfl) h0
  obtain ⟨a1, rfl, rfl, rfl, w1⟩ := open_string Try.underlying9 (hval 1 9 v1 rfl rfl) h1
  clear hA0 hval0
  simp only [List.append_nil] at hW' hK
  refine (law_calls' (p_fracReckons a0 w0 a1 w1) W (Holds.nil _ _)).mono fun e W' ⟨he, hg⟩ => ?_
  subst he
  exact ⟨_, rfl, law_post hW' rfl (fun _ _ _ => (trodAll_cons_mk (shut_bool Try.underlying4 _) trodAll_mk0)) (fun sp hsp => trodAll_stays jn_laid hg (by kernel_rfl) hK (fun x hx => hW'.lt x (by first | exact hx | simpa using hx)) (fun x hx => hsp x (by first | exact hx | simpa using hx))) rfl hg⟩

theorem over : Rows.fracReckonsRow.holds Try.pinned (OpenSpec.ofChange Rows.fracReckonsSpec) :=
  OpenClaim.holds_of_wide 12 Try.f12 rfl rfl rfl rfl rfl rfl rfl ⟨rfl, rfl, rfl, rfl, rfl⟩ rfl rfl rfl rfl rfl (by kernel_rfl) Try.func12 closed
    (of_decide_eq_true (by kernel_rfl)) (by unfold Func.isWrapper; first | (rw [if_pos (by decide +kernel)]; kernel_rfl) | (rw [if_neg (by decide +kernel)]; exact ⟨rfl, rfl⟩))
    (fun os started H enc _ => lifted os started H enc)
end Go.Proofs.Ytmpcabpepnmfiaa.fracReckons
namespace Go.Proofs.Ytmpcabpepnmfiaa

/-- The statement. -/
theorem fracReckons_holds : Rows.FracReckonsSaid := fracReckons.over
end Go.Proofs.Ytmpcabpepnmfiaa
