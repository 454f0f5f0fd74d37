/- FracField: whatever the three texts, the law returns true; no condition. -/
import Derived.Test.YtmpcabpepnmfiaaRows
import Derived.Test.YtmpcabpepnmfiaaFl
import Derived.Test.YtmpcabpepnmfiaaLawZ
import Derived.Test.YtmpcabpepnmfiaaVx
import Derived.Test.YtmpcabpepnmfiaaJn
set_option linter.unusedSimpArgs false
set_option linter.unusedVariables false
namespace Go.Proofs.Ytmpcabpepnmfiaa
open Go.RowKit Go.IntWalk
theorem cmpQ_self (a : Rat) : cmpQ a a = 0 := cmpQ_eq.2 rfl
theorem cmpQ_sub0 (a b : Rat) : cmpQ (a - b) 0 = cmpQ a b := by
  have h1 : a - b < 0 ↔ a < b := by grind
  have h2 : a - b = 0 ↔ a = b := by grind
  unfold cmpQ
  simp only [h1, h2]
theorem cmpQ_addR (a b c : Rat) : cmpQ (a + c) (b + c) = cmpQ a b := by
  have h1 : a + c < b + c ↔ a < b := by grind
  have h2 : a + c = b + c ↔ a = b := by grind
  unfold cmpQ
  simp only [h1, h2]
theorem cmp_subS (a b : Rat) : (a - b).num.sign = cmpQ a b := by rw [sign_cmp, cmpQ_sub0]
theorem q_cancel {a b : Rat} (h : b ≠ 0) : a / b * b = a := by
  rw [Rat.div_def, Rat.mul_assoc, Rat.inv_mul_cancel _ h, Rat.mul_one]
theorem mul_signQ (a b : Rat) : (a * b).num.sign = a.num.sign * b.num.sign := by
  rw [← Int.sign_mul]
  exact (sign_of (Int.mul_pos (den_pos' a) (den_pos' b)) (q_mul a b).symm).symm
theorem cmpQ_mulR (a b c : Rat) : IntKind.i64.wrap (cmpQ a b * c.num.sign) = cmpQ (a * c) (b * c) := by
  rw [← cmp_subS, ← cmp_subS, show a * c - b * c = (a - b) * c by grind, mul_signQ]
  rw [i64_in _ (by rw [← Int.sign_mul]; rcases sign_cases ((a - b).num * c.num) with ⟨_, e⟩ | ⟨_, e⟩ | ⟨_, e⟩ <;> omega)]
set_option maxHeartbeats 4000000 in
theorem p_fracField (x : ByteArray) (hx : x.size ≤ 9223372036854775807) (y : ByteArray) (hy : y.size ≤ 9223372036854775807) (z : ByteArray) (hz : z.size ≤ 9223372036854775807) : PCalls tb Try.prog 13 [.string x, .string y, .string z] [] (IsV (.bool true)) := by
  refine PCalls.of_W tbOk Try.func13 rfl (by kernel_rfl) ?_
  refine W.cl [] (by kernel_rfl) (p_qone x) ?_
  rintro _ _ ⟨n1, a1, m1, b1, S1, s1, R1, t1, rfl, hS1, rfl⟩
  refine W.cl [] (by kernel_rfl) (p_qone y) ?_
  rintro _ _ ⟨n2, a2, m2, b2, S2, s2, R2, t2, rfl, hS2, rfl⟩
  refine W.cl [] (by kernel_rfl) (p_qone z) ?_
  rintro _ _ ⟨n3, a3, m3, b3, S3, s3, R3, t3, rfl, hS3, rfl⟩
  refine W.cl [] (by kernel_rfl) (p_qknown) ?_
  rintro _ _ ⟨rfl, rfl⟩
  generalize qfv x = X at *
  generalize qfv y = Y at *
  generalize qfv z = Z at *
  cases hk1 : (qok x && (qok y && qok z)) with
  | false =>
    have fin : ∀ a b c : Bool, (a && (b && c)) = false → (a = false) ∨ (a = true ∧ b = false) ∨ (a = true ∧ b = true ∧ c = false) := by decide
    rcases fin _ _ _ hk1 with e | ⟨e, e'⟩ | ⟨e, e', e''⟩
    · rw [e]
      refine W.cl [49, 46, 42, 38] (by kernel_rfl) (p_qknown) ?_
      rintro _ _ ⟨rfl, rfl⟩
      exact W.r [] (.bool true) (by kernel_rfl) ⟨rfl, rfl⟩ ent0
    · rw [e, e']
      refine W.cl [49, 46, 42, 38] (by kernel_rfl) (p_qknown) ?_
      rintro _ _ ⟨rfl, rfl⟩
      exact W.r [] (.bool true) (by kernel_rfl) ⟨rfl, rfl⟩ ent0
    · rw [e, e', e'']
      refine W.cl [49, 46, 42, 38] (by kernel_rfl) (p_qknown) ?_
      rintro _ _ ⟨rfl, rfl⟩
      exact W.r [] (.bool true) (by kernel_rfl) ⟨rfl, rfl⟩ ent0
  | true =>
    simp only [Bool.and_eq_true] at hk1
    obtain ⟨e, e', e''⟩ := hk1
    rw [e, e', e'']
    refine W.cl [49, 46, 42, 38] (by kernel_rfl) (p_qadd n1 a1 m1 b1 n2 a2 m2 b2) ?_
    rintro _ _ ⟨n5, a5, m5, b5, rfl, rfl⟩
    refine W.cl [] (by kernel_rfl) (p_qadd n2 a2 m2 b2 n1 a1 m1 b1) ?_
    rintro _ _ ⟨n6, a6, m6, b6, rfl, rfl⟩
    refine W.cl [] (by kernel_rfl) (p_qcmp n5 a5 m5 b5 n6 a6 m6 b6) ?_
    rintro _ _ ⟨rfl, rfl⟩
    refine W.df [] 59 ((cmpQ (X + Y) (Y + X)) != 0) (by kernel_rfl) (by rw [Rat.add_comm Y X, cmpQ_self]; rfl) ?_
    refine W.cl [59] (by kernel_rfl) (p_qmul n1 a1 m1 b1 n2 a2 m2 b2) ?_
    rintro _ _ ⟨n8, a8, m8, b8, rfl, rfl⟩
    refine W.cl [59] (by kernel_rfl) (p_qmul n2 a2 m2 b2 n1 a1 m1 b1) ?_
    rintro _ _ ⟨n9, a9, m9, b9, rfl, rfl⟩
    refine W.cl [59] (by kernel_rfl) (p_qcmp n8 a8 m8 b8 n9 a9 m9 b9) ?_
    rintro _ _ ⟨rfl, rfl⟩
    refine W.df [59] 69 ((cmpQ (X * Y) (Y * X)) != 0) (by kernel_rfl) (by rw [Rat.mul_comm Y X, cmpQ_self]; rfl) ?_
    refine W.cl [69] (by kernel_rfl) (p_qadd n1 a1 m1 b1 n2 a2 m2 b2) ?_
    rintro _ _ ⟨n11, a11, m11, b11, rfl, rfl⟩
    refine W.cl [69] (by kernel_rfl) (p_qadd n11 a11 m11 b11 n3 a3 m3 b3) ?_
    rintro _ _ ⟨n12, a12, m12, b12, rfl, rfl⟩
    refine W.cl [69] (by kernel_rfl) (p_qadd n2 a2 m2 b2 n3 a3 m3 b3) ?_
    rintro _ _ ⟨n13, a13, m13, b13, rfl, rfl⟩
    refine W.cl [69] (by kernel_rfl) (p_qadd n1 a1 m1 b1 n13 a13 m13 b13) ?_
    rintro _ _ ⟨n14, a14, m14, b14, rfl, rfl⟩
    refine W.cl [69] (by kernel_rfl) (p_qcmp n12 a12 m12 b12 n14 a14 m14 b14) ?_
    rintro _ _ ⟨rfl, rfl⟩
    refine W.df [69] 83 ((cmpQ ((X + Y) + Z) (X + (Y + Z))) != 0) (by kernel_rfl) (by rw [Rat.add_assoc, cmpQ_self]; rfl) ?_
    refine W.cl [83] (by kernel_rfl) (p_qmul n1 a1 m1 b1 n2 a2 m2 b2) ?_
    rintro _ _ ⟨n16, a16, m16, b16, rfl, rfl⟩
    refine W.cl [83] (by kernel_rfl) (p_qmul n16 a16 m16 b16 n3 a3 m3 b3) ?_
    rintro _ _ ⟨n17, a17, m17, b17, rfl, rfl⟩
    refine W.cl [83] (by kernel_rfl) (p_qmul n2 a2 m2 b2 n3 a3 m3 b3) ?_
    rintro _ _ ⟨n18, a18, m18, b18, rfl, rfl⟩
    refine W.cl [83] (by kernel_rfl) (p_qmul n1 a1 m1 b1 n18 a18 m18 b18) ?_
    rintro _ _ ⟨n19, a19, m19, b19, rfl, rfl⟩
    refine W.cl [83] (by kernel_rfl) (p_qcmp n17 a17 m17 b17 n19 a19 m19 b19) ?_
    rintro _ _ ⟨rfl, rfl⟩
    refine W.df [83] 97 ((cmpQ ((X * Y) * Z) (X * (Y * Z))) != 0) (by kernel_rfl) (by rw [Rat.mul_assoc, cmpQ_self]; rfl) ?_
    refine W.cl [97] (by kernel_rfl) (p_qadd n2 a2 m2 b2 n3 a3 m3 b3) ?_
    rintro _ _ ⟨n21, a21, m21, b21, rfl, rfl⟩
    refine W.cl [97] (by kernel_rfl) (p_qmul n1 a1 m1 b1 n21 a21 m21 b21) ?_
    rintro _ _ ⟨n22, a22, m22, b22, rfl, rfl⟩
    refine W.cl [97] (by kernel_rfl) (p_qmul n1 a1 m1 b1 n2 a2 m2 b2) ?_
    rintro _ _ ⟨n23, a23, m23, b23, rfl, rfl⟩
    refine W.cl [97] (by kernel_rfl) (p_qmul n1 a1 m1 b1 n3 a3 m3 b3) ?_
    rintro _ _ ⟨n24, a24, m24, b24, rfl, rfl⟩
    refine W.cl [97] (by kernel_rfl) (p_qadd n23 a23 m23 b23 n24 a24 m24 b24) ?_
    rintro _ _ ⟨n25, a25, m25, b25, rfl, rfl⟩
    refine W.cl [97] (by kernel_rfl) (p_qcmp n22 a22 m22 b22 n25 a25 m25 b25) ?_
    rintro _ _ ⟨rfl, rfl⟩
    refine W.df [97] 113 ((cmpQ (X * (Y + Z)) ((X * Y) + (X * Z))) != 0) (by kernel_rfl) (by rw [Rat.mul_add, cmpQ_self]; rfl) ?_
    refine W.cl [113] (by kernel_rfl) (p_qsub n1 a1 m1 b1 n1 a1 m1 b1) ?_
    rintro _ _ ⟨n27, a27, m27, b27, rfl, rfl⟩
    refine W.cl [113] (by kernel_rfl) (p_qsign n27 a27 m27 b27) ?_
    rintro _ _ ⟨rfl, rfl⟩
    refine W.df [113] 119 ((X - X).num.sign != 0) (by kernel_rfl) (by rw [Rat.sub_self]; rfl) ?_
    by_cases hY : Y = 0
    · subst hY
      refine W.cl [119] (by kernel_rfl) (p_qdiv0 n1 a1 m1 b1 n2 a2 m2 b2) ?_
      rintro _ _ ⟨rfl, rfl⟩
      refine W.cl [] (by kernel_rfl) (p_qsign n2 a2 m2 b2) ?_
      rintro _ _ ⟨rfl, rfl⟩
      refine W.df [] 132 (!(5 == 0) == ((0 : Rat).num.sign != 0)) (by kernel_rfl) (rfl) ?_
      refine W.cl [143, 135, 132] (by kernel_rfl) (p_qadd n1 a1 m1 b1 n3 a3 m3 b3) ?_
      rintro _ _ ⟨n31, a31, m31, b31, rfl, rfl⟩
      refine W.cl [] (by kernel_rfl) (p_qadd n2 a2 m2 b2 n3 a3 m3 b3) ?_
      rintro _ _ ⟨n32, a32, m32, b32, rfl, rfl⟩
      refine W.cl [] (by kernel_rfl) (p_qcmp n31 a31 m31 b31 n32 a32 m32 b32) ?_
      rintro _ _ ⟨rfl, rfl⟩
      refine W.cl [] (by kernel_rfl) (p_qcmp n1 a1 m1 b1 n2 a2 m2 b2) ?_
      rintro _ _ ⟨rfl, rfl⟩
      refine W.dt [] 155 ((cmpQ (X + Z) (0 + Z)) == (cmpQ X 0)) (by kernel_rfl) (by rw [cmpQ_addR]; simp) ?_
      refine W.cl [155] (by kernel_rfl) (p_qmul n1 a1 m1 b1 n3 a3 m3 b3) ?_
      rintro _ _ ⟨n35, a35, m35, b35, rfl, rfl⟩
      refine W.cl [155] (by kernel_rfl) (p_qmul n2 a2 m2 b2 n3 a3 m3 b3) ?_
      rintro _ _ ⟨n36, a36, m36, b36, rfl, rfl⟩
      refine W.cl [155] (by kernel_rfl) (p_qcmp n35 a35 m35 b35 n36 a36 m36 b36) ?_
      rintro _ _ ⟨rfl, rfl⟩
      refine W.cl [155] (by kernel_rfl) (p_qcmp n1 a1 m1 b1 n2 a2 m2 b2) ?_
      rintro _ _ ⟨rfl, rfl⟩
      refine W.cl [155] (by kernel_rfl) (p_qsign n3 a3 m3 b3) ?_
      rintro _ _ ⟨rfl, rfl⟩
      refine W.dt [155] 171 ((cmpQ (X * Z) (0 * Z)) == IntKind.i64.wrap ((cmpQ X 0) * Z.num.sign)) (by kernel_rfl) (by rw [cmpQ_mulR]; simp) ?_
      refine W.cl [171] (by kernel_rfl) (p_qcmp n1 a1 m1 b1 n2 a2 m2 b2) ?_
      rintro _ _ ⟨rfl, rfl⟩
      refine W.cl [171] (by kernel_rfl) (p_qsub n1 a1 m1 b1 n2 a2 m2 b2) ?_
      rintro _ _ ⟨n41, a41, m41, b41, rfl, rfl⟩
      refine W.cl [171] (by kernel_rfl) (p_qsign n41 a41 m41 b41) ?_
      rintro _ _ ⟨rfl, rfl⟩
      exact W.r [171] (.bool ((cmpQ X 0) == (X - 0).num.sign)) (by kernel_rfl) ⟨by rw [cmp_subS]; simp, rfl⟩ ent0
    · skip
      refine W.cl [119] (by kernel_rfl) (p_qdiv n1 a1 m1 b1 n2 a2 m2 b2 hY) ?_
      rintro _ _ ⟨n29, a29, m29, b29, rfl, rfl⟩
      refine W.cl [] (by kernel_rfl) (p_qsign n2 a2 m2 b2) ?_
      rintro _ _ ⟨rfl, rfl⟩
      refine W.df [] 132 (!(0 == 0) == (Y.num.sign != 0)) (by kernel_rfl) (by simp [bne, beq_eq_false_iff_ne.2 (show Y.num.sign ≠ 0 from fun h => hY (sign_eq0.1 h))]) ?_
      refine W.cl [135, 132] (by kernel_rfl) (p_qmul n29 a29 m29 b29 n2 a2 m2 b2) ?_
      rintro _ _ ⟨n31, a31, m31, b31, rfl, rfl⟩
      refine W.cl [135] (by kernel_rfl) (p_qcmp n31 a31 m31 b31 n1 a1 m1 b1) ?_
      rintro _ _ ⟨rfl, rfl⟩
      refine W.df [132, 135] 143 ((cmpQ ((X / Y) * Y) X) != 0) (by kernel_rfl) (by rw [q_cancel hY, cmpQ_self]; rfl) ?_
      refine W.cl [143] (by kernel_rfl) (p_qadd n1 a1 m1 b1 n3 a3 m3 b3) ?_
      rintro _ _ ⟨n33, a33, m33, b33, rfl, rfl⟩
      refine W.cl [] (by kernel_rfl) (p_qadd n2 a2 m2 b2 n3 a3 m3 b3) ?_
      rintro _ _ ⟨n34, a34, m34, b34, rfl, rfl⟩
      refine W.cl [] (by kernel_rfl) (p_qcmp n33 a33 m33 b33 n34 a34 m34 b34) ?_
      rintro _ _ ⟨rfl, rfl⟩
      refine W.cl [] (by kernel_rfl) (p_qcmp n1 a1 m1 b1 n2 a2 m2 b2) ?_
      rintro _ _ ⟨rfl, rfl⟩
      refine W.dt [] 155 ((cmpQ (X + Z) (Y + Z)) == (cmpQ X Y)) (by kernel_rfl) (by rw [cmpQ_addR]; simp) ?_
      refine W.cl [155] (by kernel_rfl) (p_qmul n1 a1 m1 b1 n3 a3 m3 b3) ?_
      rintro _ _ ⟨n37, a37, m37, b37, rfl, rfl⟩
      refine W.cl [155] (by kernel_rfl) (p_qmul n2 a2 m2 b2 n3 a3 m3 b3) ?_
      rintro _ _ ⟨n38, a38, m38, b38, rfl, rfl⟩
      refine W.cl [155] (by kernel_rfl) (p_qcmp n37 a37 m37 b37 n38 a38 m38 b38) ?_
      rintro _ _ ⟨rfl, rfl⟩
      refine W.cl [155] (by kernel_rfl) (p_qcmp n1 a1 m1 b1 n2 a2 m2 b2) ?_
      rintro _ _ ⟨rfl, rfl⟩
      refine W.cl [155] (by kernel_rfl) (p_qsign n3 a3 m3 b3) ?_
      rintro _ _ ⟨rfl, rfl⟩
      refine W.dt [155] 171 ((cmpQ (X * Z) (Y * Z)) == IntKind.i64.wrap ((cmpQ X Y) * Z.num.sign)) (by kernel_rfl) (by rw [cmpQ_mulR]; simp) ?_
      refine W.cl [171] (by kernel_rfl) (p_qcmp n1 a1 m1 b1 n2 a2 m2 b2) ?_
      rintro _ _ ⟨rfl, rfl⟩
      refine W.cl [171] (by kernel_rfl) (p_qsub n1 a1 m1 b1 n2 a2 m2 b2) ?_
      rintro _ _ ⟨n43, a43, m43, b43, rfl, rfl⟩
      refine W.cl [171] (by kernel_rfl) (p_qsign n43 a43 m43 b43) ?_
      rintro _ _ ⟨rfl, rfl⟩
      exact W.r [171] (.bool ((cmpQ X Y) == (X - Y).num.sign)) (by kernel_rfl) ⟨by rw [cmp_subS]; simp, rfl⟩ ent0

end Go.Proofs.Ytmpcabpepnmfiaa
namespace Go.Proofs.Ytmpcabpepnmfiaa.fracField
open Go.ChangeShapes Go.WideShapes Go.ChangeAt Go.RowKit
open Go.ChangeMaps (open_string shut_string)

theorem closed : joinedFacts Try.pinned.checked.prog 13 Try.f13 Rows.fracFieldSpec Rows.fracFieldRow = true := by
  unfold joinedFacts
  rw [show Try.pinned.checked.prog.mayEnter = true from jn_enter, show (Rows.fracFieldRow.lifted == Try.pinned.checked.prog.liftsFinal) = true from jn_lift, show (Try.pinned.checked.prog.make == some Rows.fracFieldRow.make) = true from jn_make,
    show laidOutB Try.pinned.checked.prog = true from jn_laid, show mapsRowed Try.pinned.checked.prog = true from jn_maps]
  kernel_rfl

set_option maxRecDepth 100000 in
theorem lifted (os : Os) (started : os.Started) (H : Type) (enc : TypeId × Value → H) :
    ReturnsInHanded {} Try.checked os 13 .any (Rows.fracFieldSpec.pre6 enc Try.prog Try.f13 Rows.fracFieldRow.domain false) (Rows.fracFieldSpec.post enc Try.prog Try.f13 false true false false) := by
  refine returnsInHanded_of_change (C := Try.checked) jn_own started (by kernel_rfl) Try.func13
    (ChangeSpec.witness6 (enc := enc) (C := Try.checked) false ⟨#[], #[.string ⟨#[]⟩, .string ⟨#[]⟩, .string ⟨#[]⟩], []⟩ 8 (by kernel_rfl) (by kernel_rfl) (by kernel_rfl) (by kernel_rfl)) ?_
  intro W base args ds gs before hval0 hW hcnd _
  have hval : ∀ (j : Nat) t v, Try.f13.params[j]? = some t → args[j]? = some v → Value.okWide Try.prog W .any base t v := hval0
  have hW' := hW
  obtain ⟨p, q, hA0, hV, rfl, hfz, hnd⟩ := hW
  have hA : DataW.TrodAll enc Try.prog W 0 (fun _ => true) true Try.f13.params.toList args.toList ds p := hA0
  have hK := hA
  rw [Try.params13] at hA hval hK
  obtain ⟨v0, vs0, d0, ds0, p0, q0, hargs, rfl, rfl, h0, r0⟩ := trodAll_cons hA
  obtain ⟨v1, vs1, d1, ds1, p1, q1, rfl, rfl, rfl, h1, r1⟩ := trodAll_cons r0
  obtain ⟨v2, vs2, d2, ds2, p2, q2, rfl, rfl, rfl, h2, r2⟩ := trodAll_cons r1
  obtain ⟨rfl, rfl, rfl⟩ := trodAll_nil r2
  obtain rfl : args = #[v0, v1, v2] := by cases args; simp_all
  obtain ⟨rfl, rfl⟩ := trodVars_none hV
  obtain ⟨a0, rfl, rfl, rfl, w0⟩ := open_string Try.underlying9 (hval 0 9 v0 rfl rfl) h0
  obtain ⟨a1, rfl, rfl, rfl, w1⟩ := open_string Try.underlying9 (hval 1 9 v1 rfl rfl) h1
  obtain ⟨a2, rfl, rfl, rfl, w2⟩ := open_string Try.underlying9 (hval 2 9 v2 rfl rfl) h2
  clear hA0 hval0
  simp only [List.append_nil] at hW' hK
  refine (law_calls' (p_fracField a0 w0 a1 w1 a2 w2) W (Holds.nil _ _)).mono fun e W' ⟨he, hg⟩ => ?_
  subst he
  exact ⟨_, rfl, law_post hW' rfl (fun _ _ _ => (trodAll_cons_mk (shut_bool Try.underlying4 _) trodAll_mk0)) (fun sp hsp => trodAll_stays jn_laid hg (by kernel_rfl) hK (fun x hx => hW'.lt x (by first | exact hx | simpa using hx)) (fun x hx => hsp x (by first | exact hx | simpa using hx))) rfl hg⟩

theorem over : Rows.fracFieldRow.holds Try.pinned (OpenSpec.ofChange Rows.fracFieldSpec) :=
  OpenClaim.holds_of_wide 13 Try.f13 rfl rfl rfl rfl rfl rfl rfl ⟨rfl, rfl, rfl, rfl, rfl⟩ rfl rfl rfl rfl rfl (by kernel_rfl) Try.func13 closed
    (of_decide_eq_true (by kernel_rfl)) (by unfold Func.isWrapper; first | (rw [if_pos (by decide +kernel)]; kernel_rfl) | (rw [if_neg (by decide +kernel)]; exact ⟨rfl, rfl⟩))
    (fun os started H enc _ => lifted os started H enc)
end Go.Proofs.Ytmpcabpepnmfiaa.fracField
namespace Go.Proofs.Ytmpcabpepnmfiaa

/-- The statement. -/
theorem fracField_holds : Rows.FracFieldSaid := fracField.over
end Go.Proofs.Ytmpcabpepnmfiaa
