
/- OctantLengths: how far two points are from one another is multiplied by mag, whatever else is done. No conditions. -/
import Derived.Test.YtabpaiboodllbaaGreatRows
import Derived.Test.YtabpaiboodllbaaGreatOt
import Derived.Test.YtabpaiboodllbaaGreatSi
import Derived.Test.YtabpaiboodllbaaGreatLawZ
import Derived.Test.YtabpaiboodllbaaGreatVs
import Derived.Test.YtabpaiboodllbaaGreatJn
set_option linter.unusedSimpArgs false
set_option linter.unusedVariables false
namespace Go.Proofs.YtabpaiboodllbaaGreat
open Go.RowKit Go.IntWalk
def farS (X Y U V : Sn) : Sn := Sn.add (Sn.mul (Sn.sub X U) (Sn.sub X U)) (Sn.mul (Sn.sub Y V) (Sn.sub Y V))
theorem farS_bits {b c : Nat} {X Y U V : Sn} (hx : bS b X) (hy : bS b Y) (hu : bS c U) (hv : bS c V) : bS (24 * b + 24 * c + 31) (farS X Y U V) :=
  bS.mono (bS.add (bS.mul (bS.sub hx hu) (bS.sub hx hu)) (bS.mul (bS.sub hy hv) (bS.sub hy hv))) (by omega)
theorem far_law (V : On) (hV : 0 ≤ V.o ∧ V.o ≤ 7) (p q r s : Rat) : farS (V.X p q) (V.Y p q) (V.X r s) (V.Y r s) = Sn.mul (farS (r2 p 0) (r2 q 0) (r2 r 0) (r2 s 0)) ⟨2, 0, V.mag * V.mag, 0, 0, 0⟩ := by
  have key : ∀ (a b c d : Rat), 2 * a * a + 2 * b * b + c * c + d * d = 2 → a * c + b * d = 0 → ∀ (H M x z x' z' A B C D : Rat), 2 * H = 1 → (z' = z ∨ z' = -z) → (A = x * M * a + 0 * M * c - (z' * M * b + 0 * M * d) ∧ B = 0 * M * a + x * M * (c * H) - (0 * M * b + z' * M * (d * H)) ∧ C = x * M * b + 0 * M * d + (z' * M * a + 0 * M * c) ∧ D = 0 * M * b + x * M * (d * H) + (0 * M * a + z' * M * (c * H))) →
      A * A + 2 * (B * B) + (C * C + 2 * (D * D)) = (x * x + z * z) * (M * M) ∧ A * B + B * A + (C * D + D * C) = 0 := by
    intro a b c d h1 h2 H M x z x' z' A B C D hH hz ⟨eA, eB, eC, eD⟩
    have hzz : z' * z' = z * z := by rcases hz with h | h <;> rw [h] <;> grind
    have h3 : a * a + b * b + 2 * (c * H * (c * H)) + 2 * (d * H * (d * H)) = 1 := by grind
    have e1 : A * A + 2 * (B * B) + (C * C + 2 * (D * D)) = (x * x + z' * z') * (M * M) * (a * a + b * b + 2 * (c * H * (c * H)) + 2 * (d * H * (d * H))) := by
      rw [eA, eB, eC, eD]
      clear h1 h2 h3 hH hz hzz
      grind
    have e2 : A * B + B * A + (C * D + D * C) = 2 * (M * M) * H * (x * x + z' * z') * (a * c + b * d) := by
      rw [eA, eB, eC, eD]
      clear h1 h2 h3 hH hz hzz
      grind
    rw [e1, e2, h3, h2, hzz]
    constructor <;> grind
  have hH : 2 * Rat.divInt 1 2 = 1 := by decide +kernel
  have cast : ∀ {a b : Int}, a = b → (a : Rat) = (b : Rat) := fun h => by rw [h]
  have c2 : ((2 : Int) : Rat) = 2 := rfl
  have c0 : ((0 : Int) : Rat) = 0 := rfl
  have r1 : 2 * (pc V.o : Rat) * pc V.o + 2 * (ps V.o : Rat) * ps V.o + (pcr V.o : Rat) * pcr V.o + (psr V.o : Rat) * psr V.o = 2 ∧ (pc V.o : Rat) * pcr V.o + (ps V.o : Rat) * psr V.o = 0 := by
    have h8 : ∀ n : _root_.Fin 8, 2 * pc n * pc n + 2 * ps n * ps n + pcr n * pcr n + psr n * psr n = 2 ∧ pc n * pcr n + ps n * psr n = 0 := by decide +kernel
    obtain ⟨n, hn⟩ := fin8 hV
    rw [hn]
    obtain ⟨g1, g2⟩ := h8 n
    have g1 := cast g1
    have g2 := cast g2
    simp only [Rat.intCast_add, Rat.intCast_mul, c2, c0] at g1 g2
    exact ⟨g1, g2⟩
  have hz : V.sg q - V.sg s = q - s ∨ V.sg q - V.sg s = -(q - s) := by
    unfold On.sg
    split
    · exact .inr (by grind)
    · exact .inl rfl
  have h0 : V.sg 0 = 0 := by
    unfold On.sg
    split <;> grind
  have dA : V.u0 p 0 q 0 - V.u0 r 0 s 0 = (p - r) * V.mag * pc V.o + 0 * V.mag * pcr V.o - ((V.sg q - V.sg s) * V.mag * ps V.o + 0 * V.mag * psr V.o) := by
    unfold On.u0 tm1
    rw [h0]
    grind
  have dB : V.u1 p 0 q 0 - V.u1 r 0 s 0 = 0 * V.mag * pc V.o + (p - r) * V.mag * (pcr V.o * Rat.divInt 1 2) - (0 * V.mag * ps V.o + (V.sg q - V.sg s) * V.mag * (psr V.o * Rat.divInt 1 2)) := by
    unfold On.u1 tm2
    rw [h0, divInt_half (pcr V.o), divInt_half (psr V.o)]
    grind
  have dC : V.v0 p 0 q 0 - V.v0 r 0 s 0 = (p - r) * V.mag * ps V.o + 0 * V.mag * psr V.o + ((V.sg q - V.sg s) * V.mag * pc V.o + 0 * V.mag * pcr V.o) := by
    unfold On.v0 tm1
    rw [h0]
    grind
  have dD : V.v1 p 0 q 0 - V.v1 r 0 s 0 = 0 * V.mag * ps V.o + (p - r) * V.mag * (psr V.o * Rat.divInt 1 2) + (0 * V.mag * pc V.o + (V.sg q - V.sg s) * V.mag * (pcr V.o * Rat.divInt 1 2)) := by
    unfold On.v1 tm2
    rw [h0, divInt_half (pcr V.o), divInt_half (psr V.o)]
    grind
  obtain ⟨k1, k2⟩ := key (pc V.o) (ps V.o) (pcr V.o) (psr V.o) r1.1 r1.2 (Rat.divInt 1 2) V.mag (p - r) (q - s) 0 (V.sg q - V.sg s) (V.u0 p 0 q 0 - V.u0 r 0 s 0) (V.u1 p 0 q 0 - V.u1 r 0 s 0) (V.v0 p 0 q 0 - V.v0 r 0 s 0) (V.v1 p 0 q 0 - V.v1 r 0 s 0) hH hz ⟨dA, dB, dC, dD⟩
  clear key dA dB dC dD r1 hz h0 hH
  unfold farS On.X On.Y r2 Sn.mul Sn.sub Sn.add
  simp only [c2, c0]
  generalize V.u0 p 0 q 0 - V.u0 r 0 s 0 = A at *
  generalize V.u1 p 0 q 0 - V.u1 r 0 s 0 = B at *
  generalize V.v0 p 0 q 0 - V.v0 r 0 s 0 = C at *
  generalize V.v1 p 0 q 0 - V.v1 r 0 s 0 = D at *
  generalize p - r = x at *
  generalize q - s = z at *
  refine Sn.ext' rfl rfl ?_ ?_ ?_ ?_ <;> simp only <;> grind
set_option maxHeartbeats 4000000 in
theorem p_ofar {Γ : List Fact} {L1 L2 L3 L4 b c : Nat} (x y u v : Sw) {X Y U V : Sn} [Has (SF x) (L1, X) Γ] [Has (SF y) (L2, Y) Γ] [Has (SF u) (L3, U) Γ] [Has (SF v) (L4, V) Γ] (hx : bS b X) (hy : bS b Y) (hu : bS c U) (hv : bS c V)
    (e1 : X.m = U.m ∧ X.n = U.n) (e2 : Y.m = V.m ∧ Y.n = V.n) (e3 : X.m = Y.m ∧ X.n = Y.n) (hL : L1 ≤ 10000 ∧ L2 ≤ 10000 ∧ L3 ≤ 10000 ∧ L4 ≤ 10000 := by omega) (hbc : b + c ≤ 10000 := by omega) :
    PCalls tb Tryz.prog 33 [plv x y, plv u v] Γ (SPost ((24 * b + 24 * c + 31) / 32 + 1) (farS X Y U V)) := by
  refine PCalls.of_W tbOk Tryz.func33 rfl (by kernel_rfl) ?_
  have hs_X1 := bS.sub hx hu
  refine W.cl [] (by kernel_rfl) ((p_xsub x u e1.1 e1.2).okT hs_X1) ?_
  rintro _ _ ⟨X1, rfl, rfl⟩
  have hs_X2 := bS.sub hy hv
  refine W.cl [] (by kernel_rfl) ((p_xsub y v e2.1 e2.2).okT hs_X2) ?_
  rintro _ _ ⟨X2, rfl, rfl⟩
  have hs_X3 := bS.mul hs_X1 hs_X1
  refine W.cl [] (by kernel_rfl) ((p_xmul X1 X1 (by rfl) (by rfl)).okT hs_X3) ?_
  rintro _ _ ⟨X3, rfl, rfl⟩
  have hs_X4 := bS.mul hs_X2 hs_X2
  refine W.cl [] (by kernel_rfl) ((p_xmul X2 X2 (by rfl) (by rfl)).okT hs_X4) ?_
  rintro _ _ ⟨X4, rfl, rfl⟩
  have hs_X5 := bS.add hs_X3 hs_X4
  refine W.cl [] (by kernel_rfl) ((p_xadd X3 X4 (show ((X.sub U).mul (X.sub U)).m = ((Y.sub V).mul (Y.sub V)).m from e3.1) (show ((X.sub U).mul (X.sub U)).n = ((Y.sub V).mul (Y.sub V)).n from e3.2)).okT hs_X5) ?_
  rintro _ _ ⟨X5, rfl, rfl⟩
  exact W.r [] (sv X5) (by kernel_rfl) ⟨X5, rfl, rfl⟩ (entS' (by omega) rfl)
set_option maxHeartbeats 16000000 in
theorem p_octantLengths (f0 : Bool) (k0 : Int) (u0 : (Lit.int .i64 k0).wf = true) (m0 x0 y0 : ByteArray) (wm0 : m0.size ≤ 9223372036854775807) (wx0 : x0.size ≤ 9223372036854775807) (wy0 : y0.size ≤ 9223372036854775807) (p1 q1 : Int) (w1 : (Lit.int .i64 p1).wf = true) (w2 : (Lit.int .i64 q1).wf = true) (p2 q2 : Int) (w3 : (Lit.int .i64 p2).wf = true) (w4 : (Lit.int .i64 q2).wf = true) :
    PCalls tb Tryz.prog 6 [.agg #[.bool f0, .int .i64 k0, .string m0, .string x0, .string y0], .agg #[.int .i64 p1, .int .i64 q1], .agg #[.int .i64 p2, .int .i64 q2]] [] (IsV (.bool true)) := by
  refine PCalls.of_W tbOk Tryz.func6 rfl (by kernel_rfl) ?_
  refine W.cl [] (by kernel_rfl) (p_wmade f0 k0 m0 x0 y0 wm0 wx0 wy0) ?_
  rintro _ _ ⟨g0, o0, a1, b1, rfl, hW0, rfl⟩
  refine W.cl [] (by kernel_rfl) (p_oknown) ?_
  rintro _ _ ⟨rfl, rfl⟩
  by_cases h0 : wayOk k0 m0 x0 y0 = false
  · refine W.dt [29] 32 (!wayOk k0 m0 x0 y0) (by kernel_rfl) (by rw [h0]; rfl) ?_
    refine W.cl [32] (by kernel_rfl) (p_oknown) ?_
    rintro _ _ ⟨rfl, rfl⟩
    exact W.r [] (.bool true) (by kernel_rfl) ⟨rfl, rfl⟩ ent0
  have h0 : wayOk k0 m0 x0 y0 = true := by simpa using h0
  refine W.df [29] 32 (!wayOk k0 m0 x0 y0) (by kernel_rfl) (by rw [h0]; rfl) ?_
  refine W.code 999 ?_
  obtain ⟨eg0, eo0⟩ := hW0 h0
  obtain rfl := eg0.symm
  obtain rfl := eo0.symm
  refine W.kf a1 b1 (by kernel_rfl) h0 ?_
  have hb0 := wayOk_bits (f := f0) h0
  have hO0 : 0 ≤ (wayOn f0 k0 m0 x0 y0).o ∧ (wayOn f0 k0 m0 x0 y0).o ≤ 7 := ⟨(wayOk_spec h0).1, (wayOk_spec h0).2.1⟩
  have b1 := wf64 w1
  have b2 := wf64 w2
  have b3 := wf64 w3
  have b4 := wf64 w4
  obtain ⟨hX1, hY1⟩ := bO.X hb0 b1 b2
  obtain ⟨hX2, hY2⟩ := bO.X hb0 b3 b4
  have hX3 : bS 64 (r2 p1 0) := bS.r2 (int_bits b1) (bq.zero 64 (by omega)) (by omega)
  have hY3 : bS 64 (r2 q1 0) := bS.r2 (int_bits b2) (bq.zero 64 (by omega)) (by omega)
  have hX4 : bS 64 (r2 p2 0) := bS.r2 (int_bits b3) (bq.zero 64 (by omega)) (by omega)
  have hY4 : bS 64 (r2 q2 0) := bS.r2 (int_bits b4) (bq.zero 64 (by omega)) (by omega)
  have hX13 : bS 200 (⟨2, 0, (wayOn f0 k0 m0 x0 y0).mag * (wayOn f0 k0 m0 x0 y0).mag, 0, 0, 0⟩ : Sn) := ⟨Nat.lt_of_lt_of_le (by decide : 2 < 2 ^ 2) (pow_mono2 (by omega)), Nat.two_pow_pos 200, hb0.mag.mul hb0.mag, bq.zero 200 (by omega), bq.zero 200 (by omega), bq.zero 200 (by omega)⟩
  have law := far_law (wayOn f0 k0 m0 x0 y0) hO0 p1 q1 p2 q2
  refine W.cl [32] (by kernel_rfl) (p_oatT (wayOn f0 k0 m0 x0 y0) a1 p1 q1 hb0 hO0 b1 b2) ?_
  rintro _ _ ⟨X3, Y3, rfl, rfl⟩
  refine W.cl [] (by kernel_rfl) (p_oatT (wayOn f0 k0 m0 x0 y0) a1 p2 q2 hb0 hO0 b3 b4) ?_
  rintro _ _ ⟨X4, Y4, rfl, rfl⟩
  refine W.cl [] (by kernel_rfl) (p_owhole8 p1 q1 b1 b2) ?_
  rintro _ _ ⟨X5, Y5, rfl, rfl⟩
  refine W.cl [] (by kernel_rfl) (p_owhole8 p2 q2 b3 b4) ?_
  rintro _ _ ⟨X6, Y6, rfl, rfl⟩
  refine W.cl [] (by kernel_rfl) (p_zof 2 (by omega) (by omega)) ?_
  rintro _ _ ⟨u7, d7, rfl, rfl⟩   -- 2
  refine W.cl [] (by kernel_rfl) (p_zof 0 (by omega) (by omega)) ?_
  rintro _ _ ⟨u8, d8, rfl, rfl⟩   -- 0
  refine W.cx [] (by kernel_rfl) (fun I w _ hh => holds1 (Has.p (k := OF a1) (a := (_, (wayOn f0 k0 m0 x0 y0))) inferInstance hh).1) (p_omag (wayOn f0 k0 m0 x0 y0).f (wayOn f0 k0 m0 x0 y0).o a1.g a1.a a1.b a1.c a1.d (V := (wayOn f0 k0 m0 x0 y0))) ?_
  rintro _ _ ⟨g9, rfl, rfl⟩
  refine W.cx [] (by kernel_rfl) (fun I w _ hh => holds1 (Has.p (k := OF a1) (a := (_, (wayOn f0 k0 m0 x0 y0))) inferInstance hh).1) (p_omag (wayOn f0 k0 m0 x0 y0).f (wayOn f0 k0 m0 x0 y0).o a1.g a1.a a1.b a1.c a1.d (V := (wayOn f0 k0 m0 x0 y0))) ?_
  rintro _ _ ⟨g10, rfl, rfl⟩
  refine W.cl [] (by kernel_rfl) (p_qmul g9.n g9.a g9.m g9.b g10.n g10.a g10.m g10.b) ?_
  rintro _ _ ⟨n11, a11, m11, b11, rfl, rfl⟩   -- ((wayOn f0 k0 m0 x0 y0).mag * (wayOn f0 k0 m0 x0 y0).mag)
  refine W.bs [] 1 ([(⟨n11, a11, m11, b11, ((wayOn f0 k0 m0 x0 y0).mag * (wayOn f0 k0 m0 x0 y0).mag)⟩ : QE)].flatMap QR.cells) tbOk (by kernel_rfl) (fun b12 => ?_)
  refine W.cl [] (by kernel_rfl) (p_xof1 u7 d7 u8 d8 b12 ⟨n11, a11, m11, b11⟩ (by decide) (by decide)) ?_
  rintro _ _ ⟨X13, rfl, rfl⟩
  have hs_X14 := farS_bits hX3 hY3 hX4 hY4
  refine W.cl [] (by kernel_rfl) (p_ofar X5 Y5 X6 Y6 hX3 hY3 hX4 hY4 ⟨rfl, rfl⟩ ⟨rfl, rfl⟩ ⟨rfl, rfl⟩) ?_
  rintro _ _ ⟨X14, rfl, rfl⟩
  have hs_X15 := bS.mul hs_X14 hX13
  refine W.cl [] (by kernel_rfl) ((p_xmul X14 X13 (by rfl) (by rfl)).okT hs_X15) ?_
  rintro _ _ ⟨X15, rfl, rfl⟩
  have hs_X16 := farS_bits hX1 hY1 hX2 hY2
  refine W.cl [] (by kernel_rfl) (p_ofar X3 Y3 X4 Y4 hX1 hY1 hX2 hY2 ⟨rfl, rfl⟩ ⟨rfl, rfl⟩ ⟨rfl, rfl⟩) ?_
  rintro _ _ ⟨X16, rfl, rfl⟩
  refine W.cl [] (by kernel_rfl) (p_xcmp X16 X15 (by rfl) (by rfl)) ?_
  rintro _ _ ⟨rfl, rfl⟩
  exact W.r [76] (.bool ((Sn.sub (farS (On.X (wayOn f0 k0 m0 x0 y0) p1 q1) (On.Y (wayOn f0 k0 m0 x0 y0) p1 q1) (On.X (wayOn f0 k0 m0 x0 y0) p2 q2) (On.Y (wayOn f0 k0 m0 x0 y0) p2 q2)) (Sn.mul (farS (r2 p1 0) (r2 q1 0) (r2 p2 0) (r2 q2 0)) ⟨2, 0, ((wayOn f0 k0 m0 x0 y0).mag * (wayOn f0 k0 m0 x0 y0).mag), 0, 0, 0⟩)).sg == 0)) (by kernel_rfl) ⟨congrArg _ (beq0 (Sn.sg_eq law)), rfl⟩ ent0

end Go.Proofs.YtabpaiboodllbaaGreat
namespace Go.Proofs.YtabpaiboodllbaaGreat.octantLengths
open Go.ChangeShapes Go.WideShapes Go.ChangeAt Go.RowKit
open Go.ChangeMaps (open_string shut_string)

theorem closed : joinedFacts Tryz.pinned.checked.prog 6 Tryz.f6 Rows.octantLengthsSpec Rows.octantLengthsRow = true := by
  unfold joinedFacts
  rw [show Tryz.pinned.checked.prog.mayEnter = true from jn_enter, show (Rows.octantLengthsRow.lifted == Tryz.pinned.checked.prog.liftsFinal) = true from jn_lift, show (Tryz.pinned.checked.prog.make == some Rows.octantLengthsRow.make) = true from jn_make,
    show laidOutB Tryz.pinned.checked.prog = true from jn_laid, show mapsRowed Tryz.pinned.checked.prog = true from jn_maps]
  kernel_rfl

set_option maxRecDepth 100000 in
theorem lifted (os : Os) (started : os.Started) (H : Type) (enc : TypeId × Value → H) :
    ReturnsInHanded {} Tryz.checked os 6 .any (Rows.octantLengthsSpec.pre6 enc Tryz.prog Tryz.f6 Rows.octantLengthsRow.domain false) (Rows.octantLengthsSpec.post enc Tryz.prog Tryz.f6 false true false false) := by
  refine returnsInHanded_of_change (C := Tryz.checked) jn_own started (by kernel_rfl) Tryz.func6
    (ChangeSpec.witness6 (enc := enc) (C := Tryz.checked) false ⟨#[], #[.agg #[.bool false, .int .i64 0, .string ⟨#[]⟩, .string ⟨#[]⟩, .string ⟨#[]⟩], .agg #[.int .i64 0, .int .i64 0], .agg #[.int .i64 0, .int .i64 0]], []⟩ 8 (by kernel_rfl) (by kernel_rfl) (by kernel_rfl) (by kernel_rfl)) ?_
  intro W base args ds gs before hval0 hW hcnd _
  have hval : ∀ (j : Nat) t v, Tryz.f6.params[j]? = some t → args[j]? = some v → Value.okWide Tryz.prog W .any base t v := hval0
  have hW' := hW
  obtain ⟨p, q, hA0, hV, rfl, hfz, hnd⟩ := hW
  have hA : DataW.TrodAll enc Tryz.prog W 0 (fun _ => true) true Tryz.f6.params.toList args.toList ds p := hA0
  have hK := hA
  rw [Tryz.params6] at hA hval hK
  obtain ⟨v0, vs0, d0, ds0, p0, q0, hargs, rfl, rfl, h0, r0⟩ := trodAll_cons hA
  obtain ⟨v1, vs1, d1, ds1, p1, q1, rfl, rfl, rfl, h1, r1⟩ := trodAll_cons r0
  obtain ⟨v2, vs2, d2, ds2, p2, q2, rfl, rfl, rfl, h2, r2⟩ := trodAll_cons r1
  obtain ⟨rfl, rfl, rfl⟩ := trodAll_nil r2
  obtain rfl : args = #[v0, v1, v2] := by cases args; simp_all
  obtain ⟨rfl, rfl⟩ := trodVars_none hV
  obtain ⟨f0, k0, m0, x0, y0, rfl, u0, wm0, wx0, wy0⟩ := open_way Tryz.underlying65 (by kernel_rfl) ⟨rfl, rfl⟩ ⟨rfl, rfl⟩ ⟨rfl, rfl⟩ ⟨rfl, rfl⟩ ⟨rfl, rfl⟩ Tryz.underlying4 (by kernel_rfl) Tryz.underlying3 (by kernel_rfl) Tryz.underlying9 (by kernel_rfl) (hval 0 65 v0 rfl rfl) h0
  obtain ⟨a1, b1, rfl, u1, x1⟩ := open_pt Tryz.underlying76 (by kernel_rfl) ⟨rfl, rfl⟩ ⟨rfl, rfl⟩ Tryz.underlying3 (by kernel_rfl) (hval 1 76 v1 rfl rfl) h1
  obtain ⟨a2, b2, rfl, u2, x2⟩ := open_pt Tryz.underlying76 (by kernel_rfl) ⟨rfl, rfl⟩ ⟨rfl, rfl⟩ Tryz.underlying3 (by kernel_rfl) (hval 2 76 v2 rfl rfl) h2
  clear hA0 hval0
  simp only [List.append_nil] at hW' hK
  refine (law_calls' (p_octantLengths f0 k0 u0 m0 x0 y0 wm0 wx0 wy0 a1 b1 u1 x1 a2 b2 u2 x2) W (Holds.nil _ _)).mono fun e W' ⟨he, hg⟩ => ?_
  subst he
  exact ⟨_, rfl, law_post hW' rfl (fun _ _ _ => (trodAll_cons_mk (shut_bool Tryz.underlying4 _) trodAll_mk0)) (fun sp hsp => trodAll_stays jn_laid hg (by kernel_rfl) hK (fun x hx => hW'.lt x (by first | exact hx | simpa using hx)) (fun x hx => hsp x (by first | exact hx | simpa using hx))) rfl hg⟩

theorem over : Rows.octantLengthsRow.holds Tryz.pinned (OpenSpec.ofChange Rows.octantLengthsSpec) :=
  OpenClaim.holds_of_wide 6 Tryz.f6 rfl rfl rfl rfl rfl rfl rfl ⟨rfl, rfl, rfl, rfl, rfl⟩ rfl rfl rfl rfl rfl (by kernel_rfl) Tryz.func6 closed
    (of_decide_eq_true (by kernel_rfl)) (by unfold Func.isWrapper; first | (rw [if_pos (by decide +kernel)]; kernel_rfl) | (rw [if_neg (by decide +kernel)]; exact ⟨rfl, rfl⟩))
    (fun os started H enc _ => lifted os started H enc)
end Go.Proofs.YtabpaiboodllbaaGreat.octantLengths
namespace Go.Proofs.YtabpaiboodllbaaGreat

/-- The statement. -/
theorem octantLengths_holds : Rows.OctantLengthsSaid := octantLengths.over
end Go.Proofs.YtabpaiboodllbaaGreat
