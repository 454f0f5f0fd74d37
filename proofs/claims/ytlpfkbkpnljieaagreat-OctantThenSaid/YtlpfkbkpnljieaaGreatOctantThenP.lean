/- What Turns do one behind the other is what the document says. -/
import Derived.Test.YtlpfkbkpnljieaaGreatRows
import Derived.Test.YtlpfkbkpnljieaaGreatTl
import Derived.Test.YtlpfkbkpnljieaaGreatLawZ
import Derived.Test.YtlpfkbkpnljieaaGreatVs
import Derived.Test.YtlpfkbkpnljieaaGreatJn
set_option linter.unusedSimpArgs false
set_option linter.unusedVariables false
namespace Go.Proofs.YtlpfkbkpnljieaaGreat
open Go.RowKit Go.IntWalk
set_option maxHeartbeats 16000000 in
theorem p_octantThen (ao : Option Addr) (n c : Nat) (ws : List Wy) (hn : n = ws.length) (hws : ∀ x ∈ ws, wyOk x) (px : Int) (w1 : (Lit.int .i64 px).wf = true) (py : Int) (w2 : (Lit.int .i64 py).wf = true) :
    PCalls tb Tryz.prog 3 [.slice ao n c, .int .i64 px, .int .i64 py] [RA ao (ws.flatMap PWy.cells)] (IsV (.bool true)) := by
  have w1' := wf64 w1
  have w2' := wf64 w2
  refine PCalls.of_W tbOk Tryz.func3 rfl (by kernel_rfl) ?_
  refine W.cl [] (by kernel_rfl) (u_of 1 0 (by decide) (by omega) (by omega)) ?_
  rintro _ _ ⟨S1, s1, R1, t1, rfl, rfl⟩
  refine W.cl [] (by kernel_rfl) (u_of 0 0 (by decide) (by omega) (by omega)) ?_
  rintro _ _ ⟨S2, s2, R2, t2, rfl, rfl⟩
  refine W.cl [] (by kernel_rfl) (u_of 0 0 (by decide) (by omega) (by omega)) ?_
  rintro _ _ ⟨S3, s3, R3, t3, rfl, rfl⟩
  refine W.cl [] (by kernel_rfl) (u_make8 false S1 s1 R1 t1 0 S2 s2 R2 t2 S3 s3 R3 t3 (k := 0) (by omega)) ?_
  rintro _ _ ⟨y4, rfl, rfl⟩
  refine W.lp [] [9] (fun a : Nat × Int × Q5 × R6 × On × Rn => [(9, .int .i64 a.2.1)]) (fun a => [(7, (otv a.2.2.2.2.1 a.2.2.1).cells.toList), (8, (rtv a.2.2.2.1.A a.2.2.2.1.B a.2.2.2.1.C a.2.2.2.1.D a.2.2.2.1.E a.2.2.2.1.F).cells.toList)]) (fun a => [OF a.2.2.1 ((304 * a.1 + 1) / 32 + 1, a.2.2.2.2.1), RB a.2.2.2.1 ((fB a.1, fB a.1), a.2.2.2.2.2), OL PWy ao (0, ws)])
    (fun a => a.2.1 = a.1 ∧ a.1 ≤ n ∧ a.1 ≤ 12 ∧ wide (304 * a.1) a.2.2.2.2.1 ∧ (0 ≤ a.2.2.2.2.1.o ∧ a.2.2.2.2.1.o ≤ 7) ∧ Acts a.2.2.2.2.2 a.2.2.2.2.1) (fun a => 12 - a.1) (0, 0, nilQ5, y4, on0, mkRn false ((1 : Int) : Rat) 0 ((0 : Int) : Rat) ((0 : Int) : Rat)) (by kernel_rfl) (by kernel_rfl) ⟨rfl, Nat.zero_le _, (show 0 ≤ 12 by decide), wide0, (show (0 : Int) ≤ 0 ∧ (0 : Int) ≤ 7 by decide), Acts.zero⟩ (fun I w hd hh => by
      have g := Has.p (k := RB y4) (a := ((0 + 10, 0), mkRn false ((1 : Int) : Rat) 0 ((0 : Int) : Rat) ((0 : Int) : Rat))) inferInstance hh
      exact Holds.cons (of_nil hd hh) (Holds.cons (RB.up2 g (show 0 + 10 ≤ 10 by decide) (show 0 ≤ 10 by decide)) (holds1 ⟨fun _ _ => trivial, Has.p (k := RA ao) inferInstance hh⟩))) ?_
  rintro ⟨k, z, x, y, V, U⟩ R ⟨hz, hk, hk12, hw, hO, hA⟩ close
  simp only at hz hk hk12 hw hO hA
  subst hz
  change W _ _ _ _ [OF x ((304 * k + 1) / 32 + 1, V), RB y ((fB k, fB k), U), OL PWy ao (0, ws)]
  have hf := fB_le hk12
  have hbV := hw.bO
  have e6 : ((k : Int) < 12) = (k < 12) := by simp; omega
  by_cases hgo : k < n ∧ k < 12
  · obtain ⟨hkn, hk1⟩ := hgo
    have hkl : k < ws.length := by omega
    have hmem := hws _ (List.getElem_mem hkl)
    refine W.el PWy ao k hkl rfl (by decide) ?_
    rintro B off rfl
    refine W.dt [] 22 (decide ((k : Int) < (n : Nat))) (by kernel_rfl) (by rw [decide_eq_true_iff]; omega) ?_
    refine W.dt [22] 25 (decide ((k : Int) < 12)) (by kernel_rfl) (by rw [decide_eq_true_iff]; omega) ?_
    refine W.ia [25] 5 B off n c .i64 k (k : Int) rfl tbOk (by kernel_rfl) hkn ?_
    refine W.lds [] B (off + k * 5) (PWy.cells (ws[k]'hkl)) tbOk (by kernel_rfl) (OL.told PWy B off k hkl) ?_
    generalize hq : ws[k]'hkl = q at *
    obtain ⟨f0, k0, m0, x0, y0⟩ := q
    obtain ⟨u0, wm0, wx0, wy0⟩ := hmem
    simp only at u0 wm0 wx0 wy0
    refine W.cl [] (by kernel_rfl) (p_wmadeB f0 k0 m0 x0 y0 wm0 wx0 wy0) ?_
    rintro _ _ ⟨g0, o0, a1, b1, rfl, hW0, rfl⟩
    by_cases h0 : wayOk k0 m0 x0 y0 = false
    · refine W.dt [] 38 (!wayOk k0 m0 x0 y0) (by kernel_rfl) (by rw [h0]; rfl) ?_
      refine W.cl [38] (by kernel_rfl) (p_oknown) ?_
      rintro _ _ ⟨rfl, rfl⟩
      exact W.r [] (.bool true) (by kernel_rfl) ⟨rfl, rfl⟩ ent0
    have h0 : wayOk k0 m0 x0 y0 = true := by simpa using h0
    refine W.df [] 38 (!wayOk k0 m0 x0 y0) (by kernel_rfl) (by rw [h0]; rfl) ?_
    refine W.code 999 ?_
    obtain ⟨eg0, eo0⟩ := hW0 h0
    obtain rfl := eg0.symm
    obtain rfl := eo0.symm
    refine W.kB a1 b1 (by kernel_rfl) h0 ?_
    have hO0 : 0 ≤ (wayOn f0 k0 m0 x0 y0).o ∧ (wayOn f0 k0 m0 x0 y0).o ≤ 7 := ⟨(wayOk_spec h0).1, (wayOk_spec h0).2.1⟩
    have hA0 : Acts (mkRn f0 (qval m0) k0 (qval x0) (qval y0)) (wayOn f0 k0 m0 x0 y0) := Acts.make f0 k0 (qval m0) (qval x0) (qval y0) hO0 (wayOk_spec h0).2.2
    have hw1 : wide (304 * (k + 1)) (V.then (wayOn f0 k0 m0 x0 y0)) := by
      have := hw.then (wide_way (f := f0) h0)
      rw [show 304 * k + 3 * 100 + 4 = 304 * (k + 1) by omega] at this
      exact this
    refine W.cl [38] (by kernel_rfl) (p_othenK V (wayOn f0 k0 m0 x0 y0) x a1 hw1.bO hO hO0) ?_
    rintro _ _ ⟨x9, rfl, rfl⟩
    refine W.cl [] (by kernel_rfl) (u_then8 y b1) ?_
    rintro _ _ ⟨y10, rfl, rfl⟩
    refine close [] _ _ (k + 1, IntKind.i64.wrap ((k : Int) + 1), x9, y10, V.then (wayOn f0 k0 m0 x0 y0), U.then (mkRn f0 (qval m0) k0 (qval x0) (qval y0))) (by kernel_rfl) (by kernel_rfl) ⟨by simp only; rw [i64_in _ (by omega)]; rfl, by simp only; omega, by simp only; omega, hw1, On.then_o _ _, hA.then hA0 hO hO0⟩ (by simp only; omega) (fun I w hd hh => ?_)
    have f1 := Has.p (k := OF x9) (a := ((304 * (k + 1) + 1) / 32 + 1, V.then (wayOn f0 k0 m0 x0 y0))) inferInstance hh
    have f2 := Has.p (k := RB y10) (a := ((8 * 110 + 8 * fB k + 14, 8 * 110 + 8 * fB k + 14 + 100), U.then (mkRn f0 (qval m0) k0 (qval x0) (qval y0)))) inferInstance hh
    have e8 : fB (k + 1) = 8 * fB k + 1004 := rfl
    exact Holds.cons f1 (Holds.cons (RB.up2 f2 (by simp only; omega) (by simp only; omega)) (holds1 (Has.p (k := OL PWy (some ⟨B, off, none⟩)) (a := (0, ws)) inferInstance hh)))
  · have hL : (304 * k + 1) / 32 + 1 ≤ 10000 := by omega
    have hk5 : 5 * (304 * k + 1) + 266 ≤ 1000000 := by omega
    have i0 : (-9223372036854775808 : Int) ≤ 0 ∧ (0 : Int) < 9223372036854775808 := by decide
    have i1 : (-9223372036854775808 : Int) ≤ 1 ∧ (1 : Int) < 9223372036854775808 := by decide
    obtain ⟨k1, k2⟩ := hbV.X w1' w2'
    obtain ⟨k3, k4⟩ := hbV.X i1 i0
    obtain ⟨k5, k6⟩ := hbV.X i0 i1
    obtain ⟨m1, m2⟩ := hA.move
    have bm : bS (5 * (304 * k + 1) + 266) (r2 V.a V.b) ∧ bS (5 * (304 * k + 1) + 266) (r2 V.c V.d) := by
      obtain ⟨_, b2, b3, b4, b5⟩ := hbV
      exact ⟨bS.r2 (b2.mono (by omega)) (b3.mono (by omega)) (by omega), bS.r2 (b4.mono (by omega)) (b5.mono (by omega)) (by omega)⟩
    by_cases hkn : k < n
    · refine W.dt [] 22 (decide ((k : Int) < (n : Nat))) (by kernel_rfl) (by rw [decide_eq_true_iff]; omega) ?_
      refine W.df [22] 25 (decide ((k : Int) < 12)) (by kernel_rfl) (by rw [decide_eq_false_iff_not]; omega) ?_
      refine W.cl [25] (by kernel_rfl) (p_oknown) ?_
      rintro _ _ ⟨rfl, rfl⟩
      refine W.cl [50] (by kernel_rfl) (p_oatT V x px py hbV hO w1' w2') ?_
      rintro _ _ ⟨X7, Y7, rfl, rfl⟩
      refine W.cl [50] (by kernel_rfl) (u_whole8 px py w1' w2') ?_
      rintro _ _ ⟨X8, Y8, rfl, rfl⟩
      refine W.cl [50] (by kernel_rfl) (u_at8E y X8 Y8 (X := V.X px py) (Y := V.Y px py) (hA.2 px 0 py 0).1 (hA.2 px 0 py 0).2) ?_
      rintro _ _ ⟨X9, Y9, rfl, rfl⟩
      refine W.cl [50] (by kernel_rfl) (p_oalikeB X7 Y7 X9 Y9 k1 k2) ?_
      rintro _ _ ⟨rfl, rfl⟩
      refine W.cl [61, 50] (by kernel_rfl) (p_omove V x) ?_
      rintro _ _ ⟨X11, Y11, rfl, rfl⟩
      refine W.cx [61] (by kernel_rfl) (entEB y m1 m2) (p_oalikeB X11 Y11 y.E y.F bm.1 bm.2) ?_
      rintro _ _ ⟨rfl, rfl⟩
      refine W.cl [68, 61] (by kernel_rfl) (p_oatT V x 1 0 hbV hO i1 i0) ?_
      rintro _ _ ⟨X13, Y13, rfl, rfl⟩
      refine W.cl [68] (by kernel_rfl) (u_whole8 1 0 i1 i0) ?_
      rintro _ _ ⟨X14, Y14, rfl, rfl⟩
      refine W.cl [68] (by kernel_rfl) (u_at8E y X14 Y14 (X := V.X (1 : Int) (0 : Int)) (Y := V.Y (1 : Int) (0 : Int)) (hA.2 (1 : Int) 0 (0 : Int) 0).1 (hA.2 (1 : Int) 0 (0 : Int) 0).2) ?_
      rintro _ _ ⟨X15, Y15, rfl, rfl⟩
      refine W.cl [68] (by kernel_rfl) (p_oalikeB X13 Y13 X15 Y15 k3 k4) ?_
      rintro _ _ ⟨rfl, rfl⟩
      refine W.cl [77, 68] (by kernel_rfl) (p_oatT V x 0 1 hbV hO i0 i1) ?_
      rintro _ _ ⟨X17, Y17, rfl, rfl⟩
      refine W.cl [77] (by kernel_rfl) (u_whole8 0 1 i0 i1) ?_
      rintro _ _ ⟨X18, Y18, rfl, rfl⟩
      refine W.cl [77] (by kernel_rfl) (u_at8E y X18 Y18 (X := V.X (0 : Int) (1 : Int)) (Y := V.Y (0 : Int) (1 : Int)) (hA.2 (0 : Int) 0 (1 : Int) 0).1 (hA.2 (0 : Int) 0 (1 : Int) 0).2) ?_
      rintro _ _ ⟨X19, Y19, rfl, rfl⟩
      refine W.cl [77] (by kernel_rfl) (p_oalikeB X17 Y17 X19 Y19 k5 k6) ?_
      rintro _ _ ⟨rfl, rfl⟩
      exact W.r [77] (.bool true) (by kernel_rfl) ⟨rfl, rfl⟩ ent0
    · refine W.df [] 22 (decide ((k : Int) < (n : Nat))) (by kernel_rfl) (by rw [decide_eq_false_iff_not]; omega) ?_
      refine W.cl [25, 22] (by kernel_rfl) (p_oknown) ?_
      rintro _ _ ⟨rfl, rfl⟩
      refine W.cl [50] (by kernel_rfl) (p_oatT V x px py hbV hO w1' w2') ?_
      rintro _ _ ⟨X7, Y7, rfl, rfl⟩
      refine W.cl [50] (by kernel_rfl) (u_whole8 px py w1' w2') ?_
      rintro _ _ ⟨X8, Y8, rfl, rfl⟩
      refine W.cl [50] (by kernel_rfl) (u_at8E y X8 Y8 (X := V.X px py) (Y := V.Y px py) (hA.2 px 0 py 0).1 (hA.2 px 0 py 0).2) ?_
      rintro _ _ ⟨X9, Y9, rfl, rfl⟩
      refine W.cl [50] (by kernel_rfl) (p_oalikeB X7 Y7 X9 Y9 k1 k2) ?_
      rintro _ _ ⟨rfl, rfl⟩
      refine W.cl [61, 50] (by kernel_rfl) (p_omove V x) ?_
      rintro _ _ ⟨X11, Y11, rfl, rfl⟩
      refine W.cx [61] (by kernel_rfl) (entEB y m1 m2) (p_oalikeB X11 Y11 y.E y.F bm.1 bm.2) ?_
      rintro _ _ ⟨rfl, rfl⟩
      refine W.cl [68, 61] (by kernel_rfl) (p_oatT V x 1 0 hbV hO i1 i0) ?_
      rintro _ _ ⟨X13, Y13, rfl, rfl⟩
      refine W.cl [68] (by kernel_rfl) (u_whole8 1 0 i1 i0) ?_
      rintro _ _ ⟨X14, Y14, rfl, rfl⟩
      refine W.cl [68] (by kernel_rfl) (u_at8E y X14 Y14 (X := V.X (1 : Int) (0 : Int)) (Y := V.Y (1 : Int) (0 : Int)) (hA.2 (1 : Int) 0 (0 : Int) 0).1 (hA.2 (1 : Int) 0 (0 : Int) 0).2) ?_
      rintro _ _ ⟨X15, Y15, rfl, rfl⟩
      refine W.cl [68] (by kernel_rfl) (p_oalikeB X13 Y13 X15 Y15 k3 k4) ?_
      rintro _ _ ⟨rfl, rfl⟩
      refine W.cl [77, 68] (by kernel_rfl) (p_oatT V x 0 1 hbV hO i0 i1) ?_
      rintro _ _ ⟨X17, Y17, rfl, rfl⟩
      refine W.cl [77] (by kernel_rfl) (u_whole8 0 1 i0 i1) ?_
      rintro _ _ ⟨X18, Y18, rfl, rfl⟩
      refine W.cl [77] (by kernel_rfl) (u_at8E y X18 Y18 (X := V.X (0 : Int) (1 : Int)) (Y := V.Y (0 : Int) (1 : Int)) (hA.2 (0 : Int) 0 (1 : Int) 0).1 (hA.2 (0 : Int) 0 (1 : Int) 0).2) ?_
      rintro _ _ ⟨X19, Y19, rfl, rfl⟩
      refine W.cl [77] (by kernel_rfl) (p_oalikeB X17 Y17 X19 Y19 k5 k6) ?_
      rintro _ _ ⟨rfl, rfl⟩
      exact W.r [77] (.bool true) (by kernel_rfl) ⟨rfl, rfl⟩ ent0

end Go.Proofs.YtlpfkbkpnljieaaGreat
namespace Go.Proofs.YtlpfkbkpnljieaaGreat.octantThen
open Go.ChangeShapes Go.WideShapes Go.ChangeAt Go.RowKit
open Go.ChangeMaps (open_string shut_string)

theorem closed : joinedFacts Tryz.pinned.checked.prog 3 Tryz.f3 Rows.octantThenSpec Rows.octantThenRow = true := by
  unfold joinedFacts
  rw [show Tryz.pinned.checked.prog.mayEnter = true from jn_enter, show (Rows.octantThenRow.lifted == Tryz.pinned.checked.prog.liftsFinal) = true from jn_lift, show (Tryz.pinned.checked.prog.make == some Rows.octantThenRow.make) = true from jn_make,
    show laidOutB Tryz.pinned.checked.prog = true from jn_laid, show mapsRowed Tryz.pinned.checked.prog = true from jn_maps]
  kernel_rfl

set_option maxRecDepth 100000 in
set_option maxHeartbeats 2000000 in
theorem lifted (os : Os) (started : os.Started) (H : Type) (enc : TypeId × Value → H) :
    ReturnsInHanded {} Tryz.checked os 3 .any (Rows.octantThenSpec.pre6 enc Tryz.prog Tryz.f3 Rows.octantThenRow.domain false) (Rows.octantThenSpec.post enc Tryz.prog Tryz.f3 false true false false) := by
  refine returnsInHanded_of_change (C := Tryz.checked) jn_own started (by kernel_rfl) Tryz.func3
    (ChangeSpec.witness6 (enc := enc) (C := Tryz.checked) false ⟨#[], #[.slice none 0 0, .int .i64 0, .int .i64 0], []⟩ 8 (by kernel_rfl) (by kernel_rfl) (by kernel_rfl) (by kernel_rfl)) ?_
  intro W base args ds gs before hval0 hW hcnd _
  have hval : ∀ (j : Nat) t v, Tryz.f3.params[j]? = some t → args[j]? = some v → Value.okWide Tryz.prog W .any base t v := hval0
  have hW' := hW
  obtain ⟨p, q, hA0, hV, rfl, hfz, hnd⟩ := hW
  have hA : DataW.TrodAll enc Tryz.prog W 0 (fun _ => true) true Tryz.f3.params.toList args.toList ds p := hA0
  have hK := hA
  rw [Tryz.params3] at hA hval hK
  obtain ⟨v0, vs0, d0, ds0, p0, q0, hargs, rfl, rfl, h0, r0⟩ := trodAll_cons hA
  obtain ⟨v1, vs1, d1, ds1, p1, q1, rfl, rfl, rfl, h1, r1⟩ := trodAll_cons r0
  obtain ⟨v2, vs2, d2, ds2, p2, q2, rfl, rfl, rfl, h2, r2⟩ := trodAll_cons r1
  obtain ⟨rfl, rfl, rfl⟩ := trodAll_nil r2
  obtain rfl : args = #[v0, v1, v2] := by cases args; simp_all
  obtain ⟨rfl, rfl⟩ := trodVars_none hV
  obtain ⟨ao0, n0, c0, a0, rfl, e0, w0, g0⟩ := open_ways Tryz.underlying22 Tryz.underlying52 (by kernel_rfl) ⟨rfl, rfl⟩ ⟨rfl, rfl⟩ ⟨rfl, rfl⟩ ⟨rfl, rfl⟩ ⟨rfl, rfl⟩ Tryz.underlying4 (by kernel_rfl) Tryz.underlying3 (by kernel_rfl) Tryz.underlying9 (by kernel_rfl) (hval 0 22 v0 rfl rfl) h0
  obtain ⟨a1, rfl, rfl, rfl, w1⟩ := open_int Tryz.underlying3 (hval 1 3 v1 rfl rfl) h1
  obtain ⟨a2, rfl, rfl, rfl, w2⟩ := open_int Tryz.underlying3 (hval 2 3 v2 rfl rfl) h2
  clear hA0 hval0
  simp only [List.append_nil] at hW' hK
  refine (law_calls' (p_octantThen ao0 n0 c0 a0 e0 w0 a1 w1 a2 w2) W (Holds.cons g0 (Holds.nil _ _))).mono fun e W' ⟨he, hg⟩ => ?_
  subst he
  exact ⟨_, rfl, law_post hW' rfl (fun _ _ _ => (trodAll_cons_mk (shut_bool Tryz.underlying4 _) trodAll_mk0)) (fun sp hsp => trodAll_stays jn_laid hg (by kernel_rfl) hK (fun x hx => hW'.lt x (by first | exact hx | simpa using hx)) (fun x hx => hsp x (by first | exact hx | simpa using hx))) rfl hg⟩

theorem over : Rows.octantThenRow.holds Tryz.pinned (OpenSpec.ofChange Rows.octantThenSpec) :=
  OpenClaim.holds_of_wide 3 Tryz.f3 rfl rfl rfl rfl rfl rfl rfl ⟨rfl, rfl, rfl, rfl, rfl⟩ rfl rfl rfl rfl rfl (by kernel_rfl) Tryz.func3 closed
    (of_decide_eq_true (by kernel_rfl)) (by unfold Func.isWrapper; first | (rw [if_pos (by decide +kernel)]; kernel_rfl) | (rw [if_neg (by decide +kernel)]; exact ⟨rfl, rfl⟩))
    (fun os started H enc _ => lifted os started H enc)
end Go.Proofs.YtlpfkbkpnljieaaGreat.octantThen
namespace Go.Proofs.YtlpfkbkpnljieaaGreat

/-- The statement. -/
theorem octantThen_holds : Rows.OctantThenSaid := octantThen.over
end Go.Proofs.YtlpfkbkpnljieaaGreat
