
/- Places of other fields go along by quarters, or where the field is root 2's. -/
import Derived.Test.YtabpaiboodllbaaGreatRows
import Derived.Test.YtabpaiboodllbaaGreatFw
import Derived.Test.YtabpaiboodllbaaGreatVt
import Derived.Test.YtabpaiboodllbaaGreatLawZ
import Derived.Test.YtabpaiboodllbaaGreatVs
import Derived.Test.YtabpaiboodllbaaGreatJn
set_option linter.unusedSimpArgs false
set_option linter.unusedVariables false
namespace Go.Proofs.YtabpaiboodllbaaGreat
open Go.RowKit Go.IntWalk
set_option maxHeartbeats 16000000 in
theorem p_octantFar (f0 : Bool) (k0 : Int) (u0 : (Lit.int .i64 k0).wf = true) (m0 x0 y0 : ByteArray) (wm0 : m0.size ≤ 9223372036854775807) (wx0 : x0.size ≤ 9223372036854775807) (wy0 : y0.size ≤ 9223372036854775807)
    (M N : Int) (hM : (Lit.int .i64 M).wf = true) (hN : (Lit.int .i64 N).wf = true) (ao : Option Addr) (n c : Nat) (ss0 : List ByteArray) (en0 : n = ss0.length) (hs0 : ∀ s ∈ ss0, s.size ≤ 9223372036854775807) (bo : Option Addr) (l d : Nat) (ss1 : List ByteArray) (en1 : l = ss1.length) (hs1 : ∀ s ∈ ss1, s.size ≤ 9223372036854775807) (ot : Bool) :
    PCalls tb Tryz.prog 9 [.agg #[.bool f0, .int .i64 k0, .string m0, .string x0, .string y0], .agg #[.int .i64 M, .int .i64 N, .slice ao n c, .slice bo l d], .bool ot] [RA ao (ss0.map Value.string), RA bo (ss1.map Value.string)] (IsV (.bool true)) := by
  refine PCalls.of_W tbOk Tryz.func9 rfl (by kernel_rfl) ?_
  refine W.cl [] (by kernel_rfl) (p_wmade f0 k0 m0 x0 y0 wm0 wx0 wy0) ?_
  rintro _ _ ⟨g0, o0, a1, b1, rfl, hW0, rfl⟩
  refine W.cl [] (by kernel_rfl) (p_onum M N hM hN ao n c ss0 en0 hs0) ?_
  rintro _ _ ⟨X2, rfl, rfl⟩
  refine W.cl [] (by kernel_rfl) (p_onum M N hM hN bo l d ss1 en1 hs1) ?_
  rintro _ _ ⟨X3, rfl, rfl⟩
  refine W.cl [] (by kernel_rfl) (p_oknown) ?_
  rintro _ _ ⟨rfl, rfl⟩
  by_cases h0 : wayOk k0 m0 x0 y0 = false
  · refine W.dt [64] 68 (!wayOk k0 m0 x0 y0) (by kernel_rfl) (by rw [h0]; rfl) ?_
    refine W.cl [75, 72, 68] (by kernel_rfl) (p_oknown) ?_
    rintro _ _ ⟨rfl, rfl⟩
    exact W.r [] (.bool true) (by kernel_rfl) ⟨rfl, rfl⟩ ent0
  have h0 : wayOk k0 m0 x0 y0 = true := by simpa using h0
  refine W.df [64] 68 (!wayOk k0 m0 x0 y0) (by kernel_rfl) (by rw [h0]; rfl) ?_
  by_cases h1 : numOk M N ss0 = false
  · refine W.dt [68] 72 (!numOk M N ss0) (by kernel_rfl) (by rw [h1]; rfl) ?_
    refine W.cl [75, 72] (by kernel_rfl) (p_oknown) ?_
    rintro _ _ ⟨rfl, rfl⟩
    exact W.r [] (.bool true) (by kernel_rfl) ⟨rfl, rfl⟩ ent0
  have h1 : numOk M N ss0 = true := by simpa using h1
  refine W.df [68] 72 (!numOk M N ss0) (by kernel_rfl) (by rw [h1]; rfl) ?_
  by_cases h2 : numOk M N ss1 = false
  · refine W.dt [72] 75 (!numOk M N ss1) (by kernel_rfl) (by rw [h2]; rfl) ?_
    refine W.cl [75] (by kernel_rfl) (p_oknown) ?_
    rintro _ _ ⟨rfl, rfl⟩
    exact W.r [] (.bool true) (by kernel_rfl) ⟨rfl, rfl⟩ ent0
  have h2 : numOk M N ss1 = true := by simpa using h2
  refine W.df [72] 75 (!numOk M N ss1) (by kernel_rfl) (by rw [h2]; rfl) ?_
  refine W.code 999 ?_
  obtain ⟨eg0, eo0⟩ := hW0 h0
  obtain rfl := eg0.symm
  obtain rfl := eo0.symm
  clear wm0 wx0 wy0 hs0 hs1
  refine W.kf a1 b1 (by kernel_rfl) h0 ?_
  refine W.xf X2 (by kernel_rfl) h1 ?_
  refine W.xf X3 (by kernel_rfl) h2 ?_
  have hb0 := wayOk_bits (f := f0) h0
  have hO0 : 0 ≤ (wayOn f0 k0 m0 x0 y0).o ∧ (wayOn f0 k0 m0 x0 y0).o ≤ 7 := ⟨(wayOk_spec h0).1, (wayOk_spec h0).2.1⟩
  have hmag := wayOn_mag (f := f0) h0
  obtain ⟨gg, hgd⟩ : ∃ q, q = On.mag (wayOn f0 k0 m0 x0 y0) * On.mag (wayOn f0 k0 m0 x0 y0) := ⟨_, rfl⟩
  have hgg : md 200 200 gg := by rw [hgd]; exact hmag.md.mul hmag.md
  refine W.more (by kernel_rfl) (entTO5 (x := a1) (k := 100) hb0) ?_
  obtain ⟨hM0, hN0, hq0⟩ := numOk_spec h1
  obtain ⟨_, _, hq1⟩ := numOk_spec h2
  have h00 : 0 ≤ (snOf M N ss0).m ∧ 0 ≤ (snOf M N ss0).n := ⟨hM0, hN0⟩
  have bS1 := snOf_b67 h1 (wf64 hM).2 (wf64 hN).2
  have mS1 : mS 67 67 (snOf M N ss0) := ⟨(hq0 0).md, (hq0 1).md, (hq0 2).md, (hq0 3).md⟩
  have mS2 : mS 67 67 (snOf M N ss1) := ⟨(hq1 0).md, (hq1 1).md, (hq1 2).md, (hq1 3).md⟩
  cases ot
  · refine W.df [75] 77 false (by kernel_rfl) rfl ?_
    have bS2 := snOf_b67 h2 (wf64 hM).2 (wf64 hN).2
    by_cases hm2 : M ≤ 2
    · by_cases hn2 : N ≤ 2
      · have hsm : 0 ≤ (snOf M N ss0).m ∧ (snOf M N ss0).m ≤ 2 := ⟨hM0, hm2⟩
        have hsn : 0 ≤ (snOf M N ss0).n ∧ (snOf M N ss0).n ≤ 2 := ⟨hN0, hn2⟩
        obtain ⟨A1, hA1⟩ : ∃ A, A = On.u0 (wayOn f0 k0 m0 x0 y0) (Sn.n0 (snOf M N ss0)) (Sn.n1 (snOf M N ss0)) (Sn.n0 (snOf M N ss1)) (Sn.n1 (snOf M N ss1)) := ⟨_, rfl⟩
        obtain ⟨B1, hB1⟩ : ∃ A, A = On.u1 (wayOn f0 k0 m0 x0 y0) (Sn.n0 (snOf M N ss0)) (Sn.n1 (snOf M N ss0)) (Sn.n0 (snOf M N ss1)) (Sn.n1 (snOf M N ss1)) := ⟨_, rfl⟩
        obtain ⟨A2, hA2⟩ : ∃ A, A = On.v0 (wayOn f0 k0 m0 x0 y0) (Sn.n0 (snOf M N ss0)) (Sn.n1 (snOf M N ss0)) (Sn.n0 (snOf M N ss1)) (Sn.n1 (snOf M N ss1)) := ⟨_, rfl⟩
        obtain ⟨B2, hB2⟩ : ∃ A, A = On.v1 (wayOn f0 k0 m0 x0 y0) (Sn.n0 (snOf M N ss0)) (Sn.n1 (snOf M N ss0)) (Sn.n0 (snOf M N ss1)) (Sn.n1 (snOf M N ss1)) := ⟨_, rfl⟩
        have fsq := far_small (wayOn f0 k0 m0 x0 y0) hO0 rfl rfl (Sn.n0 (snOf M N ss0)) (Sn.n1 (snOf M N ss0)) (Sn.n0 (snOf M N ss1)) (Sn.n1 (snOf M N ss1))
        rw [← hA1, ← hB1, ← hA2, ← hB2, ← hgd] at fsq
        have hbits := far_bits (X := (snOf M N ss0)) (Y := (snOf M N ss1)) hsm hsn rfl rfl mS1 mS2 hgg
        have wbits := was_bits (X := (snOf M N ss0)) (Y := (snOf M N ss1)) hsm hsn rfl rfl mS1 mS2 hgg
        have heq := far_was (X := (snOf M N ss0)) (Y := (snOf M N ss1)) hsm hsn rfl rfl gg
        refine W.cl [77] (by kernel_rfl) (p_ofarE (wayOn f0 k0 m0 x0 y0) a1 X2 X3 (X := (snOf M N ss0)) (Y := (snOf M N ss1)) (X' := ⟨2, 0, A1, B1, 0, 0⟩) (Y' := ⟨2, 0, A2, B2, 0, 0⟩) hO0 rfl rfl hsm hsn (by rw [hA1, hB1]; rfl) (by rw [hA2, hB2]; rfl) (hL := by decide)) ?_
        rintro _ _ ⟨X5, Y5, rfl, rfl⟩
        refine W.dt [97, 93] 103 (decide (M ≤ 2)) (by kernel_rfl) (decide_eq_true hm2) ?_
        refine W.cl [103] (by kernel_rfl) (p_omoveE (wayOn f0 k0 m0 x0 y0) a1 (X := ⟨2, 0, qval x0, 0, 0, 0⟩) (Y := ⟨2, 0, qval y0, 0, 0, 0⟩) rfl rfl (hL := by decide)) ?_
        rintro _ _ ⟨X6, Y6, rfl, rfl⟩
        refine W.code 999 ?_
        refine W.sf X6 (by kernel_rfl) ?_
        refine W.sf Y6 (by kernel_rfl) ?_
        refine W.sf X5 (by kernel_rfl) ?_
        refine W.cl [] (by kernel_rfl) (p_xparts X6) ?_
        rintro _ _ ⟨rfl, rfl⟩
        refine W.cl [] (by kernel_rfl) (p_qsign X6.q.n X6.q.a X6.q.m X6.q.b (q := 0) (hL := by decide)) ?_
        rintro _ _ ⟨rfl, rfl⟩
        refine W.dt [] 116 ((0 : Rat).num.sign == 0) (by kernel_rfl) rfl ?_
        refine W.cl [116] (by kernel_rfl) (p_xparts Y6) ?_
        rintro _ _ ⟨rfl, rfl⟩
        refine W.cl [116] (by kernel_rfl) (p_qsign Y6.q.n Y6.q.a Y6.q.m Y6.q.b (q := 0) (hL := by decide)) ?_
        rintro _ _ ⟨rfl, rfl⟩
        refine W.df [116] 126 (!decide (N ≤ 2)) (by kernel_rfl) (by rw [decide_eq_true (show N ≤ 2 from hn2)]; rfl) ?_
        refine W.cl [139, 135, 131, 126] (by kernel_rfl) (p_xfield X5) ?_
        rintro _ _ ⟨rfl, rfl⟩
        refine W.dt [] 147 (decide (N ≤ 2)) (by kernel_rfl) (decide_eq_true (show N ≤ 2 from hn2)) ?_
        refine W.cl [147] (by kernel_rfl) (p_ztext X5.u X5.d (x := 2) (hL := by decide)) ?_
        rintro _ _ ⟨rfl, rfl⟩
        refine W.df [147] 151 (!(ztxt 2).toList == (⟨#[50]⟩ : ByteArray).toList) (by kernel_rfl) (by decide +kernel) ?_
        refine W.cl [151] (by kernel_rfl) (p_zsign X5.v X5.e (x := 0) (hL := by decide)) ?_
        rintro _ _ ⟨rfl, rfl⟩
        refine W.df [147, 151] 157 ((0 : Int).sign != 0) (by kernel_rfl) (by decide) ?_
        refine W.df [157] 160 (!decide (N ≤ 2)) (by kernel_rfl) (by rw [decide_eq_true (show N ≤ 2 from hn2)]; rfl) ?_
        refine W.revp 19 (zc X5.u X5.d) (by kernel_rfl) (by kernel_rfl) ?_
        intro b1
        refine W.revp 20 (zc X5.v X5.e) (by kernel_rfl) (by kernel_rfl) ?_
        intro b2
        refine W.cl [178, 181] (by kernel_rfl) (p_xparts X6) ?_
        rintro _ _ ⟨rfl, rfl⟩
        refine W.cl [] (by kernel_rfl) (p_oat1 X5 X6.p b1 b2 X5.u X5.d X5.v X5.e (S := (⟨2, 0, A1, B1, 0, 0⟩ : Sn)) (q := qval x0) (m := 2) (n := 0) (by decide) (by decide) rfl rfl (hL := by decide)) ?_
        rintro _ _ ⟨X7, rfl, rfl⟩
        refine W.cl [] (by kernel_rfl) (p_xparts Y6) ?_
        rintro _ _ ⟨rfl, rfl⟩
        refine W.cl [] (by kernel_rfl) (p_oat1 Y5 Y6.p b1 b2 X5.u X5.d X5.v X5.e (S := (⟨2, 0, A2, B2, 0, 0⟩ : Sn)) (q := qval y0) (m := 2) (n := 0) (by decide) (by decide) rfl rfl (hL := by decide)) ?_
        rintro _ _ ⟨X8, rfl, rfl⟩
        refine W.cl [] (by kernel_rfl) (p_xmul X7 X7 (S := (Sn.add (⟨2, 0, A1, B1, 0, 0⟩ : Sn) ⟨2, 0, -qval x0, 0, 0, 0⟩)) (T := (Sn.add (⟨2, 0, A1, B1, 0, 0⟩ : Sn) ⟨2, 0, -qval x0, 0, 0, 0⟩)) rfl rfl (hL := by decide) (hM := by decide)) ?_
        rintro _ _ ⟨X9, rfl, rfl⟩
        refine W.cl [] (by kernel_rfl) (p_xmul X8 X8 (S := (Sn.add (⟨2, 0, A2, B2, 0, 0⟩ : Sn) ⟨2, 0, -qval y0, 0, 0, 0⟩)) (T := (Sn.add (⟨2, 0, A2, B2, 0, 0⟩ : Sn) ⟨2, 0, -qval y0, 0, 0, 0⟩)) rfl rfl (hL := by decide) (hM := by decide)) ?_
        rintro _ _ ⟨X10, rfl, rfl⟩
        refine W.cl [] (by kernel_rfl) (p_xadd X9 X10 (S := Sn.mul (Sn.add (⟨2, 0, A1, B1, 0, 0⟩ : Sn) ⟨2, 0, -qval x0, 0, 0, 0⟩) (Sn.add (⟨2, 0, A1, B1, 0, 0⟩ : Sn) ⟨2, 0, -qval x0, 0, 0, 0⟩)) (T := Sn.mul (Sn.add (⟨2, 0, A2, B2, 0, 0⟩ : Sn) ⟨2, 0, -qval y0, 0, 0, 0⟩) (Sn.add (⟨2, 0, A2, B2, 0, 0⟩ : Sn) ⟨2, 0, -qval y0, 0, 0, 0⟩)) rfl rfl (hL := by decide) (hM := by decide)) ?_
        rintro _ _ ⟨X11, rfl, rfl⟩
        refine W.cl [] (by kernel_rfl) (p_xmul X2 X2 (S := (snOf M N ss0)) (T := (snOf M N ss0)) rfl rfl (hL := by decide) (hM := by decide)) ?_
        rintro _ _ ⟨X12, rfl, rfl⟩
        refine W.cl [] (by kernel_rfl) (p_xmul X3 X3 (S := (snOf M N ss1)) (T := (snOf M N ss1)) rfl rfl (hL := by decide) (hM := by decide)) ?_
        rintro _ _ ⟨X13, rfl, rfl⟩
        refine W.cl [] (by kernel_rfl) (p_xadd X12 X13 (S := Sn.mul (snOf M N ss0) (snOf M N ss0)) (T := Sn.mul (snOf M N ss1) (snOf M N ss1)) rfl rfl (hL := by decide) (hM := by decide)) ?_
        rintro _ _ ⟨X14, rfl, rfl⟩
        refine W.cl [] (by kernel_rfl) (p_zof M (wf64 hM).1 (wf64 hM).2) ?_
        rintro _ _ ⟨u15, d15, rfl, rfl⟩
        refine W.cl [] (by kernel_rfl) (p_zof N (wf64 hN).1 (wf64 hN).2) ?_
        rintro _ _ ⟨u16, d16, rfl, rfl⟩
        refine W.cx [] (by kernel_rfl) (fun I w _ hh => holds1 (Has.p (k := OF a1) (a := (100 / 32 + 1, (wayOn f0 k0 m0 x0 y0))) inferInstance hh).1) (p_omag (L := 100 / 32 + 1) f0 k0 a1.g a1.a a1.b a1.c a1.d (V := (wayOn f0 k0 m0 x0 y0)) (hL := by decide)) ?_
        rintro _ _ ⟨g17, rfl, rfl⟩
        refine W.cx [] (by kernel_rfl) (fun I w _ hh => holds1 (Has.p (k := OF a1) (a := (100 / 32 + 1, (wayOn f0 k0 m0 x0 y0))) inferInstance hh).1) (p_omag (L := 100 / 32 + 1) f0 k0 a1.g a1.a a1.b a1.c a1.d (V := (wayOn f0 k0 m0 x0 y0)) (hL := by decide)) ?_
        rintro _ _ ⟨g18, rfl, rfl⟩
        refine W.cl [] (by kernel_rfl) (p_qmul g17.n g17.a g17.m g17.b g18.n g18.a g18.m g18.b (hL := by decide) (hM := by decide)) ?_
        rintro _ _ ⟨n19, a19, m19, c19, rfl, rfl⟩
        rw [← hgd]
        refine W.bs [] 1 ([(⟨n19, a19, m19, c19, gg⟩ : QE)].flatMap QR.cells) tbOk (by kernel_rfl) (fun b20 => ?_)
        refine W.cl [] (by kernel_rfl) (p_xof1 u15 d15 u16 d16 b20 ⟨n19, a19, m19, c19⟩ h00.1 h00.2 (hL := by decide) (hM := by decide)) ?_
        rintro _ _ ⟨X21, rfl, rfl⟩
        refine W.cl [] (by kernel_rfl) (p_xmul X14 X21 (S := sq (snOf M N ss0) (snOf M N ss1)) (T := ⟨M, N, gg, 0, 0, 0⟩) rfl rfl (hL := by decide) (hM := by decide)) ?_
        rintro _ _ ⟨X22, rfl, rfl⟩
        refine W.code 999 ?_
        refine W.more (by kernel_rfl) (entTE (x := X11) (S := (sq (Sn.add (⟨2, 0, A1, B1, 0, 0⟩ : Sn) ⟨2, 0, -qval x0, 0, 0, 0⟩) (Sn.add (⟨2, 0, A2, B2, 0, 0⟩ : Sn) ⟨2, 0, -qval y0, 0, 0, 0⟩))) fsq hbits) ?_
        refine W.more (by kernel_rfl) (entTE (x := X22) (S := ((sq (snOf M N ss0) (snOf M N ss1)).mul ⟨M, N, gg, 0, 0, 0⟩)) (S' := ((sq (snOf M N ss0) (snOf M N ss1)).mul ⟨M, N, gg, 0, 0, 0⟩)) rfl wbits) ?_
        have q1 := nr_congr (S := ((sq (r2 (Sn.n0 (snOf M N ss0)) (Sn.n1 (snOf M N ss0))) (r2 (Sn.n0 (snOf M N ss1)) (Sn.n1 (snOf M N ss1)))).mul (r2 gg 0))) (T := ((sq (snOf M N ss0) (snOf M N ss1)).mul ⟨M, N, gg, 0, 0, 0⟩)) (show (0 : Int) ≤ 2 by decide) (show (0 : Int) ≤ 0 by decide) h00.1 h00.2 heq
        have q2 := fl_congr (S := ((sq (r2 (Sn.n0 (snOf M N ss0)) (Sn.n1 (snOf M N ss0))) (r2 (Sn.n0 (snOf M N ss1)) (Sn.n1 (snOf M N ss1)))).mul (r2 gg 0))) (T := ((sq (snOf M N ss0) (snOf M N ss1)).mul ⟨M, N, gg, 0, 0, 0⟩)) (show (0 : Int) ≤ 2 by decide) (show (0 : Int) ≤ 0 by decide) h00.1 h00.2 heq
        refine W.dt [] 256 (decide (N ≤ 2)) (by kernel_rfl) (decide_eq_true (show N ≤ 2 from hn2)) ?_
        refine W.cl [256] (by kernel_rfl) (p_xnr X11 (S := ((sq (r2 (Sn.n0 (snOf M N ss0)) (Sn.n1 (snOf M N ss0))) (r2 (Sn.n0 (snOf M N ss1)) (Sn.n1 (snOf M N ss1)))).mul (r2 gg 0))) (show (0 : Int) ≤ 2 by decide) (show (0 : Int) ≤ 0 by decide) (hL := by decide)) ?_
        rintro _ _ ⟨u23, d23, rfl, rfl⟩
        refine W.cl [] (by kernel_rfl) (p_xnr X22 (S := ((sq (snOf M N ss0) (snOf M N ss1)).mul ⟨M, N, gg, 0, 0, 0⟩)) h00.1 h00.2 (hL := by decide)) ?_
        rintro _ _ ⟨u24, d24, rfl, rfl⟩
        refine W.cl [] (by kernel_rfl) (p_zcmp u23 d23 u24 d24 (hL := by decide) (hM := by decide)) ?_
        rintro _ _ ⟨rfl, rfl⟩
        refine W.dt [] 263 (cmpZ (Sn.nr ((sq (r2 (Sn.n0 (snOf M N ss0)) (Sn.n1 (snOf M N ss0))) (r2 (Sn.n0 (snOf M N ss1)) (Sn.n1 (snOf M N ss1)))).mul (r2 gg 0))) (Sn.nr ((sq (snOf M N ss0) (snOf M N ss1)).mul ⟨M, N, gg, 0, 0, 0⟩)) == 0) (by kernel_rfl) (by rw [q1, cmpZ_self]; rfl) ?_
        refine W.cl [263] (by kernel_rfl) (p_xfl X11 (S := ((sq (r2 (Sn.n0 (snOf M N ss0)) (Sn.n1 (snOf M N ss0))) (r2 (Sn.n0 (snOf M N ss1)) (Sn.n1 (snOf M N ss1)))).mul (r2 gg 0))) (show (0 : Int) ≤ 2 by decide) (show (0 : Int) ≤ 0 by decide) (hL := by decide)) ?_
        rintro _ _ ⟨u25, d25, rfl, rfl⟩
        refine W.cl [263] (by kernel_rfl) (p_xfl X22 (S := ((sq (snOf M N ss0) (snOf M N ss1)).mul ⟨M, N, gg, 0, 0, 0⟩)) h00.1 h00.2 (hL := by decide)) ?_
        rintro _ _ ⟨u26, d26, rfl, rfl⟩
        refine W.cl [263] (by kernel_rfl) (p_zcmp u25 d25 u26 d26 (hL := by decide) (hM := by decide)) ?_
        rintro _ _ ⟨rfl, rfl⟩
        refine W.r [263] (.bool (cmpZ (Sn.fl ((sq (r2 (Sn.n0 (snOf M N ss0)) (Sn.n1 (snOf M N ss0))) (r2 (Sn.n0 (snOf M N ss1)) (Sn.n1 (snOf M N ss1)))).mul (r2 gg 0))) (Sn.fl ((sq (snOf M N ss0) (snOf M N ss1)).mul ⟨M, N, gg, 0, 0, 0⟩)) == 0)) (by kernel_rfl) ⟨by rw [q2, cmpZ_self]; rfl, rfl⟩ ent0
      · have hbig : 2 < (snOf M N ss0).m ∨ 2 < (snOf M N ss0).n := .inr (Int.not_le.1 hn2)
        by_cases he : k0 % 2 ≠ 0
        · skip
          refine W.cl [77] (by kernel_rfl) (p_ofarO (wayOn f0 k0 m0 x0 y0) a1 X2 X3 (X := (snOf M N ss0)) (Y := (snOf M N ss1)) hO0 he rfl rfl h00 hbig rfl rfl (hL := by decide)) ?_
          rintro _ _ ⟨rfl, rfl⟩
          refine W.dt [97, 93] 103 (decide (M ≤ 2)) (by kernel_rfl) (decide_eq_true hm2) ?_
          refine W.cl [103] (by kernel_rfl) (p_omoveE (wayOn f0 k0 m0 x0 y0) a1 (X := ⟨2, 0, qval x0, 0, 0, 0⟩) (Y := ⟨2, 0, qval y0, 0, 0, 0⟩) rfl rfl (hL := by decide)) ?_
          rintro _ _ ⟨X6, Y6, rfl, rfl⟩
          refine W.code 999 ?_
          refine W.sf X6 (by kernel_rfl) ?_
          refine W.sf Y6 (by kernel_rfl) ?_
          refine W.cl [] (by kernel_rfl) (p_xparts X6) ?_
          rintro _ _ ⟨rfl, rfl⟩
          refine W.cl [] (by kernel_rfl) (p_qsign X6.q.n X6.q.a X6.q.m X6.q.b (q := 0) (hL := by decide)) ?_
          rintro _ _ ⟨rfl, rfl⟩
          refine W.dt [] 116 ((0 : Rat).num.sign == 0) (by kernel_rfl) rfl ?_
          refine W.cl [116] (by kernel_rfl) (p_xparts Y6) ?_
          rintro _ _ ⟨rfl, rfl⟩
          refine W.cl [116] (by kernel_rfl) (p_qsign Y6.q.n Y6.q.a Y6.q.m Y6.q.b (q := 0) (hL := by decide)) ?_
          rintro _ _ ⟨rfl, rfl⟩
          refine W.dt [116] 126 (!decide (N ≤ 2)) (by kernel_rfl) (by rw [decide_eq_false hn2]; rfl) ?_
          refine W.cl [126] (by kernel_rfl) (p_ooct (wayOn f0 k0 m0 x0 y0).f (wayOn f0 k0 m0 x0 y0).o a1.g a1.a a1.b a1.c a1.d) ?_
          rintro _ _ ⟨rfl, rfl⟩
          refine W.rem [126] k0 2 1 (by kernel_rfl) (by decide) ((tmod8 hO0).2 he) ?_
          refine W.dt [126] 131 ((1 : Int) != 0) (by kernel_rfl) rfl ?_
          exact W.r [135, 126, 131] (.bool true) (by kernel_rfl) ⟨rfl, rfl⟩ ent0
        have he : k0 % 2 = 0 := Decidable.not_not.1 he
        obtain ⟨fm1, fn1, fm2, fn2⟩ := On.farP_mn (wayOn f0 k0 m0 x0 y0) (X := (snOf M N ss0)) (Y := (snOf M N ss1)) rfl rfl
        obtain ⟨fb1, fb2⟩ := far_big (wayOn f0 k0 m0 x0 y0) (X := (snOf M N ss0)) (Y := (snOf M N ss1)) rfl rfl rfl rfl
        have fsq := On.farP_sq (wayOn f0 k0 m0 x0 y0) (X := (snOf M N ss0)) (Y := (snOf M N ss1)) rfl rfl
        rw [← hgd] at fsq
        obtain ⟨fp1, fp2⟩ := farP_bits (wayOn f0 k0 m0 x0 y0) (X := (snOf M N ss0)) (Y := (snOf M N ss1)) bS1 bS2 hmag
        have hbits := sq_bits fp1 fp2
        obtain ⟨A1, hA1⟩ : ∃ A, A = On.farX (wayOn f0 k0 m0 x0 y0) (snOf M N ss0) (snOf M N ss1) := ⟨_, rfl⟩
        obtain ⟨A2, hA2⟩ : ∃ A, A = On.farY (wayOn f0 k0 m0 x0 y0) (snOf M N ss0) (snOf M N ss1) := ⟨_, rfl⟩
        have gX : On.farX (wayOn f0 k0 m0 x0 y0) (snOf M N ss0) (snOf M N ss1) = ⟨M, N, A1.p, A1.q, A1.r, A1.s⟩ := by rw [hA1]; exact Sn.ext' fm1 fn1 rfl rfl rfl rfl
        have gY : On.farY (wayOn f0 k0 m0 x0 y0) (snOf M N ss0) (snOf M N ss1) = ⟨M, N, A2.p, A2.q, A2.r, A2.s⟩ := by rw [hA2]; exact Sn.ext' fm2 fn2 rfl rfl rfl rfl
        refine W.cl [77] (by kernel_rfl) (p_ofarG (wayOn f0 k0 m0 x0 y0) a1 X2 X3 (X := (snOf M N ss0)) (Y := (snOf M N ss1)) hO0 he rfl rfl h00 hbig rfl rfl gX gY (hL := by decide)) ?_
        rintro _ _ ⟨X5, Y5, rfl, rfl⟩
        refine W.dt [97, 93] 103 (decide (M ≤ 2)) (by kernel_rfl) (decide_eq_true hm2) ?_
        refine W.cl [103] (by kernel_rfl) (p_omoveE (wayOn f0 k0 m0 x0 y0) a1 (X := ⟨2, 0, qval x0, 0, 0, 0⟩) (Y := ⟨2, 0, qval y0, 0, 0, 0⟩) rfl rfl (hL := by decide)) ?_
        rintro _ _ ⟨X6, Y6, rfl, rfl⟩
        refine W.code 999 ?_
        refine W.sf X6 (by kernel_rfl) ?_
        refine W.sf Y6 (by kernel_rfl) ?_
        refine W.sf X5 (by kernel_rfl) ?_
        refine W.cl [] (by kernel_rfl) (p_xparts X6) ?_
        rintro _ _ ⟨rfl, rfl⟩
        refine W.cl [] (by kernel_rfl) (p_qsign X6.q.n X6.q.a X6.q.m X6.q.b (q := 0) (hL := by decide)) ?_
        rintro _ _ ⟨rfl, rfl⟩
        refine W.dt [] 116 ((0 : Rat).num.sign == 0) (by kernel_rfl) rfl ?_
        refine W.cl [116] (by kernel_rfl) (p_xparts Y6) ?_
        rintro _ _ ⟨rfl, rfl⟩
        refine W.cl [116] (by kernel_rfl) (p_qsign Y6.q.n Y6.q.a Y6.q.m Y6.q.b (q := 0) (hL := by decide)) ?_
        rintro _ _ ⟨rfl, rfl⟩
        refine W.dt [116] 126 (!decide (N ≤ 2)) (by kernel_rfl) (by rw [decide_eq_false hn2]; rfl) ?_
        refine W.cl [126] (by kernel_rfl) (p_ooct (wayOn f0 k0 m0 x0 y0).f (wayOn f0 k0 m0 x0 y0).o a1.g a1.a a1.b a1.c a1.d) ?_
        rintro _ _ ⟨rfl, rfl⟩
        refine W.rem [126] k0 2 0 (by kernel_rfl) (by decide) ((tmod8 hO0).1 he) ?_
        refine W.df [126] 131 ((0 : Int) != 0) (by kernel_rfl) rfl ?_
        refine W.df [126, 131] 135 (!((0 : Rat).num.sign == 0)) (by kernel_rfl) rfl ?_
        refine W.cl [139, 135] (by kernel_rfl) (p_xfield X5) ?_
        rintro _ _ ⟨rfl, rfl⟩
        refine W.df [] 147 (decide (N ≤ 2)) (by kernel_rfl) (decide_eq_false hn2) ?_
        refine W.dt [157, 151, 147] 160 (!decide (N ≤ 2)) (by kernel_rfl) (by rw [decide_eq_false hn2]; rfl) ?_
        refine W.cl [160] (by kernel_rfl) (p_ztext X5.u X5.d (x := M) (hL := by decide)) ?_
        rintro _ _ ⟨rfl, rfl⟩
        refine W.cl [160] (by kernel_rfl) (p_zof M (wf64 hM).1 (wf64 hM).2) ?_
        rintro _ _ ⟨u1a, d1a, rfl, rfl⟩
        refine W.cl [160] (by kernel_rfl) (p_ztext u1a d1a (hL := by decide)) ?_
        rintro _ _ ⟨rfl, rfl⟩
        refine W.df [160] 168 (!(ztxt M).toList == (ztxt M).toList) (by kernel_rfl) (by simp) ?_
        refine W.cl [168] (by kernel_rfl) (p_ztext X5.v X5.e (x := N) (hL := by decide)) ?_
        rintro _ _ ⟨rfl, rfl⟩
        refine W.cl [168] (by kernel_rfl) (p_zof N (wf64 hN).1 (wf64 hN).2) ?_
        rintro _ _ ⟨u1b, d1b, rfl, rfl⟩
        refine W.cl [168] (by kernel_rfl) (p_ztext u1b d1b (hL := by decide)) ?_
        rintro _ _ ⟨rfl, rfl⟩
        refine W.df [157, 160, 168] 178 (!(ztxt N).toList == (ztxt N).toList) (by kernel_rfl) (by simp) ?_
        refine W.revp 19 (zc X5.u X5.d) (by kernel_rfl) (by kernel_rfl) ?_
        intro b1
        refine W.revp 20 (zc X5.v X5.e) (by kernel_rfl) (by kernel_rfl) ?_
        intro b2
        refine W.cl [178, 181] (by kernel_rfl) (p_xparts X6) ?_
        rintro _ _ ⟨rfl, rfl⟩
        refine W.cl [] (by kernel_rfl) (p_oat1 X5 X6.p b1 b2 X5.u X5.d X5.v X5.e (S := (⟨M, N, A1.p, A1.q, A1.r, A1.s⟩ : Sn)) (q := qval x0) (m := M) (n := N) h00.1 h00.2 rfl rfl (hL := by decide)) ?_
        rintro _ _ ⟨X7, rfl, rfl⟩
        refine W.cl [] (by kernel_rfl) (p_xparts Y6) ?_
        rintro _ _ ⟨rfl, rfl⟩
        refine W.cl [] (by kernel_rfl) (p_oat1 Y5 Y6.p b1 b2 X5.u X5.d X5.v X5.e (S := (⟨M, N, A2.p, A2.q, A2.r, A2.s⟩ : Sn)) (q := qval y0) (m := M) (n := N) h00.1 h00.2 rfl rfl (hL := by decide)) ?_
        rintro _ _ ⟨X8, rfl, rfl⟩
        have ex : (Sn.add (⟨M, N, A1.p, A1.q, A1.r, A1.s⟩ : Sn) ⟨M, N, -qval x0, 0, 0, 0⟩) = (On.farP (wayOn f0 k0 m0 x0 y0) (snOf M N ss0) (snOf M N ss1)).1 := by rw [← gX]; exact fb1
        have ey : (Sn.add (⟨M, N, A2.p, A2.q, A2.r, A2.s⟩ : Sn) ⟨M, N, -qval y0, 0, 0, 0⟩) = (On.farP (wayOn f0 k0 m0 x0 y0) (snOf M N ss0) (snOf M N ss1)).2 := by rw [← gY]; exact fb2
        refine W.code 999 ?_
        refine W.more (by kernel_rfl) (entTE (x := X7) (S := (Sn.add (⟨M, N, A1.p, A1.q, A1.r, A1.s⟩ : Sn) ⟨M, N, -qval x0, 0, 0, 0⟩)) ex fp1) ?_
        refine W.more (by kernel_rfl) (entTE (x := X8) (S := (Sn.add (⟨M, N, A2.p, A2.q, A2.r, A2.s⟩ : Sn) ⟨M, N, -qval y0, 0, 0, 0⟩)) ey fp2) ?_
        refine W.cl [] (by kernel_rfl) (p_xmul X7 X7 (S := (On.farP (wayOn f0 k0 m0 x0 y0) (snOf M N ss0) (snOf M N ss1)).1) (T := (On.farP (wayOn f0 k0 m0 x0 y0) (snOf M N ss0) (snOf M N ss1)).1) rfl rfl (hL := by decide) (hM := by decide)) ?_
        rintro _ _ ⟨X9, rfl, rfl⟩
        refine W.cl [] (by kernel_rfl) (p_xmul X8 X8 (S := (On.farP (wayOn f0 k0 m0 x0 y0) (snOf M N ss0) (snOf M N ss1)).2) (T := (On.farP (wayOn f0 k0 m0 x0 y0) (snOf M N ss0) (snOf M N ss1)).2) rfl rfl (hL := by decide) (hM := by decide)) ?_
        rintro _ _ ⟨X10, rfl, rfl⟩
        refine W.cl [] (by kernel_rfl) (p_xadd X9 X10 (S := Sn.mul (On.farP (wayOn f0 k0 m0 x0 y0) (snOf M N ss0) (snOf M N ss1)).1 (On.farP (wayOn f0 k0 m0 x0 y0) (snOf M N ss0) (snOf M N ss1)).1) (T := Sn.mul (On.farP (wayOn f0 k0 m0 x0 y0) (snOf M N ss0) (snOf M N ss1)).2 (On.farP (wayOn f0 k0 m0 x0 y0) (snOf M N ss0) (snOf M N ss1)).2) (fm1.trans fm2.symm) (fn1.trans fn2.symm) (hL := by decide) (hM := by decide)) ?_
        rintro _ _ ⟨X11, rfl, rfl⟩
        refine W.cl [] (by kernel_rfl) (p_xmul X2 X2 (S := (snOf M N ss0)) (T := (snOf M N ss0)) rfl rfl (hL := by decide) (hM := by decide)) ?_
        rintro _ _ ⟨X12, rfl, rfl⟩
        refine W.cl [] (by kernel_rfl) (p_xmul X3 X3 (S := (snOf M N ss1)) (T := (snOf M N ss1)) rfl rfl (hL := by decide) (hM := by decide)) ?_
        rintro _ _ ⟨X13, rfl, rfl⟩
        refine W.cl [] (by kernel_rfl) (p_xadd X12 X13 (S := Sn.mul (snOf M N ss0) (snOf M N ss0)) (T := Sn.mul (snOf M N ss1) (snOf M N ss1)) rfl rfl (hL := by decide) (hM := by decide)) ?_
        rintro _ _ ⟨X14, rfl, rfl⟩
        refine W.cl [] (by kernel_rfl) (p_zof M (wf64 hM).1 (wf64 hM).2) ?_
        rintro _ _ ⟨u15, d15, rfl, rfl⟩
        refine W.cl [] (by kernel_rfl) (p_zof N (wf64 hN).1 (wf64 hN).2) ?_
        rintro _ _ ⟨u16, d16, rfl, rfl⟩
        refine W.cx [] (by kernel_rfl) (fun I w _ hh => holds1 (Has.p (k := OF a1) (a := (100 / 32 + 1, (wayOn f0 k0 m0 x0 y0))) inferInstance hh).1) (p_omag (L := 100 / 32 + 1) f0 k0 a1.g a1.a a1.b a1.c a1.d (V := (wayOn f0 k0 m0 x0 y0)) (hL := by decide)) ?_
        rintro _ _ ⟨g17, rfl, rfl⟩
        refine W.cx [] (by kernel_rfl) (fun I w _ hh => holds1 (Has.p (k := OF a1) (a := (100 / 32 + 1, (wayOn f0 k0 m0 x0 y0))) inferInstance hh).1) (p_omag (L := 100 / 32 + 1) f0 k0 a1.g a1.a a1.b a1.c a1.d (V := (wayOn f0 k0 m0 x0 y0)) (hL := by decide)) ?_
        rintro _ _ ⟨g18, rfl, rfl⟩
        refine W.cl [] (by kernel_rfl) (p_qmul g17.n g17.a g17.m g17.b g18.n g18.a g18.m g18.b (hL := by decide) (hM := by decide)) ?_
        rintro _ _ ⟨n19, a19, m19, c19, rfl, rfl⟩
        rw [← hgd]
        refine W.bs [] 1 ([(⟨n19, a19, m19, c19, gg⟩ : QE)].flatMap QR.cells) tbOk (by kernel_rfl) (fun b20 => ?_)
        refine W.cl [] (by kernel_rfl) (p_xof1 u15 d15 u16 d16 b20 ⟨n19, a19, m19, c19⟩ h00.1 h00.2 (hL := by decide) (hM := by decide)) ?_
        rintro _ _ ⟨X21, rfl, rfl⟩
        refine W.cl [] (by kernel_rfl) (p_xmul X14 X21 (S := sq (snOf M N ss0) (snOf M N ss1)) (T := ⟨M, N, gg, 0, 0, 0⟩) rfl rfl (hL := by decide) (hM := by decide)) ?_
        rintro _ _ ⟨X22, rfl, rfl⟩
        refine W.code 999 ?_
        refine W.more (by kernel_rfl) (entTE (x := X11) (S := (sq (On.farP (wayOn f0 k0 m0 x0 y0) (snOf M N ss0) (snOf M N ss1)).1 (On.farP (wayOn f0 k0 m0 x0 y0) (snOf M N ss0) (snOf M N ss1)).2)) fsq (fsq ▸ hbits)) ?_
        refine W.more (by kernel_rfl) (entTE (x := X22) (S := ((sq (snOf M N ss0) (snOf M N ss1)).mul ⟨M, N, gg, 0, 0, 0⟩)) (S' := ((sq (snOf M N ss0) (snOf M N ss1)).mul ⟨M, N, gg, 0, 0, 0⟩)) rfl (fsq ▸ hbits)) ?_
        refine W.df [] 256 (decide (N ≤ 2)) (by kernel_rfl) (decide_eq_false hn2) ?_
        refine W.cl [256] (by kernel_rfl) (p_xcmp X11 X22 (S := ((sq (snOf M N ss0) (snOf M N ss1)).mul ⟨M, N, gg, 0, 0, 0⟩)) (T := ((sq (snOf M N ss0) (snOf M N ss1)).mul ⟨M, N, gg, 0, 0, 0⟩)) rfl rfl (hL := by decide) (hM := by decide)) ?_
        rintro _ _ ⟨rfl, rfl⟩
        have hz : (Sn.sub ((sq (snOf M N ss0) (snOf M N ss1)).mul ⟨M, N, gg, 0, 0, 0⟩) ((sq (snOf M N ss0) (snOf M N ss1)).mul ⟨M, N, gg, 0, 0, 0⟩)).sg = 0 := Sn.sg_sub rfl rfl rfl rfl
        refine W.r [279] (.bool ((Sn.sub ((sq (snOf M N ss0) (snOf M N ss1)).mul ⟨M, N, gg, 0, 0, 0⟩) ((sq (snOf M N ss0) (snOf M N ss1)).mul ⟨M, N, gg, 0, 0, 0⟩)).sg == 0)) (by kernel_rfl) ⟨by rw [hz]; rfl, rfl⟩ ent0
    · have hbig : 2 < (snOf M N ss0).m ∨ 2 < (snOf M N ss0).n := .inl (Int.not_le.1 hm2)
      by_cases he : k0 % 2 ≠ 0
      · skip
        refine W.cl [77] (by kernel_rfl) (p_ofarO (wayOn f0 k0 m0 x0 y0) a1 X2 X3 (X := (snOf M N ss0)) (Y := (snOf M N ss1)) hO0 he rfl rfl h00 hbig rfl rfl (hL := by decide)) ?_
        rintro _ _ ⟨rfl, rfl⟩
        refine W.df [97, 93] 103 (decide (M ≤ 2)) (by kernel_rfl) (decide_eq_false hm2) ?_
        refine W.cl [103] (by kernel_rfl) (p_omoveE (wayOn f0 k0 m0 x0 y0) a1 (X := ⟨2, 0, qval x0, 0, 0, 0⟩) (Y := ⟨2, 0, qval y0, 0, 0, 0⟩) rfl rfl (hL := by decide)) ?_
        rintro _ _ ⟨X6, Y6, rfl, rfl⟩
        refine W.code 999 ?_
        refine W.sf X6 (by kernel_rfl) ?_
        refine W.sf Y6 (by kernel_rfl) ?_
        refine W.cl [] (by kernel_rfl) (p_xparts X6) ?_
        rintro _ _ ⟨rfl, rfl⟩
        refine W.cl [] (by kernel_rfl) (p_qsign X6.q.n X6.q.a X6.q.m X6.q.b (q := 0) (hL := by decide)) ?_
        rintro _ _ ⟨rfl, rfl⟩
        refine W.dt [] 116 ((0 : Rat).num.sign == 0) (by kernel_rfl) rfl ?_
        refine W.cl [116] (by kernel_rfl) (p_xparts Y6) ?_
        rintro _ _ ⟨rfl, rfl⟩
        refine W.cl [116] (by kernel_rfl) (p_qsign Y6.q.n Y6.q.a Y6.q.m Y6.q.b (q := 0) (hL := by decide)) ?_
        rintro _ _ ⟨rfl, rfl⟩
        refine W.cl [126, 116] (by kernel_rfl) (p_ooct (wayOn f0 k0 m0 x0 y0).f (wayOn f0 k0 m0 x0 y0).o a1.g a1.a a1.b a1.c a1.d) ?_
        rintro _ _ ⟨rfl, rfl⟩
        refine W.rem [126] k0 2 1 (by kernel_rfl) (by decide) ((tmod8 hO0).2 he) ?_
        refine W.dt [126] 131 ((1 : Int) != 0) (by kernel_rfl) rfl ?_
        exact W.r [135, 126, 131] (.bool true) (by kernel_rfl) ⟨rfl, rfl⟩ ent0
      have he : k0 % 2 = 0 := Decidable.not_not.1 he
      obtain ⟨fm1, fn1, fm2, fn2⟩ := On.farP_mn (wayOn f0 k0 m0 x0 y0) (X := (snOf M N ss0)) (Y := (snOf M N ss1)) rfl rfl
      obtain ⟨fb1, fb2⟩ := far_big (wayOn f0 k0 m0 x0 y0) (X := (snOf M N ss0)) (Y := (snOf M N ss1)) rfl rfl rfl rfl
      have fsq := On.farP_sq (wayOn f0 k0 m0 x0 y0) (X := (snOf M N ss0)) (Y := (snOf M N ss1)) rfl rfl
      rw [← hgd] at fsq
      obtain ⟨fp1, fp2⟩ := farP_bits (wayOn f0 k0 m0 x0 y0) (X := (snOf M N ss0)) (Y := (snOf M N ss1)) bS1 bS2 hmag
      have hbits := sq_bits fp1 fp2
      obtain ⟨A1, hA1⟩ : ∃ A, A = On.farX (wayOn f0 k0 m0 x0 y0) (snOf M N ss0) (snOf M N ss1) := ⟨_, rfl⟩
      obtain ⟨A2, hA2⟩ : ∃ A, A = On.farY (wayOn f0 k0 m0 x0 y0) (snOf M N ss0) (snOf M N ss1) := ⟨_, rfl⟩
      have gX : On.farX (wayOn f0 k0 m0 x0 y0) (snOf M N ss0) (snOf M N ss1) = ⟨M, N, A1.p, A1.q, A1.r, A1.s⟩ := by rw [hA1]; exact Sn.ext' fm1 fn1 rfl rfl rfl rfl
      have gY : On.farY (wayOn f0 k0 m0 x0 y0) (snOf M N ss0) (snOf M N ss1) = ⟨M, N, A2.p, A2.q, A2.r, A2.s⟩ := by rw [hA2]; exact Sn.ext' fm2 fn2 rfl rfl rfl rfl
      refine W.cl [77] (by kernel_rfl) (p_ofarG (wayOn f0 k0 m0 x0 y0) a1 X2 X3 (X := (snOf M N ss0)) (Y := (snOf M N ss1)) hO0 he rfl rfl h00 hbig rfl rfl gX gY (hL := by decide)) ?_
      rintro _ _ ⟨X5, Y5, rfl, rfl⟩
      refine W.df [97, 93] 103 (decide (M ≤ 2)) (by kernel_rfl) (decide_eq_false hm2) ?_
      refine W.cl [103] (by kernel_rfl) (p_omoveE (wayOn f0 k0 m0 x0 y0) a1 (X := ⟨2, 0, qval x0, 0, 0, 0⟩) (Y := ⟨2, 0, qval y0, 0, 0, 0⟩) rfl rfl (hL := by decide)) ?_
      rintro _ _ ⟨X6, Y6, rfl, rfl⟩
      refine W.code 999 ?_
      refine W.sf X6 (by kernel_rfl) ?_
      refine W.sf Y6 (by kernel_rfl) ?_
      refine W.sf X5 (by kernel_rfl) ?_
      refine W.cl [] (by kernel_rfl) (p_xparts X6) ?_
      rintro _ _ ⟨rfl, rfl⟩
      refine W.cl [] (by kernel_rfl) (p_qsign X6.q.n X6.q.a X6.q.m X6.q.b (q := 0) (hL := by decide)) ?_
      rintro _ _ ⟨rfl, rfl⟩
      refine W.dt [] 116 ((0 : Rat).num.sign == 0) (by kernel_rfl) rfl ?_
      refine W.cl [116] (by kernel_rfl) (p_xparts Y6) ?_
      rintro _ _ ⟨rfl, rfl⟩
      refine W.cl [116] (by kernel_rfl) (p_qsign Y6.q.n Y6.q.a Y6.q.m Y6.q.b (q := 0) (hL := by decide)) ?_
      rintro _ _ ⟨rfl, rfl⟩
      refine W.cl [126, 116] (by kernel_rfl) (p_ooct (wayOn f0 k0 m0 x0 y0).f (wayOn f0 k0 m0 x0 y0).o a1.g a1.a a1.b a1.c a1.d) ?_
      rintro _ _ ⟨rfl, rfl⟩
      refine W.rem [126] k0 2 0 (by kernel_rfl) (by decide) ((tmod8 hO0).1 he) ?_
      refine W.df [126] 131 ((0 : Int) != 0) (by kernel_rfl) rfl ?_
      refine W.df [126, 131] 135 (!((0 : Rat).num.sign == 0)) (by kernel_rfl) rfl ?_
      refine W.cl [139, 135] (by kernel_rfl) (p_xfield X5) ?_
      rintro _ _ ⟨rfl, rfl⟩
      refine W.cl [160, 157, 151, 147] (by kernel_rfl) (p_ztext X5.u X5.d (x := M) (hL := by decide)) ?_
      rintro _ _ ⟨rfl, rfl⟩
      refine W.cl [160] (by kernel_rfl) (p_zof M (wf64 hM).1 (wf64 hM).2) ?_
      rintro _ _ ⟨u1a, d1a, rfl, rfl⟩
      refine W.cl [160] (by kernel_rfl) (p_ztext u1a d1a (hL := by decide)) ?_
      rintro _ _ ⟨rfl, rfl⟩
      refine W.df [160] 168 (!(ztxt M).toList == (ztxt M).toList) (by kernel_rfl) (by simp) ?_
      refine W.cl [168] (by kernel_rfl) (p_ztext X5.v X5.e (x := N) (hL := by decide)) ?_
      rintro _ _ ⟨rfl, rfl⟩
      refine W.cl [168] (by kernel_rfl) (p_zof N (wf64 hN).1 (wf64 hN).2) ?_
      rintro _ _ ⟨u1b, d1b, rfl, rfl⟩
      refine W.cl [168] (by kernel_rfl) (p_ztext u1b d1b (hL := by decide)) ?_
      rintro _ _ ⟨rfl, rfl⟩
      refine W.df [157, 160, 168] 178 (!(ztxt N).toList == (ztxt N).toList) (by kernel_rfl) (by simp) ?_
      refine W.revp 19 (zc X5.u X5.d) (by kernel_rfl) (by kernel_rfl) ?_
      intro b1
      refine W.revp 20 (zc X5.v X5.e) (by kernel_rfl) (by kernel_rfl) ?_
      intro b2
      refine W.cl [178, 181] (by kernel_rfl) (p_xparts X6) ?_
      rintro _ _ ⟨rfl, rfl⟩
      refine W.cl [] (by kernel_rfl) (p_oat1 X5 X6.p b1 b2 X5.u X5.d X5.v X5.e (S := (⟨M, N, A1.p, A1.q, A1.r, A1.s⟩ : Sn)) (q := qval x0) (m := M) (n := N) h00.1 h00.2 rfl rfl (hL := by decide)) ?_
      rintro _ _ ⟨X7, rfl, rfl⟩
      refine W.cl [] (by kernel_rfl) (p_xparts Y6) ?_
      rintro _ _ ⟨rfl, rfl⟩
      refine W.cl [] (by kernel_rfl) (p_oat1 Y5 Y6.p b1 b2 X5.u X5.d X5.v X5.e (S := (⟨M, N, A2.p, A2.q, A2.r, A2.s⟩ : Sn)) (q := qval y0) (m := M) (n := N) h00.1 h00.2 rfl rfl (hL := by decide)) ?_
      rintro _ _ ⟨X8, rfl, rfl⟩
      have ex : (Sn.add (⟨M, N, A1.p, A1.q, A1.r, A1.s⟩ : Sn) ⟨M, N, -qval x0, 0, 0, 0⟩) = (On.farP (wayOn f0 k0 m0 x0 y0) (snOf M N ss0) (snOf M N ss1)).1 := by rw [← gX]; exact fb1
      have ey : (Sn.add (⟨M, N, A2.p, A2.q, A2.r, A2.s⟩ : Sn) ⟨M, N, -qval y0, 0, 0, 0⟩) = (On.farP (wayOn f0 k0 m0 x0 y0) (snOf M N ss0) (snOf M N ss1)).2 := by rw [← gY]; exact fb2
      refine W.code 999 ?_
      refine W.more (by kernel_rfl) (entTE (x := X7) (S := (Sn.add (⟨M, N, A1.p, A1.q, A1.r, A1.s⟩ : Sn) ⟨M, N, -qval x0, 0, 0, 0⟩)) ex fp1) ?_
      refine W.more (by kernel_rfl) (entTE (x := X8) (S := (Sn.add (⟨M, N, A2.p, A2.q, A2.r, A2.s⟩ : Sn) ⟨M, N, -qval y0, 0, 0, 0⟩)) ey fp2) ?_
      refine W.cl [] (by kernel_rfl) (p_xmul X7 X7 (S := (On.farP (wayOn f0 k0 m0 x0 y0) (snOf M N ss0) (snOf M N ss1)).1) (T := (On.farP (wayOn f0 k0 m0 x0 y0) (snOf M N ss0) (snOf M N ss1)).1) rfl rfl (hL := by decide) (hM := by decide)) ?_
      rintro _ _ ⟨X9, rfl, rfl⟩
      refine W.cl [] (by kernel_rfl) (p_xmul X8 X8 (S := (On.farP (wayOn f0 k0 m0 x0 y0) (snOf M N ss0) (snOf M N ss1)).2) (T := (On.farP (wayOn f0 k0 m0 x0 y0) (snOf M N ss0) (snOf M N ss1)).2) rfl rfl (hL := by decide) (hM := by decide)) ?_
      rintro _ _ ⟨X10, rfl, rfl⟩
      refine W.cl [] (by kernel_rfl) (p_xadd X9 X10 (S := Sn.mul (On.farP (wayOn f0 k0 m0 x0 y0) (snOf M N ss0) (snOf M N ss1)).1 (On.farP (wayOn f0 k0 m0 x0 y0) (snOf M N ss0) (snOf M N ss1)).1) (T := Sn.mul (On.farP (wayOn f0 k0 m0 x0 y0) (snOf M N ss0) (snOf M N ss1)).2 (On.farP (wayOn f0 k0 m0 x0 y0) (snOf M N ss0) (snOf M N ss1)).2) (fm1.trans fm2.symm) (fn1.trans fn2.symm) (hL := by decide) (hM := by decide)) ?_
      rintro _ _ ⟨X11, rfl, rfl⟩
      refine W.cl [] (by kernel_rfl) (p_xmul X2 X2 (S := (snOf M N ss0)) (T := (snOf M N ss0)) rfl rfl (hL := by decide) (hM := by decide)) ?_
      rintro _ _ ⟨X12, rfl, rfl⟩
      refine W.cl [] (by kernel_rfl) (p_xmul X3 X3 (S := (snOf M N ss1)) (T := (snOf M N ss1)) rfl rfl (hL := by decide) (hM := by decide)) ?_
      rintro _ _ ⟨X13, rfl, rfl⟩
      refine W.cl [] (by kernel_rfl) (p_xadd X12 X13 (S := Sn.mul (snOf M N ss0) (snOf M N ss0)) (T := Sn.mul (snOf M N ss1) (snOf M N ss1)) rfl rfl (hL := by decide) (hM := by decide)) ?_
      rintro _ _ ⟨X14, rfl, rfl⟩
      refine W.cl [] (by kernel_rfl) (p_zof M (wf64 hM).1 (wf64 hM).2) ?_
      rintro _ _ ⟨u15, d15, rfl, rfl⟩
      refine W.cl [] (by kernel_rfl) (p_zof N (wf64 hN).1 (wf64 hN).2) ?_
      rintro _ _ ⟨u16, d16, rfl, rfl⟩
      refine W.cx [] (by kernel_rfl) (fun I w _ hh => holds1 (Has.p (k := OF a1) (a := (100 / 32 + 1, (wayOn f0 k0 m0 x0 y0))) inferInstance hh).1) (p_omag (L := 100 / 32 + 1) f0 k0 a1.g a1.a a1.b a1.c a1.d (V := (wayOn f0 k0 m0 x0 y0)) (hL := by decide)) ?_
      rintro _ _ ⟨g17, rfl, rfl⟩
      refine W.cx [] (by kernel_rfl) (fun I w _ hh => holds1 (Has.p (k := OF a1) (a := (100 / 32 + 1, (wayOn f0 k0 m0 x0 y0))) inferInstance hh).1) (p_omag (L := 100 / 32 + 1) f0 k0 a1.g a1.a a1.b a1.c a1.d (V := (wayOn f0 k0 m0 x0 y0)) (hL := by decide)) ?_
      rintro _ _ ⟨g18, rfl, rfl⟩
      refine W.cl [] (by kernel_rfl) (p_qmul g17.n g17.a g17.m g17.b g18.n g18.a g18.m g18.b (hL := by decide) (hM := by decide)) ?_
      rintro _ _ ⟨n19, a19, m19, c19, rfl, rfl⟩
      rw [← hgd]
      refine W.bs [] 1 ([(⟨n19, a19, m19, c19, gg⟩ : QE)].flatMap QR.cells) tbOk (by kernel_rfl) (fun b20 => ?_)
      refine W.cl [] (by kernel_rfl) (p_xof1 u15 d15 u16 d16 b20 ⟨n19, a19, m19, c19⟩ h00.1 h00.2 (hL := by decide) (hM := by decide)) ?_
      rintro _ _ ⟨X21, rfl, rfl⟩
      refine W.cl [] (by kernel_rfl) (p_xmul X14 X21 (S := sq (snOf M N ss0) (snOf M N ss1)) (T := ⟨M, N, gg, 0, 0, 0⟩) rfl rfl (hL := by decide) (hM := by decide)) ?_
      rintro _ _ ⟨X22, rfl, rfl⟩
      refine W.code 999 ?_
      refine W.more (by kernel_rfl) (entTE (x := X11) (S := (sq (On.farP (wayOn f0 k0 m0 x0 y0) (snOf M N ss0) (snOf M N ss1)).1 (On.farP (wayOn f0 k0 m0 x0 y0) (snOf M N ss0) (snOf M N ss1)).2)) fsq (fsq ▸ hbits)) ?_
      refine W.more (by kernel_rfl) (entTE (x := X22) (S := ((sq (snOf M N ss0) (snOf M N ss1)).mul ⟨M, N, gg, 0, 0, 0⟩)) (S' := ((sq (snOf M N ss0) (snOf M N ss1)).mul ⟨M, N, gg, 0, 0, 0⟩)) rfl (fsq ▸ hbits)) ?_
      skip
      refine W.cl [256] (by kernel_rfl) (p_xcmp X11 X22 (S := ((sq (snOf M N ss0) (snOf M N ss1)).mul ⟨M, N, gg, 0, 0, 0⟩)) (T := ((sq (snOf M N ss0) (snOf M N ss1)).mul ⟨M, N, gg, 0, 0, 0⟩)) rfl rfl (hL := by decide) (hM := by decide)) ?_
      rintro _ _ ⟨rfl, rfl⟩
      have hz : (Sn.sub ((sq (snOf M N ss0) (snOf M N ss1)).mul ⟨M, N, gg, 0, 0, 0⟩) ((sq (snOf M N ss0) (snOf M N ss1)).mul ⟨M, N, gg, 0, 0, 0⟩)).sg = 0 := Sn.sg_sub rfl rfl rfl rfl
      refine W.r [279] (.bool ((Sn.sub ((sq (snOf M N ss0) (snOf M N ss1)).mul ⟨M, N, gg, 0, 0, 0⟩) ((sq (snOf M N ss0) (snOf M N ss1)).mul ⟨M, N, gg, 0, 0, 0⟩)).sg == 0)) (by kernel_rfl) ⟨by rw [hz]; rfl, rfl⟩ ent0
  · refine W.dt [75] 77 true (by kernel_rfl) rfl ?_
    refine W.cx [77] (by kernel_rfl) (Γ' := [RA none (List.map Value.string [])]) (fun I w _ hh => holds1 (RA.nil _ _ _)) (p_onum M 77 hM rfl none 0 0 [] rfl (by simp)) ?_
    rintro _ _ ⟨X4, rfl, rfl⟩
    refine W.code 999 ?_
    refine W.xf X4 (by kernel_rfl) (by unfold numOk; rw [decide_eq_true hM0]; rfl) ?_
    by_cases h77 : N = 77
    · subst h77
      have bS2 := snOf_b67 (M := M) (N := 77) (ss := []) (by unfold numOk; rw [decide_eq_true hM0]; rfl) (wf64 hM).2 (wf64 hN).2
      have hn2 : ¬ (77 : Int) ≤ 2 := by decide
      have hbig : 2 < (snOf M 77 ss0).m ∨ 2 < (snOf M 77 ss0).n := .inr (show (2 : Int) < 77 by decide)
      by_cases hm2 : M ≤ 2
      · skip
        by_cases he : k0 % 2 ≠ 0
        · skip
          refine W.cl [] (by kernel_rfl) (p_ofarO (wayOn f0 k0 m0 x0 y0) a1 X2 X4 (X := (snOf M 77 ss0)) (Y := (snOf M 77 [])) hO0 he rfl rfl h00 hbig rfl rfl (hL := by decide)) ?_
          rintro _ _ ⟨rfl, rfl⟩
          refine W.df [93] 97 ((77 : Int) != 77) (by kernel_rfl) rfl ?_
          refine W.dt [97] 103 (decide (M ≤ 2)) (by kernel_rfl) (decide_eq_true hm2) ?_
          refine W.cl [103] (by kernel_rfl) (p_omoveE (wayOn f0 k0 m0 x0 y0) a1 (X := ⟨2, 0, qval x0, 0, 0, 0⟩) (Y := ⟨2, 0, qval y0, 0, 0, 0⟩) rfl rfl (hL := by decide)) ?_
          rintro _ _ ⟨X6, Y6, rfl, rfl⟩
          refine W.code 999 ?_
          refine W.sf X6 (by kernel_rfl) ?_
          refine W.sf Y6 (by kernel_rfl) ?_
          refine W.cl [] (by kernel_rfl) (p_xparts X6) ?_
          rintro _ _ ⟨rfl, rfl⟩
          refine W.cl [] (by kernel_rfl) (p_qsign X6.q.n X6.q.a X6.q.m X6.q.b (q := 0) (hL := by decide)) ?_
          rintro _ _ ⟨rfl, rfl⟩
          refine W.dt [] 116 ((0 : Rat).num.sign == 0) (by kernel_rfl) rfl ?_
          refine W.cl [116] (by kernel_rfl) (p_xparts Y6) ?_
          rintro _ _ ⟨rfl, rfl⟩
          refine W.cl [116] (by kernel_rfl) (p_qsign Y6.q.n Y6.q.a Y6.q.m Y6.q.b (q := 0) (hL := by decide)) ?_
          rintro _ _ ⟨rfl, rfl⟩
          refine W.dt [116] 126 (!decide ((77 : Int) ≤ 2)) (by kernel_rfl) (by rw [decide_eq_false hn2]; rfl) ?_
          refine W.cl [126] (by kernel_rfl) (p_ooct (wayOn f0 k0 m0 x0 y0).f (wayOn f0 k0 m0 x0 y0).o a1.g a1.a a1.b a1.c a1.d) ?_
          rintro _ _ ⟨rfl, rfl⟩
          refine W.rem [126] k0 2 1 (by kernel_rfl) (by decide) ((tmod8 hO0).2 he) ?_
          refine W.dt [126] 131 ((1 : Int) != 0) (by kernel_rfl) rfl ?_
          exact W.r [135, 126, 131] (.bool true) (by kernel_rfl) ⟨rfl, rfl⟩ ent0
        have he : k0 % 2 = 0 := Decidable.not_not.1 he
        obtain ⟨fm1, fn1, fm2, fn2⟩ := On.farP_mn (wayOn f0 k0 m0 x0 y0) (X := (snOf M 77 ss0)) (Y := (snOf M 77 [])) rfl rfl
        obtain ⟨fb1, fb2⟩ := far_big (wayOn f0 k0 m0 x0 y0) (X := (snOf M 77 ss0)) (Y := (snOf M 77 [])) rfl rfl rfl rfl
        have fsq := On.farP_sq (wayOn f0 k0 m0 x0 y0) (X := (snOf M 77 ss0)) (Y := (snOf M 77 [])) rfl rfl
        rw [← hgd] at fsq
        obtain ⟨fp1, fp2⟩ := farP_bits (wayOn f0 k0 m0 x0 y0) (X := (snOf M 77 ss0)) (Y := (snOf M 77 [])) bS1 bS2 hmag
        have hbits := sq_bits fp1 fp2
        obtain ⟨A1, hA1⟩ : ∃ A, A = On.farX (wayOn f0 k0 m0 x0 y0) (snOf M 77 ss0) (snOf M 77 []) := ⟨_, rfl⟩
        obtain ⟨A2, hA2⟩ : ∃ A, A = On.farY (wayOn f0 k0 m0 x0 y0) (snOf M 77 ss0) (snOf M 77 []) := ⟨_, rfl⟩
        have gX : On.farX (wayOn f0 k0 m0 x0 y0) (snOf M 77 ss0) (snOf M 77 []) = ⟨M, 77, A1.p, A1.q, A1.r, A1.s⟩ := by rw [hA1]; exact Sn.ext' fm1 fn1 rfl rfl rfl rfl
        have gY : On.farY (wayOn f0 k0 m0 x0 y0) (snOf M 77 ss0) (snOf M 77 []) = ⟨M, 77, A2.p, A2.q, A2.r, A2.s⟩ := by rw [hA2]; exact Sn.ext' fm2 fn2 rfl rfl rfl rfl
        refine W.cl [] (by kernel_rfl) (p_ofarG (wayOn f0 k0 m0 x0 y0) a1 X2 X4 (X := (snOf M 77 ss0)) (Y := (snOf M 77 [])) hO0 he rfl rfl h00 hbig rfl rfl gX gY (hL := by decide)) ?_
        rintro _ _ ⟨X5, Y5, rfl, rfl⟩
        refine W.df [93] 97 ((77 : Int) != 77) (by kernel_rfl) rfl ?_
        refine W.dt [97] 103 (decide (M ≤ 2)) (by kernel_rfl) (decide_eq_true hm2) ?_
        refine W.cl [103] (by kernel_rfl) (p_omoveE (wayOn f0 k0 m0 x0 y0) a1 (X := ⟨2, 0, qval x0, 0, 0, 0⟩) (Y := ⟨2, 0, qval y0, 0, 0, 0⟩) rfl rfl (hL := by decide)) ?_
        rintro _ _ ⟨X6, Y6, rfl, rfl⟩
        refine W.code 999 ?_
        refine W.sf X6 (by kernel_rfl) ?_
        refine W.sf Y6 (by kernel_rfl) ?_
        refine W.sf X5 (by kernel_rfl) ?_
        refine W.cl [] (by kernel_rfl) (p_xparts X6) ?_
        rintro _ _ ⟨rfl, rfl⟩
        refine W.cl [] (by kernel_rfl) (p_qsign X6.q.n X6.q.a X6.q.m X6.q.b (q := 0) (hL := by decide)) ?_
        rintro _ _ ⟨rfl, rfl⟩
        refine W.dt [] 116 ((0 : Rat).num.sign == 0) (by kernel_rfl) rfl ?_
        refine W.cl [116] (by kernel_rfl) (p_xparts Y6) ?_
        rintro _ _ ⟨rfl, rfl⟩
        refine W.cl [116] (by kernel_rfl) (p_qsign Y6.q.n Y6.q.a Y6.q.m Y6.q.b (q := 0) (hL := by decide)) ?_
        rintro _ _ ⟨rfl, rfl⟩
        refine W.dt [116] 126 (!decide ((77 : Int) ≤ 2)) (by kernel_rfl) (by rw [decide_eq_false hn2]; rfl) ?_
        refine W.cl [126] (by kernel_rfl) (p_ooct (wayOn f0 k0 m0 x0 y0).f (wayOn f0 k0 m0 x0 y0).o a1.g a1.a a1.b a1.c a1.d) ?_
        rintro _ _ ⟨rfl, rfl⟩
        refine W.rem [126] k0 2 0 (by kernel_rfl) (by decide) ((tmod8 hO0).1 he) ?_
        refine W.df [126] 131 ((0 : Int) != 0) (by kernel_rfl) rfl ?_
        refine W.df [126, 131] 135 (!((0 : Rat).num.sign == 0)) (by kernel_rfl) rfl ?_
        refine W.cl [139, 135] (by kernel_rfl) (p_xfield X5) ?_
        rintro _ _ ⟨rfl, rfl⟩
        refine W.df [] 147 (decide ((77 : Int) ≤ 2)) (by kernel_rfl) (decide_eq_false hn2) ?_
        refine W.dt [157, 151, 147] 160 (!decide ((77 : Int) ≤ 2)) (by kernel_rfl) (by rw [decide_eq_false hn2]; rfl) ?_
        refine W.cl [160] (by kernel_rfl) (p_ztext X5.u X5.d (x := M) (hL := by decide)) ?_
        rintro _ _ ⟨rfl, rfl⟩
        refine W.cl [160] (by kernel_rfl) (p_zof M (wf64 hM).1 (wf64 hM).2) ?_
        rintro _ _ ⟨u1a, d1a, rfl, rfl⟩
        refine W.cl [160] (by kernel_rfl) (p_ztext u1a d1a (hL := by decide)) ?_
        rintro _ _ ⟨rfl, rfl⟩
        refine W.df [160] 168 (!(ztxt M).toList == (ztxt M).toList) (by kernel_rfl) (by simp) ?_
        refine W.cl [168] (by kernel_rfl) (p_ztext X5.v X5.e (x := 77) (hL := by decide)) ?_
        rintro _ _ ⟨rfl, rfl⟩
        refine W.cl [168] (by kernel_rfl) (p_zof 77 (wf64 hN).1 (wf64 hN).2) ?_
        rintro _ _ ⟨u1b, d1b, rfl, rfl⟩
        refine W.cl [168] (by kernel_rfl) (p_ztext u1b d1b (hL := by decide)) ?_
        rintro _ _ ⟨rfl, rfl⟩
        refine W.df [157, 160, 168] 178 (!(ztxt 77).toList == (ztxt 77).toList) (by kernel_rfl) (by simp) ?_
        refine W.revp 19 (zc X5.u X5.d) (by kernel_rfl) (by kernel_rfl) ?_
        intro b1
        refine W.revp 20 (zc X5.v X5.e) (by kernel_rfl) (by kernel_rfl) ?_
        intro b2
        refine W.cl [178, 181] (by kernel_rfl) (p_xparts X6) ?_
        rintro _ _ ⟨rfl, rfl⟩
        refine W.cl [] (by kernel_rfl) (p_oat1 X5 X6.p b1 b2 X5.u X5.d X5.v X5.e (S := (⟨M, 77, A1.p, A1.q, A1.r, A1.s⟩ : Sn)) (q := qval x0) (m := M) (n := 77) h00.1 h00.2 rfl rfl (hL := by decide)) ?_
        rintro _ _ ⟨X7, rfl, rfl⟩
        refine W.cl [] (by kernel_rfl) (p_xparts Y6) ?_
        rintro _ _ ⟨rfl, rfl⟩
        refine W.cl [] (by kernel_rfl) (p_oat1 Y5 Y6.p b1 b2 X5.u X5.d X5.v X5.e (S := (⟨M, 77, A2.p, A2.q, A2.r, A2.s⟩ : Sn)) (q := qval y0) (m := M) (n := 77) h00.1 h00.2 rfl rfl (hL := by decide)) ?_
        rintro _ _ ⟨X8, rfl, rfl⟩
        have ex : (Sn.add (⟨M, 77, A1.p, A1.q, A1.r, A1.s⟩ : Sn) ⟨M, 77, -qval x0, 0, 0, 0⟩) = (On.farP (wayOn f0 k0 m0 x0 y0) (snOf M 77 ss0) (snOf M 77 [])).1 := by rw [← gX]; exact fb1
        have ey : (Sn.add (⟨M, 77, A2.p, A2.q, A2.r, A2.s⟩ : Sn) ⟨M, 77, -qval y0, 0, 0, 0⟩) = (On.farP (wayOn f0 k0 m0 x0 y0) (snOf M 77 ss0) (snOf M 77 [])).2 := by rw [← gY]; exact fb2
        refine W.code 999 ?_
        refine W.more (by kernel_rfl) (entTE (x := X7) (S := (Sn.add (⟨M, 77, A1.p, A1.q, A1.r, A1.s⟩ : Sn) ⟨M, 77, -qval x0, 0, 0, 0⟩)) ex fp1) ?_
        refine W.more (by kernel_rfl) (entTE (x := X8) (S := (Sn.add (⟨M, 77, A2.p, A2.q, A2.r, A2.s⟩ : Sn) ⟨M, 77, -qval y0, 0, 0, 0⟩)) ey fp2) ?_
        refine W.cl [] (by kernel_rfl) (p_xmul X7 X7 (S := (On.farP (wayOn f0 k0 m0 x0 y0) (snOf M 77 ss0) (snOf M 77 [])).1) (T := (On.farP (wayOn f0 k0 m0 x0 y0) (snOf M 77 ss0) (snOf M 77 [])).1) rfl rfl (hL := by decide) (hM := by decide)) ?_
        rintro _ _ ⟨X9, rfl, rfl⟩
        refine W.cl [] (by kernel_rfl) (p_xmul X8 X8 (S := (On.farP (wayOn f0 k0 m0 x0 y0) (snOf M 77 ss0) (snOf M 77 [])).2) (T := (On.farP (wayOn f0 k0 m0 x0 y0) (snOf M 77 ss0) (snOf M 77 [])).2) rfl rfl (hL := by decide) (hM := by decide)) ?_
        rintro _ _ ⟨X10, rfl, rfl⟩
        refine W.cl [] (by kernel_rfl) (p_xadd X9 X10 (S := Sn.mul (On.farP (wayOn f0 k0 m0 x0 y0) (snOf M 77 ss0) (snOf M 77 [])).1 (On.farP (wayOn f0 k0 m0 x0 y0) (snOf M 77 ss0) (snOf M 77 [])).1) (T := Sn.mul (On.farP (wayOn f0 k0 m0 x0 y0) (snOf M 77 ss0) (snOf M 77 [])).2 (On.farP (wayOn f0 k0 m0 x0 y0) (snOf M 77 ss0) (snOf M 77 [])).2) (fm1.trans fm2.symm) (fn1.trans fn2.symm) (hL := by decide) (hM := by decide)) ?_
        rintro _ _ ⟨X11, rfl, rfl⟩
        refine W.cl [] (by kernel_rfl) (p_xmul X2 X2 (S := (snOf M 77 ss0)) (T := (snOf M 77 ss0)) rfl rfl (hL := by decide) (hM := by decide)) ?_
        rintro _ _ ⟨X12, rfl, rfl⟩
        refine W.cl [] (by kernel_rfl) (p_xmul X4 X4 (S := (snOf M 77 [])) (T := (snOf M 77 [])) rfl rfl (hL := by decide) (hM := by decide)) ?_
        rintro _ _ ⟨X13, rfl, rfl⟩
        refine W.cl [] (by kernel_rfl) (p_xadd X12 X13 (S := Sn.mul (snOf M 77 ss0) (snOf M 77 ss0)) (T := Sn.mul (snOf M 77 []) (snOf M 77 [])) rfl rfl (hL := by decide) (hM := by decide)) ?_
        rintro _ _ ⟨X14, rfl, rfl⟩
        refine W.cl [] (by kernel_rfl) (p_zof M (wf64 hM).1 (wf64 hM).2) ?_
        rintro _ _ ⟨u15, d15, rfl, rfl⟩
        refine W.cl [] (by kernel_rfl) (p_zof 77 (wf64 hN).1 (wf64 hN).2) ?_
        rintro _ _ ⟨u16, d16, rfl, rfl⟩
        refine W.cx [] (by kernel_rfl) (fun I w _ hh => holds1 (Has.p (k := OF a1) (a := (100 / 32 + 1, (wayOn f0 k0 m0 x0 y0))) inferInstance hh).1) (p_omag (L := 100 / 32 + 1) f0 k0 a1.g a1.a a1.b a1.c a1.d (V := (wayOn f0 k0 m0 x0 y0)) (hL := by decide)) ?_
        rintro _ _ ⟨g17, rfl, rfl⟩
        refine W.cx [] (by kernel_rfl) (fun I w _ hh => holds1 (Has.p (k := OF a1) (a := (100 / 32 + 1, (wayOn f0 k0 m0 x0 y0))) inferInstance hh).1) (p_omag (L := 100 / 32 + 1) f0 k0 a1.g a1.a a1.b a1.c a1.d (V := (wayOn f0 k0 m0 x0 y0)) (hL := by decide)) ?_
        rintro _ _ ⟨g18, rfl, rfl⟩
        refine W.cl [] (by kernel_rfl) (p_qmul g17.n g17.a g17.m g17.b g18.n g18.a g18.m g18.b (hL := by decide) (hM := by decide)) ?_
        rintro _ _ ⟨n19, a19, m19, c19, rfl, rfl⟩
        rw [← hgd]
        refine W.bs [] 1 ([(⟨n19, a19, m19, c19, gg⟩ : QE)].flatMap QR.cells) tbOk (by kernel_rfl) (fun b20 => ?_)
        refine W.cl [] (by kernel_rfl) (p_xof1 u15 d15 u16 d16 b20 ⟨n19, a19, m19, c19⟩ h00.1 h00.2 (hL := by decide) (hM := by decide)) ?_
        rintro _ _ ⟨X21, rfl, rfl⟩
        refine W.cl [] (by kernel_rfl) (p_xmul X14 X21 (S := sq (snOf M 77 ss0) (snOf M 77 [])) (T := ⟨M, 77, gg, 0, 0, 0⟩) rfl rfl (hL := by decide) (hM := by decide)) ?_
        rintro _ _ ⟨X22, rfl, rfl⟩
        refine W.code 999 ?_
        refine W.more (by kernel_rfl) (entTE (x := X11) (S := (sq (On.farP (wayOn f0 k0 m0 x0 y0) (snOf M 77 ss0) (snOf M 77 [])).1 (On.farP (wayOn f0 k0 m0 x0 y0) (snOf M 77 ss0) (snOf M 77 [])).2)) fsq (fsq ▸ hbits)) ?_
        refine W.more (by kernel_rfl) (entTE (x := X22) (S := ((sq (snOf M 77 ss0) (snOf M 77 [])).mul ⟨M, 77, gg, 0, 0, 0⟩)) (S' := ((sq (snOf M 77 ss0) (snOf M 77 [])).mul ⟨M, 77, gg, 0, 0, 0⟩)) rfl (fsq ▸ hbits)) ?_
        refine W.df [] 256 (decide ((77 : Int) ≤ 2)) (by kernel_rfl) (decide_eq_false hn2) ?_
        refine W.cl [256] (by kernel_rfl) (p_xcmp X11 X22 (S := ((sq (snOf M 77 ss0) (snOf M 77 [])).mul ⟨M, 77, gg, 0, 0, 0⟩)) (T := ((sq (snOf M 77 ss0) (snOf M 77 [])).mul ⟨M, 77, gg, 0, 0, 0⟩)) rfl rfl (hL := by decide) (hM := by decide)) ?_
        rintro _ _ ⟨rfl, rfl⟩
        have hz : (Sn.sub ((sq (snOf M 77 ss0) (snOf M 77 [])).mul ⟨M, 77, gg, 0, 0, 0⟩) ((sq (snOf M 77 ss0) (snOf M 77 [])).mul ⟨M, 77, gg, 0, 0, 0⟩)).sg = 0 := Sn.sg_sub rfl rfl rfl rfl
        refine W.r [279] (.bool ((Sn.sub ((sq (snOf M 77 ss0) (snOf M 77 [])).mul ⟨M, 77, gg, 0, 0, 0⟩) ((sq (snOf M 77 ss0) (snOf M 77 [])).mul ⟨M, 77, gg, 0, 0, 0⟩)).sg == 0)) (by kernel_rfl) ⟨by rw [hz]; rfl, rfl⟩ ent0
      · skip
        by_cases he : k0 % 2 ≠ 0
        · skip
          refine W.cl [] (by kernel_rfl) (p_ofarO (wayOn f0 k0 m0 x0 y0) a1 X2 X4 (X := (snOf M 77 ss0)) (Y := (snOf M 77 [])) hO0 he rfl rfl h00 hbig rfl rfl (hL := by decide)) ?_
          rintro _ _ ⟨rfl, rfl⟩
          refine W.df [93] 97 ((77 : Int) != 77) (by kernel_rfl) rfl ?_
          refine W.df [97] 103 (decide (M ≤ 2)) (by kernel_rfl) (decide_eq_false hm2) ?_
          refine W.cl [103] (by kernel_rfl) (p_omoveE (wayOn f0 k0 m0 x0 y0) a1 (X := ⟨2, 0, qval x0, 0, 0, 0⟩) (Y := ⟨2, 0, qval y0, 0, 0, 0⟩) rfl rfl (hL := by decide)) ?_
          rintro _ _ ⟨X6, Y6, rfl, rfl⟩
          refine W.code 999 ?_
          refine W.sf X6 (by kernel_rfl) ?_
          refine W.sf Y6 (by kernel_rfl) ?_
          refine W.cl [] (by kernel_rfl) (p_xparts X6) ?_
          rintro _ _ ⟨rfl, rfl⟩
          refine W.cl [] (by kernel_rfl) (p_qsign X6.q.n X6.q.a X6.q.m X6.q.b (q := 0) (hL := by decide)) ?_
          rintro _ _ ⟨rfl, rfl⟩
          refine W.dt [] 116 ((0 : Rat).num.sign == 0) (by kernel_rfl) rfl ?_
          refine W.cl [116] (by kernel_rfl) (p_xparts Y6) ?_
          rintro _ _ ⟨rfl, rfl⟩
          refine W.cl [116] (by kernel_rfl) (p_qsign Y6.q.n Y6.q.a Y6.q.m Y6.q.b (q := 0) (hL := by decide)) ?_
          rintro _ _ ⟨rfl, rfl⟩
          refine W.cl [126, 116] (by kernel_rfl) (p_ooct (wayOn f0 k0 m0 x0 y0).f (wayOn f0 k0 m0 x0 y0).o a1.g a1.a a1.b a1.c a1.d) ?_
          rintro _ _ ⟨rfl, rfl⟩
          refine W.rem [126] k0 2 1 (by kernel_rfl) (by decide) ((tmod8 hO0).2 he) ?_
          refine W.dt [126] 131 ((1 : Int) != 0) (by kernel_rfl) rfl ?_
          exact W.r [135, 126, 131] (.bool true) (by kernel_rfl) ⟨rfl, rfl⟩ ent0
        have he : k0 % 2 = 0 := Decidable.not_not.1 he
        obtain ⟨fm1, fn1, fm2, fn2⟩ := On.farP_mn (wayOn f0 k0 m0 x0 y0) (X := (snOf M 77 ss0)) (Y := (snOf M 77 [])) rfl rfl
        obtain ⟨fb1, fb2⟩ := far_big (wayOn f0 k0 m0 x0 y0) (X := (snOf M 77 ss0)) (Y := (snOf M 77 [])) rfl rfl rfl rfl
        have fsq := On.farP_sq (wayOn f0 k0 m0 x0 y0) (X := (snOf M 77 ss0)) (Y := (snOf M 77 [])) rfl rfl
        rw [← hgd] at fsq
        obtain ⟨fp1, fp2⟩ := farP_bits (wayOn f0 k0 m0 x0 y0) (X := (snOf M 77 ss0)) (Y := (snOf M 77 [])) bS1 bS2 hmag
        have hbits := sq_bits fp1 fp2
        obtain ⟨A1, hA1⟩ : ∃ A, A = On.farX (wayOn f0 k0 m0 x0 y0) (snOf M 77 ss0) (snOf M 77 []) := ⟨_, rfl⟩
        obtain ⟨A2, hA2⟩ : ∃ A, A = On.farY (wayOn f0 k0 m0 x0 y0) (snOf M 77 ss0) (snOf M 77 []) := ⟨_, rfl⟩
        have gX : On.farX (wayOn f0 k0 m0 x0 y0) (snOf M 77 ss0) (snOf M 77 []) = ⟨M, 77, A1.p, A1.q, A1.r, A1.s⟩ := by rw [hA1]; exact Sn.ext' fm1 fn1 rfl rfl rfl rfl
        have gY : On.farY (wayOn f0 k0 m0 x0 y0) (snOf M 77 ss0) (snOf M 77 []) = ⟨M, 77, A2.p, A2.q, A2.r, A2.s⟩ := by rw [hA2]; exact Sn.ext' fm2 fn2 rfl rfl rfl rfl
        refine W.cl [] (by kernel_rfl) (p_ofarG (wayOn f0 k0 m0 x0 y0) a1 X2 X4 (X := (snOf M 77 ss0)) (Y := (snOf M 77 [])) hO0 he rfl rfl h00 hbig rfl rfl gX gY (hL := by decide)) ?_
        rintro _ _ ⟨X5, Y5, rfl, rfl⟩
        refine W.df [93] 97 ((77 : Int) != 77) (by kernel_rfl) rfl ?_
        refine W.df [97] 103 (decide (M ≤ 2)) (by kernel_rfl) (decide_eq_false hm2) ?_
        refine W.cl [103] (by kernel_rfl) (p_omoveE (wayOn f0 k0 m0 x0 y0) a1 (X := ⟨2, 0, qval x0, 0, 0, 0⟩) (Y := ⟨2, 0, qval y0, 0, 0, 0⟩) rfl rfl (hL := by decide)) ?_
        rintro _ _ ⟨X6, Y6, rfl, rfl⟩
        refine W.code 999 ?_
        refine W.sf X6 (by kernel_rfl) ?_
        refine W.sf Y6 (by kernel_rfl) ?_
        refine W.sf X5 (by kernel_rfl) ?_
        refine W.cl [] (by kernel_rfl) (p_xparts X6) ?_
        rintro _ _ ⟨rfl, rfl⟩
        refine W.cl [] (by kernel_rfl) (p_qsign X6.q.n X6.q.a X6.q.m X6.q.b (q := 0) (hL := by decide)) ?_
        rintro _ _ ⟨rfl, rfl⟩
        refine W.dt [] 116 ((0 : Rat).num.sign == 0) (by kernel_rfl) rfl ?_
        refine W.cl [116] (by kernel_rfl) (p_xparts Y6) ?_
        rintro _ _ ⟨rfl, rfl⟩
        refine W.cl [116] (by kernel_rfl) (p_qsign Y6.q.n Y6.q.a Y6.q.m Y6.q.b (q := 0) (hL := by decide)) ?_
        rintro _ _ ⟨rfl, rfl⟩
        refine W.cl [126, 116] (by kernel_rfl) (p_ooct (wayOn f0 k0 m0 x0 y0).f (wayOn f0 k0 m0 x0 y0).o a1.g a1.a a1.b a1.c a1.d) ?_
        rintro _ _ ⟨rfl, rfl⟩
        refine W.rem [126] k0 2 0 (by kernel_rfl) (by decide) ((tmod8 hO0).1 he) ?_
        refine W.df [126] 131 ((0 : Int) != 0) (by kernel_rfl) rfl ?_
        refine W.df [126, 131] 135 (!((0 : Rat).num.sign == 0)) (by kernel_rfl) rfl ?_
        refine W.cl [139, 135] (by kernel_rfl) (p_xfield X5) ?_
        rintro _ _ ⟨rfl, rfl⟩
        refine W.cl [160, 157, 151, 147] (by kernel_rfl) (p_ztext X5.u X5.d (x := M) (hL := by decide)) ?_
        rintro _ _ ⟨rfl, rfl⟩
        refine W.cl [160] (by kernel_rfl) (p_zof M (wf64 hM).1 (wf64 hM).2) ?_
        rintro _ _ ⟨u1a, d1a, rfl, rfl⟩
        refine W.cl [160] (by kernel_rfl) (p_ztext u1a d1a (hL := by decide)) ?_
        rintro _ _ ⟨rfl, rfl⟩
        refine W.df [160] 168 (!(ztxt M).toList == (ztxt M).toList) (by kernel_rfl) (by simp) ?_
        refine W.cl [168] (by kernel_rfl) (p_ztext X5.v X5.e (x := 77) (hL := by decide)) ?_
        rintro _ _ ⟨rfl, rfl⟩
        refine W.cl [168] (by kernel_rfl) (p_zof 77 (wf64 hN).1 (wf64 hN).2) ?_
        rintro _ _ ⟨u1b, d1b, rfl, rfl⟩
        refine W.cl [168] (by kernel_rfl) (p_ztext u1b d1b (hL := by decide)) ?_
        rintro _ _ ⟨rfl, rfl⟩
        refine W.df [157, 160, 168] 178 (!(ztxt 77).toList == (ztxt 77).toList) (by kernel_rfl) (by simp) ?_
        refine W.revp 19 (zc X5.u X5.d) (by kernel_rfl) (by kernel_rfl) ?_
        intro b1
        refine W.revp 20 (zc X5.v X5.e) (by kernel_rfl) (by kernel_rfl) ?_
        intro b2
        refine W.cl [178, 181] (by kernel_rfl) (p_xparts X6) ?_
        rintro _ _ ⟨rfl, rfl⟩
        refine W.cl [] (by kernel_rfl) (p_oat1 X5 X6.p b1 b2 X5.u X5.d X5.v X5.e (S := (⟨M, 77, A1.p, A1.q, A1.r, A1.s⟩ : Sn)) (q := qval x0) (m := M) (n := 77) h00.1 h00.2 rfl rfl (hL := by decide)) ?_
        rintro _ _ ⟨X7, rfl, rfl⟩
        refine W.cl [] (by kernel_rfl) (p_xparts Y6) ?_
        rintro _ _ ⟨rfl, rfl⟩
        refine W.cl [] (by kernel_rfl) (p_oat1 Y5 Y6.p b1 b2 X5.u X5.d X5.v X5.e (S := (⟨M, 77, A2.p, A2.q, A2.r, A2.s⟩ : Sn)) (q := qval y0) (m := M) (n := 77) h00.1 h00.2 rfl rfl (hL := by decide)) ?_
        rintro _ _ ⟨X8, rfl, rfl⟩
        have ex : (Sn.add (⟨M, 77, A1.p, A1.q, A1.r, A1.s⟩ : Sn) ⟨M, 77, -qval x0, 0, 0, 0⟩) = (On.farP (wayOn f0 k0 m0 x0 y0) (snOf M 77 ss0) (snOf M 77 [])).1 := by rw [← gX]; exact fb1
        have ey : (Sn.add (⟨M, 77, A2.p, A2.q, A2.r, A2.s⟩ : Sn) ⟨M, 77, -qval y0, 0, 0, 0⟩) = (On.farP (wayOn f0 k0 m0 x0 y0) (snOf M 77 ss0) (snOf M 77 [])).2 := by rw [← gY]; exact fb2
        refine W.code 999 ?_
        refine W.more (by kernel_rfl) (entTE (x := X7) (S := (Sn.add (⟨M, 77, A1.p, A1.q, A1.r, A1.s⟩ : Sn) ⟨M, 77, -qval x0, 0, 0, 0⟩)) ex fp1) ?_
        refine W.more (by kernel_rfl) (entTE (x := X8) (S := (Sn.add (⟨M, 77, A2.p, A2.q, A2.r, A2.s⟩ : Sn) ⟨M, 77, -qval y0, 0, 0, 0⟩)) ey fp2) ?_
        refine W.cl [] (by kernel_rfl) (p_xmul X7 X7 (S := (On.farP (wayOn f0 k0 m0 x0 y0) (snOf M 77 ss0) (snOf M 77 [])).1) (T := (On.farP (wayOn f0 k0 m0 x0 y0) (snOf M 77 ss0) (snOf M 77 [])).1) rfl rfl (hL := by decide) (hM := by decide)) ?_
        rintro _ _ ⟨X9, rfl, rfl⟩
        refine W.cl [] (by kernel_rfl) (p_xmul X8 X8 (S := (On.farP (wayOn f0 k0 m0 x0 y0) (snOf M 77 ss0) (snOf M 77 [])).2) (T := (On.farP (wayOn f0 k0 m0 x0 y0) (snOf M 77 ss0) (snOf M 77 [])).2) rfl rfl (hL := by decide) (hM := by decide)) ?_
        rintro _ _ ⟨X10, rfl, rfl⟩
        refine W.cl [] (by kernel_rfl) (p_xadd X9 X10 (S := Sn.mul (On.farP (wayOn f0 k0 m0 x0 y0) (snOf M 77 ss0) (snOf M 77 [])).1 (On.farP (wayOn f0 k0 m0 x0 y0) (snOf M 77 ss0) (snOf M 77 [])).1) (T := Sn.mul (On.farP (wayOn f0 k0 m0 x0 y0) (snOf M 77 ss0) (snOf M 77 [])).2 (On.farP (wayOn f0 k0 m0 x0 y0) (snOf M 77 ss0) (snOf M 77 [])).2) (fm1.trans fm2.symm) (fn1.trans fn2.symm) (hL := by decide) (hM := by decide)) ?_
        rintro _ _ ⟨X11, rfl, rfl⟩
        refine W.cl [] (by kernel_rfl) (p_xmul X2 X2 (S := (snOf M 77 ss0)) (T := (snOf M 77 ss0)) rfl rfl (hL := by decide) (hM := by decide)) ?_
        rintro _ _ ⟨X12, rfl, rfl⟩
        refine W.cl [] (by kernel_rfl) (p_xmul X4 X4 (S := (snOf M 77 [])) (T := (snOf M 77 [])) rfl rfl (hL := by decide) (hM := by decide)) ?_
        rintro _ _ ⟨X13, rfl, rfl⟩
        refine W.cl [] (by kernel_rfl) (p_xadd X12 X13 (S := Sn.mul (snOf M 77 ss0) (snOf M 77 ss0)) (T := Sn.mul (snOf M 77 []) (snOf M 77 [])) rfl rfl (hL := by decide) (hM := by decide)) ?_
        rintro _ _ ⟨X14, rfl, rfl⟩
        refine W.cl [] (by kernel_rfl) (p_zof M (wf64 hM).1 (wf64 hM).2) ?_
        rintro _ _ ⟨u15, d15, rfl, rfl⟩
        refine W.cl [] (by kernel_rfl) (p_zof 77 (wf64 hN).1 (wf64 hN).2) ?_
        rintro _ _ ⟨u16, d16, rfl, rfl⟩
        refine W.cx [] (by kernel_rfl) (fun I w _ hh => holds1 (Has.p (k := OF a1) (a := (100 / 32 + 1, (wayOn f0 k0 m0 x0 y0))) inferInstance hh).1) (p_omag (L := 100 / 32 + 1) f0 k0 a1.g a1.a a1.b a1.c a1.d (V := (wayOn f0 k0 m0 x0 y0)) (hL := by decide)) ?_
        rintro _ _ ⟨g17, rfl, rfl⟩
        refine W.cx [] (by kernel_rfl) (fun I w _ hh => holds1 (Has.p (k := OF a1) (a := (100 / 32 + 1, (wayOn f0 k0 m0 x0 y0))) inferInstance hh).1) (p_omag (L := 100 / 32 + 1) f0 k0 a1.g a1.a a1.b a1.c a1.d (V := (wayOn f0 k0 m0 x0 y0)) (hL := by decide)) ?_
        rintro _ _ ⟨g18, rfl, rfl⟩
        refine W.cl [] (by kernel_rfl) (p_qmul g17.n g17.a g17.m g17.b g18.n g18.a g18.m g18.b (hL := by decide) (hM := by decide)) ?_
        rintro _ _ ⟨n19, a19, m19, c19, rfl, rfl⟩
        rw [← hgd]
        refine W.bs [] 1 ([(⟨n19, a19, m19, c19, gg⟩ : QE)].flatMap QR.cells) tbOk (by kernel_rfl) (fun b20 => ?_)
        refine W.cl [] (by kernel_rfl) (p_xof1 u15 d15 u16 d16 b20 ⟨n19, a19, m19, c19⟩ h00.1 h00.2 (hL := by decide) (hM := by decide)) ?_
        rintro _ _ ⟨X21, rfl, rfl⟩
        refine W.cl [] (by kernel_rfl) (p_xmul X14 X21 (S := sq (snOf M 77 ss0) (snOf M 77 [])) (T := ⟨M, 77, gg, 0, 0, 0⟩) rfl rfl (hL := by decide) (hM := by decide)) ?_
        rintro _ _ ⟨X22, rfl, rfl⟩
        refine W.code 999 ?_
        refine W.more (by kernel_rfl) (entTE (x := X11) (S := (sq (On.farP (wayOn f0 k0 m0 x0 y0) (snOf M 77 ss0) (snOf M 77 [])).1 (On.farP (wayOn f0 k0 m0 x0 y0) (snOf M 77 ss0) (snOf M 77 [])).2)) fsq (fsq ▸ hbits)) ?_
        refine W.more (by kernel_rfl) (entTE (x := X22) (S := ((sq (snOf M 77 ss0) (snOf M 77 [])).mul ⟨M, 77, gg, 0, 0, 0⟩)) (S' := ((sq (snOf M 77 ss0) (snOf M 77 [])).mul ⟨M, 77, gg, 0, 0, 0⟩)) rfl (fsq ▸ hbits)) ?_
        skip
        refine W.cl [256] (by kernel_rfl) (p_xcmp X11 X22 (S := ((sq (snOf M 77 ss0) (snOf M 77 [])).mul ⟨M, 77, gg, 0, 0, 0⟩)) (T := ((sq (snOf M 77 ss0) (snOf M 77 [])).mul ⟨M, 77, gg, 0, 0, 0⟩)) rfl rfl (hL := by decide) (hM := by decide)) ?_
        rintro _ _ ⟨rfl, rfl⟩
        have hz : (Sn.sub ((sq (snOf M 77 ss0) (snOf M 77 [])).mul ⟨M, 77, gg, 0, 0, 0⟩) ((sq (snOf M 77 ss0) (snOf M 77 [])).mul ⟨M, 77, gg, 0, 0, 0⟩)).sg = 0 := Sn.sg_sub rfl rfl rfl rfl
        refine W.r [279] (.bool ((Sn.sub ((sq (snOf M 77 ss0) (snOf M 77 [])).mul ⟨M, 77, gg, 0, 0, 0⟩) ((sq (snOf M 77 ss0) (snOf M 77 [])).mul ⟨M, 77, gg, 0, 0, 0⟩)).sg == 0)) (by kernel_rfl) ⟨by rw [hz]; rfl, rfl⟩ ent0
    · refine W.cl [] (by kernel_rfl) (p_ofarL (wayOn f0 k0 m0 x0 y0) a1 X2 X4 (X := snOf M N ss0) (Y := snOf M 77 []) (fun h => h77 h.2) (hL := by decide)) ?_
      rintro _ _ ⟨rfl, rfl⟩
      refine W.dt [] 93 true (by kernel_rfl) rfl ?_
      refine W.dt [93] 97 (N != 77) (by kernel_rfl) (by simpa using h77) ?_
      exact W.r [97] (.bool true) (by kernel_rfl) ⟨rfl, rfl⟩ ent0

end Go.Proofs.YtabpaiboodllbaaGreat
namespace Go.Proofs.YtabpaiboodllbaaGreat.octantFar
open Go.ChangeShapes Go.WideShapes Go.ChangeAt Go.RowKit
open Go.ChangeMaps (open_string shut_string)

theorem closed : joinedFacts Tryz.pinned.checked.prog 9 Tryz.f9 Rows.octantFarSpec Rows.octantFarRow = true := by
  unfold joinedFacts
  rw [show Tryz.pinned.checked.prog.mayEnter = true from jn_enter, show (Rows.octantFarRow.lifted == Tryz.pinned.checked.prog.liftsFinal) = true from jn_lift, show (Tryz.pinned.checked.prog.make == some Rows.octantFarRow.make) = true from jn_make,
    show laidOutB Tryz.pinned.checked.prog = true from jn_laid, show mapsRowed Tryz.pinned.checked.prog = true from jn_maps]
  kernel_rfl

set_option maxRecDepth 100000 in
set_option maxHeartbeats 2000000 in
theorem lifted (os : Os) (started : os.Started) (H : Type) (enc : TypeId × Value → H) :
    ReturnsInHanded {} Tryz.checked os 9 .any (Rows.octantFarSpec.pre6 enc Tryz.prog Tryz.f9 Rows.octantFarRow.domain false) (Rows.octantFarSpec.post enc Tryz.prog Tryz.f9 false true false false) := by
  refine returnsInHanded_of_change (C := Tryz.checked) jn_own started (by kernel_rfl) Tryz.func9
    (ChangeSpec.witness6 (enc := enc) (C := Tryz.checked) false ⟨#[], #[.agg #[.bool false, .int .i64 0, .string ⟨#[]⟩, .string ⟨#[]⟩, .string ⟨#[]⟩], .agg #[.int .i64 0, .int .i64 0, .slice none 0 0, .slice none 0 0], .bool false], []⟩ 8 (by kernel_rfl) (by kernel_rfl) (by kernel_rfl) (by kernel_rfl)) ?_
  intro W base args ds gs before hval0 hW hcnd _
  have hval : ∀ (j : Nat) t v, Tryz.f9.params[j]? = some t → args[j]? = some v → Value.okWide Tryz.prog W .any base t v := hval0
  have hW' := hW
  obtain ⟨p, q, hA0, hV, rfl, hfz, hnd⟩ := hW
  have hA : DataW.TrodAll enc Tryz.prog W 0 (fun _ => true) true Tryz.f9.params.toList args.toList ds p := hA0
  have hK := hA
  rw [Tryz.params9] at hA hval hK
  obtain ⟨v0, vs0, d0, ds0, p0, q0, hargs, rfl, rfl, h0, r0⟩ := trodAll_cons hA
  obtain ⟨v1, vs1, d1, ds1, p1, q1, rfl, rfl, rfl, h1, r1⟩ := trodAll_cons r0
  obtain ⟨v2, vs2, d2, ds2, p2, q2, rfl, rfl, rfl, h2, r2⟩ := trodAll_cons r1
  obtain ⟨rfl, rfl, rfl⟩ := trodAll_nil r2
  obtain rfl : args = #[v0, v1, v2] := by cases args; simp_all
  obtain ⟨rfl, rfl⟩ := trodVars_none hV
  obtain ⟨f0, k0, m0, x0, y0, rfl, u0, wm0, wx0, wy0⟩ := open_way Tryz.underlying65 (by kernel_rfl) ⟨rfl, rfl⟩ ⟨rfl, rfl⟩ ⟨rfl, rfl⟩ ⟨rfl, rfl⟩ ⟨rfl, rfl⟩ Tryz.underlying4 (by kernel_rfl) Tryz.underlying3 (by kernel_rfl) Tryz.underlying9 (by kernel_rfl) (hval 0 65 v0 rfl rfl) h0
  obtain ⟨M1, N1, ao1, n1, c1, a1, bo1, lk1, rk1, tk1, rfl, u1, x1, e1, w1, g1, eb1, wb1, gb1⟩ := open_spot Tryz.underlying108 (by kernel_rfl) ⟨rfl, rfl⟩ ⟨rfl, rfl⟩ ⟨rfl, rfl⟩ ⟨rfl, rfl⟩ Tryz.underlying3 (by kernel_rfl) Tryz.underlying22 (by kernel_rfl) Tryz.underlying9 (by kernel_rfl) (hval 1 108 v1 rfl rfl) h1
  obtain ⟨a2, rfl, rfl, rfl⟩ := open_bool Tryz.underlying4 (hval 2 4 v2 rfl rfl) h2
  clear hA0 hval0
  simp only [List.append_nil] at hW' hK
  refine (law_calls' (p_octantFar f0 k0 u0 m0 x0 y0 wm0 wx0 wy0 M1 N1 u1 x1 ao1 n1 c1 a1 e1 w1 bo1 lk1 rk1 tk1 eb1 wb1 a2) W (Holds.cons g1 (Holds.cons gb1 (Holds.nil _ _)))).mono fun e W' ⟨he, hg⟩ => ?_
  subst he
  exact ⟨_, rfl, law_post hW' rfl (fun _ _ _ => (trodAll_cons_mk (shut_bool Tryz.underlying4 _) trodAll_mk0)) (fun sp hsp => trodAll_stays jn_laid hg (by kernel_rfl) hK (fun x hx => hW'.lt x (by first | exact hx | simpa using hx)) (fun x hx => hsp x (by first | exact hx | simpa using hx))) rfl hg⟩

theorem over : Rows.octantFarRow.holds Tryz.pinned (OpenSpec.ofChange Rows.octantFarSpec) :=
  OpenClaim.holds_of_wide 9 Tryz.f9 rfl rfl rfl rfl rfl rfl rfl ⟨rfl, rfl, rfl, rfl, rfl⟩ rfl rfl rfl rfl rfl (by kernel_rfl) Tryz.func9 closed
    (of_decide_eq_true (by kernel_rfl)) (by unfold Func.isWrapper; first | (rw [if_pos (by decide +kernel)]; kernel_rfl) | (rw [if_neg (by decide +kernel)]; exact ⟨rfl, rfl⟩))
    (fun os started H enc _ => lifted os started H enc)
end Go.Proofs.YtabpaiboodllbaaGreat.octantFar
namespace Go.Proofs.YtabpaiboodllbaaGreat

/-- The statement. -/
theorem octantFar_holds : Rows.OctantFarSaid := octantFar.over
end Go.Proofs.YtabpaiboodllbaaGreat
