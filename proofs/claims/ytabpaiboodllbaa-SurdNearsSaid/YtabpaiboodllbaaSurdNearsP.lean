
/- SurdNears: what is told as the nearest whole number is at most a half away, and even where it is just a half; shifted by a whole number it is shifted so by even ones. No conditions. -/
import Derived.Test.YtabpaiboodllbaaRows
import Derived.Test.YtabpaiboodllbaaSd
import Derived.Test.YtabpaiboodllbaaSi
import Derived.Test.YtabpaiboodllbaaLawZ
import Derived.Test.YtabpaiboodllbaaVs
import Derived.Test.YtabpaiboodllbaaJn
set_option linter.unusedSimpArgs false
set_option linter.unusedVariables false
namespace Go.Proofs.Ytabpaiboodllbaa
open Go.RowKit Go.IntWalk
theorem madeOk_pos {M N : Int} {ss : List ByteArray} (h : madeOk M N ss = true) : 0 ≤ M ∧ 0 ≤ N := by
  unfold madeOk at h
  simp only [Bool.and_eq_true, decide_eq_true_eq] at h
  exact ⟨h.2.2.1, h.2.2.2⟩
theorem dec1 {p : Prop} [Decidable p] (h : p) : decide p = true := decide_eq_true h
theorem dec2 {p : Prop} [Decidable p] (h : ¬ p) : decide p = false := decide_eq_false h
theorem near_odd {A : Prop} {z : Int} (h : A ∨ z = 0) (hn : A → False) : (z == 0) = true := by
  rcases h with h | h
  · exact absurd h hn
  · rw [h]; rfl
theorem near_moved (S : Sn) (hm : 0 ≤ S.m) (hn : 0 ≤ S.n) (q : Int) : ((cmpZ (S.add ⟨S.m, S.n, ((q + q : Int) : Rat), 0, 0, 0⟩).nr (S.nr + q + q)) == 0) = true := by
  rw [Sn.nr_move S hm hn q]
  unfold cmpZ
  simp
set_option maxHeartbeats 16000000 in
theorem p_surdNears (M0 N0 : Int) (u0 : (Lit.int .i64 M0).wf = true) (x0 : (Lit.int .i64 N0).wf = true) (ao0 : Option Addr) (n0 c0 : Nat) (a0 : List ByteArray) (e0 : n0 = a0.length) (w0 : ∀ s ∈ a0, s.size ≤ 9223372036854775807) (q : Int) (uq : (Lit.int .i64 q).wf = true) :
    PCalls tb Try.prog 3 [.agg #[.int .i64 M0, .int .i64 N0, .slice ao0 n0 c0], .int .i64 q] [RA ao0 (a0.map Value.string)] (IsV (.bool true)) := by
  refine PCalls.of_W tbOk Try.func3 rfl (by kernel_rfl) ?_
  refine W.cl [] (by kernel_rfl) (p_xmade M0 N0 u0 x0 ao0 n0 c0 a0 e0 w0) ?_
  rintro _ _ ⟨X1, Y1, rfl, rfl⟩
  refine W.cl [] (by kernel_rfl) (p_xknown) ?_
  rintro _ _ ⟨rfl, rfl⟩
  by_cases h0 : madeOk M0 N0 a0 = false
  · refine W.dt [38] 41 (!madeOk M0 N0 a0) (by kernel_rfl) (by rw [h0]; rfl) ?_
    refine W.cl [41] (by kernel_rfl) (p_xknown) ?_
    rintro _ _ ⟨rfl, rfl⟩
    exact W.r [] (.bool true) (by kernel_rfl) ⟨rfl, rfl⟩ ent0
  have h0 : madeOk M0 N0 a0 = true := by simpa using h0
  refine W.df [38] 41 (!madeOk M0 N0 a0) (by kernel_rfl) (by rw [h0]; rfl) ?_
  obtain ⟨hm0, hn0⟩ := madeOk_pos h0
  have hc := Sn.nr_cases (snOf M0 N0 a0) hm0 hn0
  have uq' := wf64 uq
  refine W.code 999 ?_
  refine W.mf X1 Y1 (by kernel_rfl) h0 ?_
  refine W.sf X1 (by kernel_rfl) ?_
  refine W.cl [41] (by kernel_rfl) (p_xnr X1 hm0 hn0) ?_
  rintro _ _ ⟨u3, d3, rfl, rfl⟩   -- ((snOf M0 N0 a0).nr)
  refine W.cl [] (by kernel_rfl) (p_xfield X1) ?_
  rintro _ _ ⟨rfl, rfl⟩   -- 
  refine W.cl [] (by kernel_rfl) (p_xfield X1) ?_
  rintro _ _ ⟨rfl, rfl⟩   -- 
  refine W.cl [] (by kernel_rfl) (p_qof 1 2 (by omega) (by omega) (by omega) (by omega) (by omega)) ?_
  rintro _ _ ⟨n6, a6, m6, b6, rfl, rfl⟩   -- (Rat.divInt 1 2)
  refine W.cl [] (by kernel_rfl) (p_qwhole u3 d3) ?_
  rintro _ _ ⟨n7, a7, m7, b7, rfl, rfl⟩   -- ((((snOf M0 N0 a0).nr) : Int) : Rat)
  refine W.cl [] (by kernel_rfl) (p_qadd n7 a7 m7 b7 n6 a6 m6 b6) ?_
  rintro _ _ ⟨n8, a8, m8, b8, rfl, rfl⟩   -- (((((snOf M0 N0 a0).nr) : Int) : Rat) + (Rat.divInt 1 2))
  refine W.bs [] 1 ([(⟨n8, a8, m8, b8, (((((snOf M0 N0 a0).nr) : Int) : Rat) + (Rat.divInt 1 2))⟩ : QE)].flatMap QR.cells) tbOk (by kernel_rfl) (fun b9 => ?_)
  refine W.cl [] (by kernel_rfl) (p_xof1 X1.u X1.d X1.v X1.e b9 ⟨n8, a8, m8, b8⟩ hm0 hn0) ?_
  rintro _ _ ⟨X10, rfl, rfl⟩
  refine W.cl [] (by kernel_rfl) (p_qwhole u3 d3) ?_
  rintro _ _ ⟨n11, a11, m11, b11, rfl, rfl⟩   -- ((((snOf M0 N0 a0).nr) : Int) : Rat)
  refine W.cl [] (by kernel_rfl) (p_qsub n11 a11 m11 b11 n6 a6 m6 b6) ?_
  rintro _ _ ⟨n12, a12, m12, b12, rfl, rfl⟩   -- (((((snOf M0 N0 a0).nr) : Int) : Rat) - (Rat.divInt 1 2))
  refine W.bs [] 1 ([(⟨n12, a12, m12, b12, (((((snOf M0 N0 a0).nr) : Int) : Rat) - (Rat.divInt 1 2))⟩ : QE)].flatMap QR.cells) tbOk (by kernel_rfl) (fun b13 => ?_)
  refine W.cl [] (by kernel_rfl) (p_xof1 X1.u X1.d X1.v X1.e b13 ⟨n12, a12, m12, b12⟩ hm0 hn0) ?_
  rintro _ _ ⟨X14, rfl, rfl⟩
  refine W.cl [] (by kernel_rfl) (p_xcmp X1 X10 (by rfl) (by rfl)) ?_
  rintro _ _ ⟨rfl, rfl⟩
  refine W.cl [] (by kernel_rfl) (p_xcmp X1 X14 (by rfl) (by rfl)) ?_
  rintro _ _ ⟨rfl, rfl⟩
  refine W.cl [] (by kernel_rfl) (p_zof 2 (by omega) (by omega)) ?_
  rintro _ _ ⟨u17, d17, rfl, rfl⟩   -- 2
  refine W.cl [] (by kernel_rfl) (p_zfloor u3 d3 u17 d17 (by omega)) ?_
  rintro _ _ ⟨u18, d18, v18, e18, rfl, rfl⟩   -- (((snOf M0 N0 a0).nr) / 2) (((snOf M0 N0 a0).nr) % 2)
  refine W.cl [] (by kernel_rfl) (p_zof q (by omega) (by omega)) ?_
  rintro _ _ ⟨u19, d19, rfl, rfl⟩   -- q
  refine W.cl [] (by kernel_rfl) (p_zof q (by omega) (by omega)) ?_
  rintro _ _ ⟨u20, d20, rfl, rfl⟩   -- q
  refine W.cl [] (by kernel_rfl) (p_zadd u19 d19 u20 d20) ?_
  rintro _ _ ⟨u21, d21, rfl, rfl⟩   -- (q + q)
  refine W.cl [] (by kernel_rfl) (p_qwhole u21 d21) ?_
  rintro _ _ ⟨n22, a22, m22, b22, rfl, rfl⟩   -- (((q + q) : Int) : Rat)
  refine W.bs [] 1 ([(⟨n22, a22, m22, b22, (((q + q) : Int) : Rat)⟩ : QE)].flatMap QR.cells) tbOk (by kernel_rfl) (fun b23 => ?_)
  refine W.cl [] (by kernel_rfl) (p_xof1 X1.u X1.d X1.v X1.e b23 ⟨n22, a22, m22, b22⟩ hm0 hn0) ?_
  rintro _ _ ⟨X24, rfl, rfl⟩
  refine W.cl [] (by kernel_rfl) (p_xadd X1 X24 (by rfl) (by rfl)) ?_
  rintro _ _ ⟨X25, rfl, rfl⟩   -- ((snOf M0 N0 a0).add ⟨M0, N0, (((q + q) : Int) : Rat), 0, 0, 0⟩)
  refine W.dt [] 121 (decide ((((snOf M0 N0 a0)).sub ⟨M0, N0, (((((snOf M0 N0 a0).nr) : Int) : Rat) + (Rat.divInt 1 2)), 0, 0, 0⟩).sg ≤ 0)) (by kernel_rfl) (dec1 hc.1) ?_
  refine W.dt [121] 125 (decide ((((snOf M0 N0 a0)).sub ⟨M0, N0, (((((snOf M0 N0 a0).nr) : Int) : Rat) - (Rat.divInt 1 2)), 0, 0, 0⟩).sg ≥ 0)) (by kernel_rfl) (dec1 hc.2.1) ?_
  by_cases hi : ((snOf M0 N0 a0).sub ⟨M0, N0, (((snOf M0 N0 a0).nr : Int) : Rat) + Rat.divInt 1 2, 0, 0, 0⟩).sg < 0
  · refine W.dt [125] 128 (decide ((((snOf M0 N0 a0)).sub ⟨M0, N0, (((((snOf M0 N0 a0).nr) : Int) : Rat) + (Rat.divInt 1 2)), 0, 0, 0⟩).sg < 0)) (by kernel_rfl) (dec1 hi) ?_
    by_cases hj : ((snOf M0 N0 a0).sub ⟨M0, N0, (((snOf M0 N0 a0).nr : Int) : Rat) - Rat.divInt 1 2, 0, 0, 0⟩).sg > 0
    · refine W.dt [125, 128] 132 (decide ((((snOf M0 N0 a0)).sub ⟨M0, N0, (((((snOf M0 N0 a0).nr) : Int) : Rat) - (Rat.divInt 1 2)), 0, 0, 0⟩).sg > 0)) (by kernel_rfl) (dec1 hj) ?_
      refine W.cl [138, 125, 132] (by kernel_rfl) (p_xnr X25 hm0 hn0 (by decide)) ?_
      rintro _ _ ⟨u26, d26, rfl, rfl⟩   -- (((snOf M0 N0 a0).add ⟨M0, N0, (((q + q) : Int) : Rat), 0, 0, 0⟩).nr)
      refine W.cl [138] (by kernel_rfl) (p_zof q (by omega) (by omega)) ?_
      rintro _ _ ⟨u27, d27, rfl, rfl⟩   -- q
      refine W.cl [138] (by kernel_rfl) (p_zadd u3 d3 u27 d27) ?_
      rintro _ _ ⟨u28, d28, rfl, rfl⟩   -- (((snOf M0 N0 a0).nr) + q)
      refine W.cl [138] (by kernel_rfl) (p_zof q (by omega) (by omega)) ?_
      rintro _ _ ⟨u29, d29, rfl, rfl⟩   -- q
      refine W.cl [138] (by kernel_rfl) (p_zadd u28 d28 u29 d29) ?_
      rintro _ _ ⟨u30, d30, rfl, rfl⟩   -- ((((snOf M0 N0 a0).nr) + q) + q)
      refine W.cl [138] (by kernel_rfl) (p_zcmp u26 d26 u30 d30 (by decide) (by decide)) ?_
      rintro _ _ ⟨rfl, rfl⟩
      exact W.r [138] (.bool ((cmpZ (((snOf M0 N0 a0).add ⟨M0, N0, (((q + q) : Int) : Rat), 0, 0, 0⟩).nr) ((((snOf M0 N0 a0).nr) + q) + q)) == 0)) (by kernel_rfl) ⟨congrArg _ (near_moved _ hm0 hn0 q), rfl⟩ ent0
    · refine W.df [125, 128] 132 (decide ((((snOf M0 N0 a0)).sub ⟨M0, N0, (((((snOf M0 N0 a0).nr) : Int) : Rat) - (Rat.divInt 1 2)), 0, 0, 0⟩).sg > 0)) (by kernel_rfl) (dec2 hj) ?_
      refine W.cl [132] (by kernel_rfl) (p_zsign v18 e18) ?_
      rintro _ _ ⟨rfl, rfl⟩
      refine W.dt [125, 132] 138 (((((snOf M0 N0 a0).nr) % 2)).sign == 0) (by kernel_rfl) (near_odd hc.2.2 (fun h => hj h.2)) ?_
      refine W.cl [138] (by kernel_rfl) (p_xnr X25 hm0 hn0 (by decide)) ?_
      rintro _ _ ⟨u27, d27, rfl, rfl⟩   -- (((snOf M0 N0 a0).add ⟨M0, N0, (((q + q) : Int) : Rat), 0, 0, 0⟩).nr)
      refine W.cl [138] (by kernel_rfl) (p_zof q (by omega) (by omega)) ?_
      rintro _ _ ⟨u28, d28, rfl, rfl⟩   -- q
      refine W.cl [138] (by kernel_rfl) (p_zadd u3 d3 u28 d28) ?_
      rintro _ _ ⟨u29, d29, rfl, rfl⟩   -- (((snOf M0 N0 a0).nr) + q)
      refine W.cl [138] (by kernel_rfl) (p_zof q (by omega) (by omega)) ?_
      rintro _ _ ⟨u30, d30, rfl, rfl⟩   -- q
      refine W.cl [138] (by kernel_rfl) (p_zadd u29 d29 u30 d30) ?_
      rintro _ _ ⟨u31, d31, rfl, rfl⟩   -- ((((snOf M0 N0 a0).nr) + q) + q)
      refine W.cl [138] (by kernel_rfl) (p_zcmp u27 d27 u31 d31 (by decide) (by decide)) ?_
      rintro _ _ ⟨rfl, rfl⟩
      exact W.r [138] (.bool ((cmpZ (((snOf M0 N0 a0).add ⟨M0, N0, (((q + q) : Int) : Rat), 0, 0, 0⟩).nr) ((((snOf M0 N0 a0).nr) + q) + q)) == 0)) (by kernel_rfl) ⟨congrArg _ (near_moved _ hm0 hn0 q), rfl⟩ ent0
  · refine W.df [125] 128 (decide ((((snOf M0 N0 a0)).sub ⟨M0, N0, (((((snOf M0 N0 a0).nr) : Int) : Rat) + (Rat.divInt 1 2)), 0, 0, 0⟩).sg < 0)) (by kernel_rfl) (dec2 hi) ?_
    refine W.cl [132, 125, 128] (by kernel_rfl) (p_zsign v18 e18) ?_
    rintro _ _ ⟨rfl, rfl⟩
    refine W.dt [125, 132] 138 (((((snOf M0 N0 a0).nr) % 2)).sign == 0) (by kernel_rfl) (near_odd hc.2.2 (fun h => hi h.1)) ?_
    refine W.cl [138] (by kernel_rfl) (p_xnr X25 hm0 hn0 (by decide)) ?_
    rintro _ _ ⟨u27, d27, rfl, rfl⟩   -- (((snOf M0 N0 a0).add ⟨M0, N0, (((q + q) : Int) : Rat), 0, 0, 0⟩).nr)
    refine W.cl [138] (by kernel_rfl) (p_zof q (by omega) (by omega)) ?_
    rintro _ _ ⟨u28, d28, rfl, rfl⟩   -- q
    refine W.cl [138] (by kernel_rfl) (p_zadd u3 d3 u28 d28) ?_
    rintro _ _ ⟨u29, d29, rfl, rfl⟩   -- (((snOf M0 N0 a0).nr) + q)
    refine W.cl [138] (by kernel_rfl) (p_zof q (by omega) (by omega)) ?_
    rintro _ _ ⟨u30, d30, rfl, rfl⟩   -- q
    refine W.cl [138] (by kernel_rfl) (p_zadd u29 d29 u30 d30) ?_
    rintro _ _ ⟨u31, d31, rfl, rfl⟩   -- ((((snOf M0 N0 a0).nr) + q) + q)
    refine W.cl [138] (by kernel_rfl) (p_zcmp u27 d27 u31 d31 (by decide) (by decide)) ?_
    rintro _ _ ⟨rfl, rfl⟩
    exact W.r [138] (.bool ((cmpZ (((snOf M0 N0 a0).add ⟨M0, N0, (((q + q) : Int) : Rat), 0, 0, 0⟩).nr) ((((snOf M0 N0 a0).nr) + q) + q)) == 0)) (by kernel_rfl) ⟨congrArg _ (near_moved _ hm0 hn0 q), rfl⟩ ent0

end Go.Proofs.Ytabpaiboodllbaa
namespace Go.Proofs.Ytabpaiboodllbaa.surdNears
open Go.ChangeShapes Go.WideShapes Go.ChangeAt Go.RowKit
open Go.ChangeMaps (open_string shut_string)

theorem closed : joinedFacts Try.pinned.checked.prog 3 Try.f3 Rows.surdNearsSpec Rows.surdNearsRow = true := by
  unfold joinedFacts
  rw [show Try.pinned.checked.prog.mayEnter = true from jn_enter, show (Rows.surdNearsRow.lifted == Try.pinned.checked.prog.liftsFinal) = true from jn_lift, show (Try.pinned.checked.prog.make == some Rows.surdNearsRow.make) = true from jn_make,
    show laidOutB Try.pinned.checked.prog = true from jn_laid, show mapsRowed Try.pinned.checked.prog = true from jn_maps]
  kernel_rfl

set_option maxRecDepth 100000 in
theorem lifted (os : Os) (started : os.Started) (H : Type) (enc : TypeId × Value → H) :
    ReturnsInHanded {} Try.checked os 3 .any (Rows.surdNearsSpec.pre6 enc Try.prog Try.f3 Rows.surdNearsRow.domain false) (Rows.surdNearsSpec.post enc Try.prog Try.f3 false true false false) := by
  refine returnsInHanded_of_change (C := Try.checked) jn_own started (by kernel_rfl) Try.func3
    (ChangeSpec.witness6 (enc := enc) (C := Try.checked) false ⟨#[], #[.agg #[.int .i64 0, .int .i64 0, .slice none 0 0], .int .i64 0], []⟩ 8 (by kernel_rfl) (by kernel_rfl) (by kernel_rfl) (by kernel_rfl)) ?_
  intro W base args ds gs before hval0 hW hcnd _
  have hval : ∀ (j : Nat) t v, Try.f3.params[j]? = some t → args[j]? = some v → Value.okWide Try.prog W .any base t v := hval0
  have hW' := hW
  obtain ⟨p, q, hA0, hV, rfl, hfz, hnd⟩ := hW
  have hA : DataW.TrodAll enc Try.prog W 0 (fun _ => true) true Try.f3.params.toList args.toList ds p := hA0
  have hK := hA
  rw [Try.params3] at hA hval hK
  obtain ⟨v0, vs0, d0, ds0, p0, q0, hargs, rfl, rfl, h0, r0⟩ := trodAll_cons hA
  obtain ⟨v1, vs1, d1, ds1, p1, q1, rfl, rfl, rfl, h1, r1⟩ := trodAll_cons r0
  obtain ⟨rfl, rfl, rfl⟩ := trodAll_nil r1
  obtain rfl : args = #[v0, v1] := by cases args; simp_all
  obtain ⟨rfl, rfl⟩ := trodVars_none hV
  obtain ⟨M0, N0, ao0, n0, c0, a0, rfl, u0, x0, e0, w0, g0⟩ := open_num Try.underlying24 (by kernel_rfl) ⟨rfl, rfl⟩ ⟨rfl, rfl⟩ ⟨rfl, rfl⟩ Try.underlying3 (by kernel_rfl) Try.underlying22 (by kernel_rfl) Try.underlying9 (by kernel_rfl) (hval 0 24 v0 rfl rfl) h0
  obtain ⟨a1, rfl, rfl, rfl, w1⟩ := open_int Try.underlying3 (hval 1 3 v1 rfl rfl) h1
  clear hA0 hval0
  simp only [List.append_nil] at hW' hK
  refine (law_calls' (p_surdNears M0 N0 u0 x0 ao0 n0 c0 a0 e0 w0 a1 w1) W (Holds.cons g0 (Holds.nil _ _))).mono fun e W' ⟨he, hg⟩ => ?_
  subst he
  exact ⟨_, rfl, law_post hW' rfl (fun _ _ _ => (trodAll_cons_mk (shut_bool Try.underlying4 _) trodAll_mk0)) (fun sp hsp => trodAll_stays jn_laid hg (by kernel_rfl) hK (fun x hx => hW'.lt x (by first | exact hx | simpa using hx)) (fun x hx => hsp x (by first | exact hx | simpa using hx))) rfl hg⟩

theorem over : Rows.surdNearsRow.holds Try.pinned (OpenSpec.ofChange Rows.surdNearsSpec) :=
  OpenClaim.holds_of_wide 3 Try.f3 rfl rfl rfl rfl rfl rfl rfl ⟨rfl, rfl, rfl, rfl, rfl⟩ rfl rfl rfl rfl rfl (by kernel_rfl) Try.func3 closed
    (of_decide_eq_true (by kernel_rfl)) (by unfold Func.isWrapper; first | (rw [if_pos (by decide +kernel)]; kernel_rfl) | (rw [if_neg (by decide +kernel)]; exact ⟨rfl, rfl⟩))
    (fun os started H enc _ => lifted os started H enc)
end Go.Proofs.Ytabpaiboodllbaa.surdNears
namespace Go.Proofs.Ytabpaiboodllbaa

/-- The statement. -/
theorem surdNears_holds : Rows.SurdNearsSaid := surdNears.over
end Go.Proofs.Ytabpaiboodllbaa
