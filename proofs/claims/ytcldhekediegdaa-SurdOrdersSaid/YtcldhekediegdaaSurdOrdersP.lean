
/- The law SurdOrders holds: the order of numbers with two roots goes with sums, and products have the sign that their parts' signs make, for all arguments. -/
import Derived.Test.YtcldhekediegdaaRows
import Derived.Test.YtcldhekediegdaaSd
import Derived.Test.YtcldhekediegdaaSg
import Derived.Test.YtcldhekediegdaaLawZ
import Derived.Test.YtcldhekediegdaaVs
import Derived.Test.YtcldhekediegdaaJn
set_option linter.unusedSimpArgs false
set_option linter.unusedVariables false
namespace Go.Proofs.Ytcldhekediegdaa
open Go.RowKit Go.IntWalk
theorem madeOk_pos {M N : Int} {ss : List ByteArray} (h : madeOk M N ss = true) : 0 ≤ M ∧ 0 ≤ N := by
  unfold madeOk at h
  simp only [Bool.and_eq_true, decide_eq_true_eq] at h
  exact ⟨h.2.2.1, h.2.2.2⟩
theorem Sn.sg3 (S : Sn) (hm : 0 ≤ S.m) (hn : 0 ≤ S.n) : Tri S.sg := by
  have := (sig2 S hm hn).tri
  unfold Tri
  omega
theorem wrap_neg3 {z : Int} (h : Tri z) : IntKind.i64.wrap (0 - z) = -z := by rcases h with rfl | rfl | rfl <;> rfl
theorem ord1 (S T : Sn) (hm : 0 ≤ S.m) (hn : 0 ≤ S.n) (em : T.m = S.m) (en : T.n = S.n) : ((S.sub T).sg == IntKind.i64.wrap (0 - (T.sub S).sg)) = true := by
  have e : T.sub S = (S.sub T).neg := by
    refine Sn.ext' em en ?_ ?_ ?_ ?_ <;> simp only [Sn.sub, Sn.neg] <;> grind
  rw [e, Sn.sg_neg (S.sub T) hm hn]
  have h := Sn.sg3 (S.sub T) hm hn
  generalize (S.sub T).sg = z at *
  rcases h with rfl | rfl | rfl <;> rfl
theorem ord2 (S T U : Sn) (em : T.m = S.m) (en : T.n = S.n) : ((S.sub T).sg == ((S.add U).sub (T.add U)).sg) = true := by
  have e : (S.add U).sub (T.add U) = S.sub T := by
    refine Sn.ext' rfl rfl ?_ ?_ ?_ ?_ <;> simp only [Sn.sub, Sn.add] <;> grind
  rw [e]
  simp
theorem ord3 (S T : Sn) (hm : 0 ≤ S.m) (hn : 0 ≤ S.n) (em : T.m = S.m) (en : T.n = S.n) : ((S.mul T).sg == IntKind.i64.wrap (S.sg * T.sg)) = true := by
  rw [Sn.sg_mul S T hm hn em en, wrap3 (Sn.sg3 S hm hn) (Sn.sg3 T (by omega) (by omega))]
  simp
theorem ord5 (S : Sn) (hm : 0 ≤ S.m) (hn : 0 ≤ S.n) : (S.neg.sg == IntKind.i64.wrap (0 - S.sg)) = true := by
  rw [Sn.sg_neg S hm hn, wrap_neg3 (Sn.sg3 S hm hn)]
  simp
set_option maxHeartbeats 8000000 in
theorem p_surdOrders (M0 N0 : Int) (u0 : (Lit.int .i64 M0).wf = true) (x0 : (Lit.int .i64 N0).wf = true) (ao0 : Option Addr) (n0 c0 : Nat) (a0 : List ByteArray) (e0 : n0 = a0.length) (w0 : ∀ s ∈ a0, s.size ≤ 9223372036854775807) (M1 N1 : Int) (u1 : (Lit.int .i64 M1).wf = true) (x1 : (Lit.int .i64 N1).wf = true) (ao1 : Option Addr) (n1 c1 : Nat) (a1 : List ByteArray) (e1 : n1 = a1.length) (w1 : ∀ s ∈ a1, s.size ≤ 9223372036854775807) (M2 N2 : Int) (u2 : (Lit.int .i64 M2).wf = true) (x2 : (Lit.int .i64 N2).wf = true) (ao2 : Option Addr) (n2 c2 : Nat) (a2 : List ByteArray) (e2 : n2 = a2.length) (w2 : ∀ s ∈ a2, s.size ≤ 9223372036854775807) :
    PCalls tb Try.prog 6 [.agg #[.int .i64 M0, .int .i64 N0, .slice ao0 n0 c0], .agg #[.int .i64 M1, .int .i64 N1, .slice ao1 n1 c1], .agg #[.int .i64 M2, .int .i64 N2, .slice ao2 n2 c2]] [RA ao0 (a0.map Value.string), RA ao1 (a1.map Value.string), RA ao2 (a2.map Value.string)] (IsV (.bool true)) := by
  refine PCalls.of_W tbOk Try.func6 rfl (by kernel_rfl) ?_
  refine W.cl [] (by kernel_rfl) (p_xmade M0 N0 u0 x0 ao0 n0 c0 a0 e0 w0) ?_
  rintro _ _ ⟨X1, Y1, rfl, rfl⟩
  refine W.cl [] (by kernel_rfl) (p_in M0 N0 ao0 n0 c0 M1 N1 ao1 n1 c1) ?_
  rintro _ _ ⟨rfl, rfl⟩
  refine W.cl [] (by kernel_rfl) (p_xmade M0 N0 u0 x0 ao1 n1 c1 a1 e1 w1) ?_
  rintro _ _ ⟨X3, Y3, rfl, rfl⟩
  refine W.cl [] (by kernel_rfl) (p_in M0 N0 ao0 n0 c0 M2 N2 ao2 n2 c2) ?_
  rintro _ _ ⟨rfl, rfl⟩
  refine W.cl [] (by kernel_rfl) (p_xmade M0 N0 u0 x0 ao2 n2 c2 a2 e2 w2) ?_
  rintro _ _ ⟨X5, Y5, rfl, rfl⟩
  refine W.cl [] (by kernel_rfl) (p_xknown) ?_
  rintro _ _ ⟨rfl, rfl⟩
  by_cases h0 : madeOk M0 N0 a0 = false
  · refine W.dt [54] 58 (!madeOk M0 N0 a0) (by kernel_rfl) (by rw [h0]; rfl) ?_
    refine W.cl [65, 62, 58] (by kernel_rfl) (p_xknown) ?_
    rintro _ _ ⟨rfl, rfl⟩
    exact W.r [] (.bool true) (by kernel_rfl) ⟨rfl, rfl⟩ ent0
  have h0 : madeOk M0 N0 a0 = true := by simpa using h0
  refine W.df [54] 58 (!madeOk M0 N0 a0) (by kernel_rfl) (by rw [h0]; rfl) ?_
  by_cases h1 : madeOk M0 N0 a1 = false
  · refine W.dt [58] 62 (!madeOk M0 N0 a1) (by kernel_rfl) (by rw [h1]; rfl) ?_
    refine W.cl [65, 62] (by kernel_rfl) (p_xknown) ?_
    rintro _ _ ⟨rfl, rfl⟩
    exact W.r [] (.bool true) (by kernel_rfl) ⟨rfl, rfl⟩ ent0
  have h1 : madeOk M0 N0 a1 = true := by simpa using h1
  refine W.df [58] 62 (!madeOk M0 N0 a1) (by kernel_rfl) (by rw [h1]; rfl) ?_
  by_cases h2 : madeOk M0 N0 a2 = false
  · refine W.dt [62] 65 (!madeOk M0 N0 a2) (by kernel_rfl) (by rw [h2]; rfl) ?_
    refine W.cl [65] (by kernel_rfl) (p_xknown) ?_
    rintro _ _ ⟨rfl, rfl⟩
    exact W.r [] (.bool true) (by kernel_rfl) ⟨rfl, rfl⟩ ent0
  have h2 : madeOk M0 N0 a2 = true := by simpa using h2
  refine W.df [62] 65 (!madeOk M0 N0 a2) (by kernel_rfl) (by rw [h2]; rfl) ?_
  obtain ⟨hm0, hn0⟩ := madeOk_pos h0
  refine W.code 999 ?_
  refine W.mf X1 Y1 (by kernel_rfl) h0 ?_
  refine W.mf X3 Y3 (by kernel_rfl) h1 ?_
  refine W.mf X5 Y5 (by kernel_rfl) h2 ?_
  refine W.cl [65] (by kernel_rfl) (p_xcmp X1 X3 (by rfl) (by rfl)) ?_
  rintro _ _ ⟨rfl, rfl⟩
  refine W.cl [] (by kernel_rfl) (p_xcmp X3 X1 (by rfl) (by rfl)) ?_
  rintro _ _ ⟨rfl, rfl⟩
  refine W.cl [] (by kernel_rfl) (p_xadd X1 X5 (by rfl) (by rfl)) ?_
  rintro _ _ ⟨X9, rfl, rfl⟩   -- ((snOf M0 N0 a0).add (snOf M0 N0 a2))
  refine W.cl [] (by kernel_rfl) (p_xadd X3 X5 (by rfl) (by rfl)) ?_
  rintro _ _ ⟨X10, rfl, rfl⟩   -- ((snOf M0 N0 a1).add (snOf M0 N0 a2))
  refine W.cl [] (by kernel_rfl) (p_xcmp X9 X10 (by rfl) (by rfl)) ?_
  rintro _ _ ⟨rfl, rfl⟩
  refine W.cl [] (by kernel_rfl) (p_xmul X1 X3 (by rfl) (by rfl)) ?_
  rintro _ _ ⟨X12, rfl, rfl⟩   -- ((snOf M0 N0 a0).mul (snOf M0 N0 a1))
  refine W.cl [] (by kernel_rfl) (p_xmul X1 X1 (by rfl) (by rfl)) ?_
  rintro _ _ ⟨X13, rfl, rfl⟩   -- ((snOf M0 N0 a0).mul (snOf M0 N0 a0))
  refine W.dt [] 113 ((((snOf M0 N0 a0)).sub (snOf M0 N0 a1)).sg == IntKind.i64.wrap (0 - (((snOf M0 N0 a1)).sub (snOf M0 N0 a0)).sg)) (by kernel_rfl) (ord1 _ _ hm0 hn0 rfl rfl) ?_
  refine W.dt [113] 118 ((((snOf M0 N0 a0)).sub (snOf M0 N0 a1)).sg == ((((snOf M0 N0 a0).add (snOf M0 N0 a2))).sub ((snOf M0 N0 a1).add (snOf M0 N0 a2))).sg) (by kernel_rfl) (ord2 _ _ _ rfl rfl) ?_
  refine W.cl [118] (by kernel_rfl) (p_xsign X12) ?_
  rintro _ _ ⟨rfl, rfl⟩
  refine W.cl [118] (by kernel_rfl) (p_xsign X1) ?_
  rintro _ _ ⟨rfl, rfl⟩
  refine W.cl [118] (by kernel_rfl) (p_xsign X3) ?_
  rintro _ _ ⟨rfl, rfl⟩
  refine W.dt [118] 128 (((snOf M0 N0 a0).mul (snOf M0 N0 a1)).sg == IntKind.i64.wrap ((snOf M0 N0 a0).sg * (snOf M0 N0 a1).sg)) (by kernel_rfl) (ord3 _ _ hm0 hn0 rfl rfl) ?_
  refine W.cl [128] (by kernel_rfl) (p_xsign X13) ?_
  rintro _ _ ⟨rfl, rfl⟩
  refine W.cl [128] (by kernel_rfl) (p_xsign X1) ?_
  rintro _ _ ⟨rfl, rfl⟩
  refine W.cl [128] (by kernel_rfl) (p_xsign X1) ?_
  rintro _ _ ⟨rfl, rfl⟩
  refine W.dt [128] 138 (((snOf M0 N0 a0).mul (snOf M0 N0 a0)).sg == IntKind.i64.wrap ((snOf M0 N0 a0).sg * (snOf M0 N0 a0).sg)) (by kernel_rfl) (ord3 _ _ hm0 hn0 rfl rfl) ?_
  refine W.cl [138] (by kernel_rfl) (p_xneg X1) ?_
  rintro _ _ ⟨X20, rfl, rfl⟩   -- ((snOf M0 N0 a0).neg)
  refine W.cl [138] (by kernel_rfl) (p_xsign X20) ?_
  rintro _ _ ⟨rfl, rfl⟩
  refine W.cl [138] (by kernel_rfl) (p_xsign X1) ?_
  rintro _ _ ⟨rfl, rfl⟩
  exact W.r [138] (.bool (((snOf M0 N0 a0).neg).sg == IntKind.i64.wrap (0 - (snOf M0 N0 a0).sg))) (by kernel_rfl) ⟨congrArg _ (ord5 _ hm0 hn0), rfl⟩ ent0

end Go.Proofs.Ytcldhekediegdaa
namespace Go.Proofs.Ytcldhekediegdaa.surdOrders
open Go.ChangeShapes Go.WideShapes Go.ChangeAt Go.RowKit
open Go.ChangeMaps (open_string shut_string)

theorem closed : joinedFacts Try.pinned.checked.prog 6 Try.f6 Rows.surdOrdersSpec Rows.surdOrdersRow = true := by
  unfold joinedFacts
  rw [show Try.pinned.checked.prog.mayEnter = true from jn_enter, show (Rows.surdOrdersRow.lifted == Try.pinned.checked.prog.liftsFinal) = true from jn_lift, show (Try.pinned.checked.prog.make == some Rows.surdOrdersRow.make) = true from jn_make,
    show laidOutB Try.pinned.checked.prog = true from jn_laid, show mapsRowed Try.pinned.checked.prog = true from jn_maps]
  kernel_rfl

set_option maxRecDepth 100000 in
theorem lifted (os : Os) (started : os.Started) (H : Type) (enc : TypeId × Value → H) :
    ReturnsInHanded {} Try.checked os 6 .any (Rows.surdOrdersSpec.pre6 enc Try.prog Try.f6 Rows.surdOrdersRow.domain false) (Rows.surdOrdersSpec.post enc Try.prog Try.f6 false true false false) := by
  refine returnsInHanded_of_change (C := Try.checked) jn_own started (by kernel_rfl) Try.func6
    (ChangeSpec.witness6 (enc := enc) (C := Try.checked) false ⟨#[], #[.agg #[.int .i64 0, .int .i64 0, .slice none 0 0], .agg #[.int .i64 0, .int .i64 0, .slice none 0 0], .agg #[.int .i64 0, .int .i64 0, .slice none 0 0]], []⟩ 8 (by kernel_rfl) (by kernel_rfl) (by kernel_rfl) (by kernel_rfl)) ?_
  intro W base args ds gs before hval0 hW hcnd _
  have hval : ∀ (j : Nat) t v, Try.f6.params[j]? = some t → args[j]? = some v → Value.okWide Try.prog W .any base t v := hval0
  have hW' := hW
  obtain ⟨p, q, hA0, hV, rfl, hfz, hnd⟩ := hW
  have hA : DataW.TrodAll enc Try.prog W 0 (fun _ => true) true Try.f6.params.toList args.toList ds p := hA0
  have hK := hA
  rw [Try.params6] at hA hval hK
  obtain ⟨v0, vs0, d0, ds0, p0, q0, hargs, rfl, rfl, h0, r0⟩ := trodAll_cons hA
  obtain ⟨v1, vs1, d1, ds1, p1, q1, rfl, rfl, rfl, h1, r1⟩ := trodAll_cons r0
  obtain ⟨v2, vs2, d2, ds2, p2, q2, rfl, rfl, rfl, h2, r2⟩ := trodAll_cons r1
  obtain ⟨rfl, rfl, rfl⟩ := trodAll_nil r2
  obtain rfl : args = #[v0, v1, v2] := by cases args; simp_all
  obtain ⟨rfl, rfl⟩ := trodVars_none hV
  obtain ⟨M0, N0, ao0, n0, c0, a0, rfl, u0, x0, e0, w0, g0⟩ := open_num Try.underlying78 (by kernel_rfl) ⟨rfl, rfl⟩ ⟨rfl, rfl⟩ ⟨rfl, rfl⟩ Try.underlying3 (by kernel_rfl) Try.underlying76 (by kernel_rfl) Try.underlying9 (by kernel_rfl) (hval 0 78 v0 rfl rfl) h0
  obtain ⟨M1, N1, ao1, n1, c1, a1, rfl, u1, x1, e1, w1, g1⟩ := open_num Try.underlying78 (by kernel_rfl) ⟨rfl, rfl⟩ ⟨rfl, rfl⟩ ⟨rfl, rfl⟩ Try.underlying3 (by kernel_rfl) Try.underlying76 (by kernel_rfl) Try.underlying9 (by kernel_rfl) (hval 1 78 v1 rfl rfl) h1
  obtain ⟨M2, N2, ao2, n2, c2, a2, rfl, u2, x2, e2, w2, g2⟩ := open_num Try.underlying78 (by kernel_rfl) ⟨rfl, rfl⟩ ⟨rfl, rfl⟩ ⟨rfl, rfl⟩ Try.underlying3 (by kernel_rfl) Try.underlying76 (by kernel_rfl) Try.underlying9 (by kernel_rfl) (hval 2 78 v2 rfl rfl) h2
  clear hA0 hval0
  simp only [List.append_nil] at hW' hK
  refine (law_calls' (p_surdOrders M0 N0 u0 x0 ao0 n0 c0 a0 e0 w0 M1 N1 u1 x1 ao1 n1 c1 a1 e1 w1 M2 N2 u2 x2 ao2 n2 c2 a2 e2 w2) W (Holds.cons g0 (Holds.cons g1 (Holds.cons g2 (Holds.nil _ _))))).mono fun e W' ⟨he, hg⟩ => ?_
  subst he
  exact ⟨_, rfl, law_post hW' rfl (fun _ _ _ => (trodAll_cons_mk (shut_bool Try.underlying4 _) trodAll_mk0)) (fun sp hsp => trodAll_stays jn_laid hg (by kernel_rfl) hK (fun x hx => hW'.lt x (by first | exact hx | simpa using hx)) (fun x hx => hsp x (by first | exact hx | simpa using hx))) rfl hg⟩

theorem over : Rows.surdOrdersRow.holds Try.pinned (OpenSpec.ofChange Rows.surdOrdersSpec) :=
  OpenClaim.holds_of_wide 6 Try.f6 rfl rfl rfl rfl rfl rfl rfl ⟨rfl, rfl, rfl, rfl, rfl⟩ rfl rfl rfl rfl rfl (by kernel_rfl) Try.func6 closed
    (of_decide_eq_true (by kernel_rfl)) (by unfold Func.isWrapper; first | (rw [if_pos (by decide +kernel)]; kernel_rfl) | (rw [if_neg (by decide +kernel)]; exact ⟨rfl, rfl⟩))
    (fun os started H enc _ => lifted os started H enc)
end Go.Proofs.Ytcldhekediegdaa.surdOrders
namespace Go.Proofs.Ytcldhekediegdaa

/-- The statement. -/
theorem surdOrders_holds : Rows.SurdOrdersSaid := surdOrders.over
end Go.Proofs.Ytcldhekediegdaa
