
/- The law SurdRoots holds: a root times itself is what it is the root of, and the roots' whole parts are those of whole numbers, for all arguments. -/
import Derived.Test.YtcldhekediegdaaRows
import Derived.Test.YtcldhekediegdaaSr
import Derived.Test.YtcldhekediegdaaLawZ
import Derived.Test.YtcldhekediegdaaVs
import Derived.Test.YtcldhekediegdaaJn
set_option linter.unusedSimpArgs false
set_option linter.unusedVariables false
namespace Go.Proofs.Ytcldhekediegdaa
open Go.RowKit Go.IntWalk
theorem beq0 {z : Int} (h : z = 0) : (z == 0) = true := by rw [h]; rfl
theorem Sn.sg_eq {A B : Sn} (h : A = B) : (A.sub B).sg = 0 := Sn.sg_sub (by rw [h]) (by rw [h]) (by rw [h]) (by rw [h])
theorem madeOk_eq {M N : Int} {ss : List ByteArray} (h : (decide (ss.length ≤ 4) && ss.all pgood) = true) : madeOk M N ss = (decide (0 ≤ M) && decide (0 ≤ N)) := by
  rw [Bool.and_eq_true] at h
  unfold madeOk
  rw [h.1, h.2]
  rfl
/-- A number that is not made. -/
theorem p_madeF {Γ : List Fact} (M N : Int) (hM : (Lit.int .i64 M).wf = true) (hN : (Lit.int .i64 N).wf = true) (b n : Nat) (ss : List ByteArray) [hr : Has (RowF b) (ss.map Value.string) Γ] (hn : n = ss.length) (hs : ∀ s ∈ ss, s.size ≤ 9223372036854775807) (hok : madeOk M N ss = false) :
    PCalls tb Try.prog 30 [.agg #[.int .i64 M, .int .i64 N, .slice (some ⟨b, 0, none⟩) n n]] Γ (fun v Δ => ∃ X Y, v = .tuple #[sv X, tv Y, .bool false] ∧ Δ = []) := by
  refine PCalls.entH ((p_xmade (Γ := RA (some ⟨b, 0, none⟩) (ss.map Value.string) :: Γ) M N hM hN (some ⟨b, 0, none⟩) n n ss hn hs).weak (fun I w _ hh => Holds.cons (RA.of_row (hr.p hh) (fun _ _ h => h)) hh) (fun _ _ h => h)) ?_
  rintro v Δ ⟨X, Y, rfl, rfl⟩
  rw [hok]
  exact ⟨_, ⟨X, Y, rfl, rfl⟩, fun I w hh => Holds.nil _ _⟩
set_option maxHeartbeats 8000000 in
theorem p_surdRoots (m : Int) (hm : (Lit.int .i64 m).wf = true) (n : Int) (hn : (Lit.int .i64 n).wf = true) :
    PCalls tb Try.prog 7 [.int .i64 m, .int .i64 n] [] (IsV (.bool true)) := by
  have hm1 := wf64 hm
  have hn1 := wf64 hn
  refine PCalls.of_W tbOk Try.func7 rfl (by kernel_rfl) ?_
  by_cases h0 : 0 ≤ m ∧ 0 ≤ n
  · obtain ⟨hm0, hn0⟩ := h0
    refine W.bs [] 2 (List.map Value.string [(⟨#[48]⟩ : ByteArray), (⟨#[49]⟩ : ByteArray)]) tbOk (by kernel_rfl) (fun b1 => ?_)
    refine W.cl [] (by kernel_rfl) (p_madeK m n hm hn b1 2 [(⟨#[48]⟩ : ByteArray), (⟨#[49]⟩ : ByteArray)] ⟨m, n, 0, 1, 0, 0⟩ rfl (by decide) (by rw [madeOk_eq (by decide +kernel), decide_eq_true hm0, decide_eq_true hn0]; rfl) ⟨rfl, rfl, (show pAt [(⟨#[48]⟩ : ByteArray), (⟨#[49]⟩ : ByteArray)] 0 = 0 by decide +kernel), (show pAt [(⟨#[48]⟩ : ByteArray), (⟨#[49]⟩ : ByteArray)] 1 = 1 by decide +kernel), (show pAt [(⟨#[48]⟩ : ByteArray), (⟨#[49]⟩ : ByteArray)] 2 = 0 by decide +kernel), (show pAt [(⟨#[48]⟩ : ByteArray), (⟨#[49]⟩ : ByteArray)] 3 = 0 by decide +kernel)⟩) ?_
    rintro _ _ ⟨X1, Y1, rfl, rfl⟩
    refine W.bs [] 3 (List.map Value.string [(⟨#[48]⟩ : ByteArray), (⟨#[48]⟩ : ByteArray), (⟨#[49]⟩ : ByteArray)]) tbOk (by kernel_rfl) (fun b2 => ?_)
    refine W.cl [] (by kernel_rfl) (p_madeK m n hm hn b2 3 [(⟨#[48]⟩ : ByteArray), (⟨#[48]⟩ : ByteArray), (⟨#[49]⟩ : ByteArray)] ⟨m, n, 0, 0, 1, 0⟩ rfl (by decide) (by rw [madeOk_eq (by decide +kernel), decide_eq_true hm0, decide_eq_true hn0]; rfl) ⟨rfl, rfl, (show pAt [(⟨#[48]⟩ : ByteArray), (⟨#[48]⟩ : ByteArray), (⟨#[49]⟩ : ByteArray)] 0 = 0 by decide +kernel), (show pAt [(⟨#[48]⟩ : ByteArray), (⟨#[48]⟩ : ByteArray), (⟨#[49]⟩ : ByteArray)] 1 = 0 by decide +kernel), (show pAt [(⟨#[48]⟩ : ByteArray), (⟨#[48]⟩ : ByteArray), (⟨#[49]⟩ : ByteArray)] 2 = 1 by decide +kernel), (show pAt [(⟨#[48]⟩ : ByteArray), (⟨#[48]⟩ : ByteArray), (⟨#[49]⟩ : ByteArray)] 3 = 0 by decide +kernel)⟩) ?_
    rintro _ _ ⟨X2, Y2, rfl, rfl⟩
    refine W.bs [] 4 (List.map Value.string [(⟨#[48]⟩ : ByteArray), (⟨#[48]⟩ : ByteArray), (⟨#[48]⟩ : ByteArray), (⟨#[49]⟩ : ByteArray)]) tbOk (by kernel_rfl) (fun b3 => ?_)
    refine W.cl [] (by kernel_rfl) (p_madeK m n hm hn b3 4 [(⟨#[48]⟩ : ByteArray), (⟨#[48]⟩ : ByteArray), (⟨#[48]⟩ : ByteArray), (⟨#[49]⟩ : ByteArray)] ⟨m, n, 0, 0, 0, 1⟩ rfl (by decide) (by rw [madeOk_eq (by decide +kernel), decide_eq_true hm0, decide_eq_true hn0]; rfl) ⟨rfl, rfl, (show pAt [(⟨#[48]⟩ : ByteArray), (⟨#[48]⟩ : ByteArray), (⟨#[48]⟩ : ByteArray), (⟨#[49]⟩ : ByteArray)] 0 = 0 by decide +kernel), (show pAt [(⟨#[48]⟩ : ByteArray), (⟨#[48]⟩ : ByteArray), (⟨#[48]⟩ : ByteArray), (⟨#[49]⟩ : ByteArray)] 1 = 0 by decide +kernel), (show pAt [(⟨#[48]⟩ : ByteArray), (⟨#[48]⟩ : ByteArray), (⟨#[48]⟩ : ByteArray), (⟨#[49]⟩ : ByteArray)] 2 = 0 by decide +kernel), (show pAt [(⟨#[48]⟩ : ByteArray), (⟨#[48]⟩ : ByteArray), (⟨#[48]⟩ : ByteArray), (⟨#[49]⟩ : ByteArray)] 3 = 1 by decide +kernel)⟩) ?_
    rintro _ _ ⟨X3, Y3, rfl, rfl⟩
    refine W.cl [] (by kernel_rfl) p_xknown ?_
    rintro _ _ ⟨rfl, rfl⟩
    refine W.cl [55, 59, 63, 66] (by kernel_rfl) (p_xmul X1 X1 (by rfl) (by rfl)) ?_
    rintro _ _ ⟨X8, rfl, rfl⟩
    refine W.cl [] (by kernel_rfl) (p_xmul X2 X2 (by rfl) (by rfl)) ?_
    rintro _ _ ⟨X9, rfl, rfl⟩
    refine W.cl [] (by kernel_rfl) (p_xmul X1 X2 (by rfl) (by rfl)) ?_
    rintro _ _ ⟨X10, rfl, rfl⟩
    refine W.cl [] (by kernel_rfl) (p_xcmp X10 X3 (by rfl) (by rfl)) ?_
    rintro _ _ ⟨rfl, rfl⟩
    refine W.cl [] (by kernel_rfl) (p_zof m (by omega) (by omega)) ?_
    rintro _ _ ⟨u12, d12, rfl, rfl⟩
    refine W.cl [] (by kernel_rfl) (p_zabs u12 d12) ?_
    rintro _ _ ⟨rfl, rfl⟩
    refine W.cl [] (by kernel_rfl) (p_root u12) ?_
    rintro _ _ ⟨u14, t14, rfl, rfl⟩
    refine W.cl [] (by kernel_rfl) (p_zof m (by omega) (by omega)) ?_
    rintro _ _ ⟨u15, d15, rfl, rfl⟩
    refine W.cl [] (by kernel_rfl) (p_zof n (by omega) (by omega)) ?_
    rintro _ _ ⟨u16, d16, rfl, rfl⟩
    refine W.cl [] (by kernel_rfl) (p_zmul u15 d15 u16 d16) ?_
    rintro _ _ ⟨u17, d17, rfl, rfl⟩
    refine W.cl [] (by kernel_rfl) (p_zabs u17 d17) ?_
    rintro _ _ ⟨rfl, rfl⟩
    refine W.cl [] (by kernel_rfl) (p_root u17) ?_
    rintro _ _ ⟨u19, t19, rfl, rfl⟩
    refine W.cl [] (by kernel_rfl) (p_xparts X8) ?_
    rintro _ _ ⟨rfl, rfl⟩
    refine W.cl [] (by kernel_rfl) (p_zof m (by omega) (by omega)) ?_
    rintro _ _ ⟨u21, d21, rfl, rfl⟩
    refine W.cl [] (by kernel_rfl) (p_qwhole u21 d21) ?_
    rintro _ _ ⟨n22, a22, m22, b22, rfl, rfl⟩
    refine W.cx [] (by kernel_rfl) (entSp (x := X8)) (p_qcmp X8.p.n X8.p.a X8.p.m X8.p.b n22 a22 m22 b22) ?_
    rintro _ _ ⟨rfl, rfl⟩
    refine W.dt [] 117 (cmpQ ((⟨m, n, 0, 1, 0, 0⟩ : Sn).mul ⟨m, n, 0, 1, 0, 0⟩).p (m : Rat) == 0) (by kernel_rfl) (beq0 (cmpQ_eq.2 (by simp only [Sn.mul]; grind))) ?_
    refine W.cl [117] (by kernel_rfl) (p_xparts X9) ?_
    rintro _ _ ⟨rfl, rfl⟩
    refine W.cl [117] (by kernel_rfl) (p_zof n (by omega) (by omega)) ?_
    rintro _ _ ⟨u25, d25, rfl, rfl⟩
    refine W.cl [117] (by kernel_rfl) (p_qwhole u25 d25) ?_
    rintro _ _ ⟨n26, a26, m26, b26, rfl, rfl⟩
    refine W.cx [117] (by kernel_rfl) (entSp (x := X9)) (p_qcmp X9.p.n X9.p.a X9.p.m X9.p.b n26 a26 m26 b26) ?_
    rintro _ _ ⟨rfl, rfl⟩
    refine W.dt [117] 127 (cmpQ ((⟨m, n, 0, 0, 1, 0⟩ : Sn).mul ⟨m, n, 0, 0, 1, 0⟩).p (n : Rat) == 0) (by kernel_rfl) (beq0 (cmpQ_eq.2 (by simp only [Sn.mul]; grind))) ?_
    refine W.dt [127] 131 ((((⟨m, n, 0, 1, 0, 0⟩ : Sn).mul ⟨m, n, 0, 0, 1, 0⟩).sub ⟨m, n, 0, 0, 0, 1⟩).sg == 0) (by kernel_rfl) (beq0 (Sn.sg_eq (Sn.ext' rfl rfl (by simp only [Sn.mul]; grind) (by simp only [Sn.mul]; grind) (by simp only [Sn.mul]; grind) (by simp only [Sn.mul]; grind)))) ?_
    refine W.cl [131] (by kernel_rfl) (p_xfloor X1 (ra_floors hm0)) ?_
    rintro _ _ ⟨u28, d28, rfl, rfl⟩
    rw [ra_low hm0]
    refine W.cl [131] (by kernel_rfl) (p_zbig u14) ?_
    rintro _ _ ⟨u29, d29, rfl, rfl⟩
    refine W.cl [131] (by kernel_rfl) (p_zcmp u28 d28 u29 d29) ?_
    rintro _ _ ⟨rfl, rfl⟩
    refine W.dt [131] 139 (cmpZ (isq m.natAbs : Int) (isq m.natAbs : Int) == 0) (by kernel_rfl) (beq0 (cmpZ_eq.2 rfl)) ?_
    refine W.cl [139] (by kernel_rfl) (p_xfloor X3 (rc_floors hm0 hn0)) ?_
    rintro _ _ ⟨u31, d31, rfl, rfl⟩
    rw [rc_low]
    refine W.cl [139] (by kernel_rfl) (p_zbig u19) ?_
    rintro _ _ ⟨u32, d32, rfl, rfl⟩
    refine W.cl [139] (by kernel_rfl) (p_zcmp u31 d31 u32 d32) ?_
    rintro _ _ ⟨rfl, rfl⟩
    exact W.r [139] (.bool (cmpZ (isq (m * n).natAbs : Int) (isq (m * n).natAbs : Int) == 0)) (by kernel_rfl) ⟨congrArg _ (beq0 (cmpZ_eq.2 rfl)), rfl⟩ ent0
  · have hf : (decide (0 ≤ m) && decide (0 ≤ n)) = false := by
      by_cases h1 : 0 ≤ m
      · rw [decide_eq_true h1, decide_eq_false (by omega)]; rfl
      · rw [decide_eq_false h1]; rfl
    refine W.bs [] 2 (List.map Value.string [(⟨#[48]⟩ : ByteArray), (⟨#[49]⟩ : ByteArray)]) tbOk (by kernel_rfl) (fun b1 => ?_)
    refine W.cl [] (by kernel_rfl) (p_madeF m n hm hn b1 2 [(⟨#[48]⟩ : ByteArray), (⟨#[49]⟩ : ByteArray)] rfl (by decide) (by rw [madeOk_eq (by decide +kernel)]; exact hf)) ?_
    rintro _ _ ⟨X1, Y1, rfl, rfl⟩
    refine W.bs [] 3 (List.map Value.string [(⟨#[48]⟩ : ByteArray), (⟨#[48]⟩ : ByteArray), (⟨#[49]⟩ : ByteArray)]) tbOk (by kernel_rfl) (fun b2 => ?_)
    refine W.cl [] (by kernel_rfl) (p_madeF m n hm hn b2 3 [(⟨#[48]⟩ : ByteArray), (⟨#[48]⟩ : ByteArray), (⟨#[49]⟩ : ByteArray)] rfl (by decide) (by rw [madeOk_eq (by decide +kernel)]; exact hf)) ?_
    rintro _ _ ⟨X2, Y2, rfl, rfl⟩
    refine W.bs [] 4 (List.map Value.string [(⟨#[48]⟩ : ByteArray), (⟨#[48]⟩ : ByteArray), (⟨#[48]⟩ : ByteArray), (⟨#[49]⟩ : ByteArray)]) tbOk (by kernel_rfl) (fun b3 => ?_)
    refine W.cl [] (by kernel_rfl) (p_madeF m n hm hn b3 4 [(⟨#[48]⟩ : ByteArray), (⟨#[48]⟩ : ByteArray), (⟨#[48]⟩ : ByteArray), (⟨#[49]⟩ : ByteArray)] rfl (by decide) (by rw [madeOk_eq (by decide +kernel)]; exact hf)) ?_
    rintro _ _ ⟨X3, Y3, rfl, rfl⟩
    refine W.cl [] (by kernel_rfl) p_xknown ?_
    rintro _ _ ⟨rfl, rfl⟩
    refine W.cl [55, 59, 63, 66] (by kernel_rfl) p_xknown ?_
    rintro _ _ ⟨rfl, rfl⟩
    exact W.r [] (.bool true) (by kernel_rfl) ⟨rfl, rfl⟩ ent0

end Go.Proofs.Ytcldhekediegdaa
namespace Go.Proofs.Ytcldhekediegdaa.surdRoots
open Go.ChangeShapes Go.WideShapes Go.ChangeAt Go.RowKit
open Go.ChangeMaps (open_string shut_string)

theorem closed : joinedFacts Try.pinned.checked.prog 7 Try.f7 Rows.surdRootsSpec Rows.surdRootsRow = true := by
  unfold joinedFacts
  rw [show Try.pinned.checked.prog.mayEnter = true from jn_enter, show (Rows.surdRootsRow.lifted == Try.pinned.checked.prog.liftsFinal) = true from jn_lift, show (Try.pinned.checked.prog.make == some Rows.surdRootsRow.make) = true from jn_make,
    show laidOutB Try.pinned.checked.prog = true from jn_laid, show mapsRowed Try.pinned.checked.prog = true from jn_maps]
  kernel_rfl

set_option maxRecDepth 100000 in
theorem lifted (os : Os) (started : os.Started) (H : Type) (enc : TypeId × Value → H) :
    ReturnsInHanded {} Try.checked os 7 .any (Rows.surdRootsSpec.pre6 enc Try.prog Try.f7 Rows.surdRootsRow.domain false) (Rows.surdRootsSpec.post enc Try.prog Try.f7 false true false false) := by
  refine returnsInHanded_of_change (C := Try.checked) jn_own started (by kernel_rfl) Try.func7
    (ChangeSpec.witness6 (enc := enc) (C := Try.checked) false ⟨#[], #[.int .i64 0, .int .i64 0], []⟩ 8 (by kernel_rfl) (by kernel_rfl) (by kernel_rfl) (by kernel_rfl)) ?_
  intro W base args ds gs before hval0 hW hcnd _
  have hval : ∀ (j : Nat) t v, Try.f7.params[j]? = some t → args[j]? = some v → Value.okWide Try.prog W .any base t v := hval0
  have hW' := hW
  obtain ⟨p, q, hA0, hV, rfl, hfz, hnd⟩ := hW
  have hA : DataW.TrodAll enc Try.prog W 0 (fun _ => true) true Try.f7.params.toList args.toList ds p := hA0
  have hK := hA
  rw [Try.params7] at hA hval hK
  obtain ⟨v0, vs0, d0, ds0, p0, q0, hargs, rfl, rfl, h0, r0⟩ := trodAll_cons hA
  obtain ⟨v1, vs1, d1, ds1, p1, q1, rfl, rfl, rfl, h1, r1⟩ := trodAll_cons r0
  obtain ⟨rfl, rfl, rfl⟩ := trodAll_nil r1
  obtain rfl : args = #[v0, v1] := by cases args; simp_all
  obtain ⟨rfl, rfl⟩ := trodVars_none hV
  obtain ⟨a0, rfl, rfl, rfl, w0⟩ := open_int Try.underlying3 (hval 0 3 v0 rfl rfl) h0
  obtain ⟨a1, rfl, rfl, rfl, w1⟩ := open_int Try.underlying3 (hval 1 3 v1 rfl rfl) h1
  clear hA0 hval0
  simp only [List.append_nil] at hW' hK
  refine (law_calls' (p_surdRoots a0 w0 a1 w1) W (Holds.nil _ _)).mono fun e W' ⟨he, hg⟩ => ?_
  subst he
  exact ⟨_, rfl, law_post hW' rfl (fun _ _ _ => (trodAll_cons_mk (shut_bool Try.underlying4 _) trodAll_mk0)) (fun sp hsp => trodAll_stays jn_laid hg (by kernel_rfl) hK (fun x hx => hW'.lt x (by first | exact hx | simpa using hx)) (fun x hx => hsp x (by first | exact hx | simpa using hx))) rfl hg⟩

theorem over : Rows.surdRootsRow.holds Try.pinned (OpenSpec.ofChange Rows.surdRootsSpec) :=
  OpenClaim.holds_of_wide 7 Try.f7 rfl rfl rfl rfl rfl rfl rfl ⟨rfl, rfl, rfl, rfl, rfl⟩ rfl rfl rfl rfl rfl (by kernel_rfl) Try.func7 closed
    (of_decide_eq_true (by kernel_rfl)) (by unfold Func.isWrapper; first | (rw [if_pos (by decide +kernel)]; kernel_rfl) | (rw [if_neg (by decide +kernel)]; exact ⟨rfl, rfl⟩))
    (fun os started H enc _ => lifted os started H enc)
end Go.Proofs.Ytcldhekediegdaa.surdRoots
namespace Go.Proofs.Ytcldhekediegdaa

/-- The statement. -/
theorem surdRoots_holds : Rows.SurdRootsSaid := surdRoots.over
end Go.Proofs.Ytcldhekediegdaa
