/- Quotients, rounded down, and rests are the reference's. -/
import Derived.Test.YtnjohlimjbmkgaaRows
import Derived.Test.YtnjohlimjbmkgaaZl
import Derived.Test.YtnjohlimjbmkgaaLawZ
namespace Go.Proofs.Ytnjohlimjbmkgaa
open Go.RowKit Go.IntWalk

theorem p_zfloor0 {Γ : List Fact} {L M : Nat} (s : Sl) (b : Bool) (t : Sl) (c : Bool) {x : Int} [Has (ZF s b) (L, x) Γ] [Has (ZF t c) (M, 0) Γ] : PCalls tb Try.prog 21 [zv s b, zv t c] Γ (fun v Δ => v = .tuple #[zv ⟨none, 0, 0⟩ false, zv ⟨none, 0, 0⟩ false, .int .i64 5] ∧ Δ = [ZF ⟨none, 0, 0⟩ false (0, 0)]) := by
  refine PCalls.of_W tbOk Try.func21 rfl (by kernel_rfl) ?_
  refine W.zn t c rfl ?_
  rintro rfl
  have : Has (NF t) (M, 0) (NF t (M, (0 : Int).natAbs) :: Γ) := Has.head
  refine W.cl [] (by kernel_rfl) (p_div0 s t) ?_
  rintro _ _ ⟨rfl, rfl⟩
  exact W.r [22] (.tuple #[zv ⟨none, 0, 0⟩ false, zv ⟨none, 0, 0⟩ false, .int .i64 5]) (by kernel_rfl) ⟨rfl, rfl⟩ entZnil

set_option maxHeartbeats 1000000 in
theorem p_zedFloors (x y : ByteArray) : PCalls tb Try.prog 4 [.string x, .string y] [] (IsV (.bool true)) := by
  refine PCalls.of_W tbOk Try.func4 rfl (by kernel_rfl) ?_
  refine W.cl [] (by kernel_rfl) (p_one x) ?_
  rintro _ _ ⟨u1, d1, S1, t1, rfl, hS1, rfl⟩
  refine W.cl [] (by kernel_rfl) (p_one y) ?_
  rintro _ _ ⟨u2, d2, S2, t2, rfl, hS2, rfl⟩
  refine W.cl [] (by kernel_rfl) p_zknown ?_
  rintro _ _ ⟨rfl, rfl⟩
  cases hk1 : zok x with
  | false =>
    refine W.cl [37, 34, 30] (by kernel_rfl) p_zknown ?_
    rintro _ _ ⟨rfl, rfl⟩
    refine W.cl [39] (by kernel_rfl) (p_apart x) ?_
    rintro _ _ ⟨rfl, rfl⟩
    refine W.cl [44, 39] (by kernel_rfl) (p_apart y) ?_
    rintro _ _ ⟨rfl, rfl⟩
    exact W.r [44] (.bool true) (by kernel_rfl) ⟨rfl, rfl⟩ ent0
  | true =>
    cases hk2 : zok y with
    | false =>
      refine W.cl [37, 34, 30] (by kernel_rfl) p_zknown ?_
      rintro _ _ ⟨rfl, rfl⟩
      refine W.cl [39] (by kernel_rfl) (p_apart x) ?_
      rintro _ _ ⟨rfl, rfl⟩
      refine W.cl [44, 39] (by kernel_rfl) (p_apart y) ?_
      rintro _ _ ⟨rfl, rfl⟩
      exact W.r [44] (.bool true) (by kernel_rfl) ⟨rfl, rfl⟩ ent0
    | true =>
      generalize zfv x = X at *
      generalize zfv y = Y at *
      by_cases hy : Y = 0
      · subst hy
        refine W.cl [37, 34, 30] (by kernel_rfl) (p_zfloor0 u1 d1 u2 d2) ?_
        rintro _ _ ⟨rfl, rfl⟩
        refine W.dt [] 58 (S2 == 0) (by kernel_rfl) (by rw [hS2]; rfl) ?_
        refine W.cl [61, 58] (by kernel_rfl) (p_zsign ⟨none, 0, 0⟩ false) ?_
        rintro _ _ ⟨rfl, rfl⟩
        refine W.cl [66, 61] (by kernel_rfl) (p_zsign ⟨none, 0, 0⟩ false) ?_
        rintro _ _ ⟨rfl, rfl⟩
        exact W.r [66] (.bool true) (by kernel_rfl) ⟨rfl, rfl⟩ ent0
      · refine W.cl [37, 34, 30] (by kernel_rfl) (p_zfloor u1 d1 u2 d2 hy) ?_
        rintro _ _ ⟨q, e, r, f, rfl, rfl⟩
        refine W.df [] 58 (S2 == 0) (by kernel_rfl) (by rw [hS2, beq_eq_false_iff_ne, ne_eq, sign_zero]; exact hy) ?_
        refine W.cl [58] (by kernel_rfl) (p_yfloor S1 t1 S2 t2 hy) ?_
        rintro _ _ ⟨S3, t3, S4, t4, rfl, rfl⟩
        refine W.cl [79, 58] (by kernel_rfl) (p_same q e S3 t3) ?_
        rintro _ _ ⟨rfl, rfl⟩
        refine W.cl [84, 79] (by kernel_rfl) (p_same r f S4 t4) ?_
        rintro _ _ ⟨rfl, rfl⟩
        exact W.r [84] (.bool true) (by kernel_rfl) ⟨rfl, rfl⟩ ent0
theorem zedFloors_walk (a0 a1 : ByteArray) (_ : a0.size ≤ 9223372036854775807) (_ : a1.size ≤ 9223372036854775807) (w : World) : Calls Try.prog 4 #[.string a0, .string a1] w fun e w' => e = .returned (.bool true) ∧ Below w.heap.size w w' := law_calls (p_zedFloors a0 a1) w

end Go.Proofs.Ytnjohlimjbmkgaa
namespace Go.Proofs.Ytnjohlimjbmkgaa.zedFloors
open Go.ChangeShapes Go.WideShapes Go.ChangeAt Go.RowKit
open Go.ChangeMaps (open_string shut_string)

theorem own : ownKnob Try.prog.godebug = none := by kernel_rfl

set_option maxRecDepth 100000 in
theorem lifted (os : Os) (started : os.Started) (H : Type) (enc : TypeId × Value → H) :
    ReturnsInHanded {} Try.checked os 4 .any (Rows.zedFloorsSpec.pre6 enc Try.prog Try.f4 Rows.zedFloorsRow.domain false) (Rows.zedFloorsSpec.post enc Try.prog Try.f4 false true false false) := by
  refine returnsInHanded_of_change (C := Try.checked) own started (by kernel_rfl) Try.func4
    (ChangeSpec.witness6 (enc := enc) (C := Try.checked) false ⟨#[], #[.string ⟨#[]⟩, .string ⟨#[]⟩], []⟩ 8 (by kernel_rfl) (by kernel_rfl) (by kernel_rfl) (by kernel_rfl)) ?_
  intro W base args ds gs before hval0 hW hcnd _
  have hval : ∀ (j : Nat) t v, Try.f4.params[j]? = some t → args[j]? = some v → Value.okWide Try.prog W .any base t v := hval0
  have hW' := hW
  obtain ⟨p, q, hA0, hV, rfl, hfz, hnd⟩ := hW
  have hA : DataW.TrodAll enc Try.prog W 0 (fun _ => true) true Try.f4.params.toList args.toList ds p := hA0
  rw [Try.params4] at hA hval
  obtain ⟨v0, vs0, d0, ds0, p0, q0, hargs, rfl, rfl, h0, r0⟩ := trodAll_cons hA
  obtain ⟨v1, vs1, d1, ds1, p1, q1, rfl, rfl, rfl, h1, r1⟩ := trodAll_cons r0
  obtain ⟨rfl, rfl, rfl⟩ := trodAll_nil r1
  obtain rfl : args = #[v0, v1] := by cases args; simp_all
  obtain ⟨rfl, rfl⟩ := trodVars_none hV
  obtain ⟨a0, rfl, rfl, rfl, w0⟩ := open_string Try.underlying9 (hval 0 9 v0 rfl rfl) h0
  obtain ⟨a1, rfl, rfl, rfl, w1⟩ := open_string Try.underlying9 (hval 1 9 v1 rfl rfl) h1
  clear hA0 hval0
  simp only [List.append_nil] at hW'
  refine (zedFloors_walk a0 a1 w0 w1 W).mono fun e W' ⟨he, hg⟩ => ?_
  subst he
  exact ⟨_, rfl, law_post hW' rfl (fun _ _ _ => (trodAll_cons_mk (shut_bool Try.underlying4 _) trodAll_mk0)) (fun sp _ => (trodAll_cons_mk (shut_string Try.underlying9 w0) (trodAll_cons_mk (shut_string Try.underlying9 w1) trodAll_mk0))) rfl hg⟩

theorem over : Rows.zedFloorsRow.holds Try.pinned (OpenSpec.ofChange Rows.zedFloorsSpec) :=
  OpenClaim.holds_of_wide 4 Try.f4 rfl rfl rfl rfl rfl rfl rfl ⟨rfl, rfl, rfl, rfl, rfl⟩ rfl rfl rfl rfl rfl (by kernel_rfl) Try.func4 (by kernel_rfl)
    (of_decide_eq_true (by kernel_rfl)) (by unfold Func.isWrapper; first | (rw [if_pos (by decide +kernel)]; kernel_rfl) | (rw [if_neg (by decide +kernel)]; exact ⟨rfl, rfl⟩))
    (fun os started H enc _ => lifted os started H enc)
end Go.Proofs.Ytnjohlimjbmkgaa.zedFloors
namespace Go.Proofs.Ytnjohlimjbmkgaa

/-- The statement. -/
theorem zedFloors_holds : Rows.ZedFloorsSaid := zedFloors.over
end Go.Proofs.Ytnjohlimjbmkgaa
