
/- Octant's examples. -/
import Derived.Test.YtabpaiboodllbaaGreatOc
set_option linter.unusedSimpArgs false
set_option linter.unusedVariables false
namespace Go.Proofs.YtabpaiboodllbaaGreat
open Go.RowKit Go.IntWalk

/-- The examples' turns. -/
def ox1 : On := ⟨false, 1, ((1 : Int) : Rat), 0, 0, 0, 0⟩
def ox7 : On := ⟨false, 7, ((1 : Int) : Rat), 0, 0, 0, 0⟩
def ox2 : On := ⟨true, 2, ((1 : Int) : Rat), 0, 0, 0, 0⟩

section
variable {fin : VS → List Fact → Prop} {Γ : List Fact} {L M K : Nat}

set_option maxHeartbeats 4000000 in
theorem p_oknown : PCalls tb Tryz.prog 26 [] Γ (IsV (.bool true)) := by
  refine PCalls.of_W tbOk Tryz.func26 rfl (by kernel_rfl) ?_
  refine W.more (Δ := [QG nilQ (0, 0)]) rfl entQ0 ?_
  refine W.cl [] (by kernel_rfl) (p_zof 1 (by omega) (by omega)) ?_
  rintro _ _ ⟨u1, d1, rfl, rfl⟩
  refine W.cl [] (by kernel_rfl) (p_qwhole u1 d1) ?_
  rintro _ _ ⟨n2, a2, m2, b2, rfl, rfl⟩
  obtain ⟨x, hx⟩ : ∃ x : Q5, x = ⟨⟨n2, a2, m2, b2⟩, nilQ, nilQ, nilQ, nilQ⟩ := ⟨_, rfl⟩
  refine W.cl [] (by kernel_rfl) (p_omake false ⟨n2, a2, m2, b2⟩ 1 nilQ nilQ (by omega) (by decide +kernel)) ?_
  rintro _ _ ⟨rfl, h1⟩
  subst h1
  refine W.cl [] (by kernel_rfl) (p_omake false ⟨n2, a2, m2, b2⟩ 7 nilQ nilQ (by omega) (by decide +kernel)) ?_
  rintro _ _ ⟨rfl, rfl⟩
  refine W.cl [] (by kernel_rfl) (p_omake true ⟨n2, a2, m2, b2⟩ 2 nilQ nilQ (by omega) (by decide +kernel)) ?_
  rintro _ _ ⟨rfl, rfl⟩
  refine W.cx [] (Γ' := [OF ⟨⟨n2, a2, m2, b2⟩, nilQ, nilQ, nilQ, nilQ⟩ (2, ox1)]) (by kernel_rfl) (entO rfl rfl rfl rfl rfl (by omega)) (p_oat ox1 ⟨⟨n2, a2, m2, b2⟩, nilQ, nilQ, nilQ, nilQ⟩ 1 0 (by decide) (by omega) (by omega)) ?_
  rintro _ _ ⟨X6, Y6, rfl, rfl⟩
  refine W.cl [] (by kernel_rfl) (p_ogrid X6 Y6 (by decide +kernel) (by decide +kernel) 1 1 (by decide +kernel) (by decide +kernel) (by decide) (by decide) (by omega) (by omega)) ?_
  rintro _ _ ⟨rfl, rfl⟩
  refine W.cx [] (Γ' := [OF ⟨⟨n2, a2, m2, b2⟩, nilQ, nilQ, nilQ, nilQ⟩ (2, ox2)]) (by kernel_rfl) (entO rfl rfl rfl rfl rfl (by omega)) (p_oat ox2 ⟨⟨n2, a2, m2, b2⟩, nilQ, nilQ, nilQ, nilQ⟩ 3 1 (by decide) (by omega) (by omega)) ?_
  rintro _ _ ⟨X8, Y8, rfl, rfl⟩
  refine W.cl [] (by kernel_rfl) (p_ogrid X8 Y8 (by decide +kernel) (by decide +kernel) 1 3 (by decide +kernel) (by decide +kernel) (by decide) (by decide) (by omega) (by omega)) ?_
  rintro _ _ ⟨rfl, rfl⟩
  refine W.cx [] (Γ' := [OF ⟨⟨n2, a2, m2, b2⟩, nilQ, nilQ, nilQ, nilQ⟩ (2, ox1)] ++ [OF ⟨⟨n2, a2, m2, b2⟩, nilQ, nilQ, nilQ, nilQ⟩ (2, ox7)]) (by kernel_rfl) (entAll (entO rfl rfl rfl rfl rfl (by omega)) (entO rfl rfl rfl rfl rfl (by omega)))
    (@p_othen _ 2 2 ox1 ox7 ⟨⟨n2, a2, m2, b2⟩, nilQ, nilQ, nilQ, nilQ⟩ ⟨⟨n2, a2, m2, b2⟩, nilQ, nilQ, nilQ, nilQ⟩ ⟨by simp⟩ ⟨by simp⟩ (by decide) (by decide) (by omega)) ?_
  rintro _ _ ⟨q, rfl, rfl⟩
  refine W.eqv [55, 59, 63, 67, 72, 76, 81, 86, 91] 76 #[.int .i64 1, .int .i64 1] 3 (by kernel_rfl) (by omega) (by kernel_rfl) (by kernel_rfl) (by kernel_rfl) (by kernel_rfl) ?_
  refine W.eqv [55, 59, 63, 67, 72, 76, 81, 86, 91] 76 #[.int .i64 1, .int .i64 3] 3 (by kernel_rfl) (by omega) (by kernel_rfl) (by kernel_rfl) (by kernel_rfl) (by kernel_rfl) ?_
  refine W.cl [55, 59, 63, 67, 72, 76, 81, 86, 91] (by kernel_rfl) (p_ooct (ox1.then ox7).f (ox1.then ox7).o q.g q.a q.b q.c q.d) ?_
  rintro _ _ ⟨rfl, rfl⟩
  refine W.cl [55, 59, 63, 67, 72, 76, 81, 86, 91] (by kernel_rfl) (p_oflip (ox1.then ox7).f (ox1.then ox7).o q.g q.a q.b q.c q.d) ?_
  rintro _ _ ⟨rfl, rfl⟩
  refine W.cx [55, 59, 63, 67, 72, 76, 81, 86, 91] (Γ' := [QG q.g (5 * 2 + 4 * 2 + 300, (ox1.then ox7).g)]) (by kernel_rfl) (fun I w _ hh => holds1 (Has.p (k := OF q) (a := (5 * 2 + 4 * 2 + 300, ox1.then ox7)) inferInstance hh).1) (p_omag (ox1.then ox7).f (ox1.then ox7).o q.g q.a q.b q.c q.d (V := ox1.then ox7)) ?_
  rintro _ _ ⟨g15, rfl, rfl⟩
  refine W.cl [55, 59, 63, 67, 72, 76, 81, 86, 91] (by kernel_rfl) (p_qcmp g15.n g15.a g15.m g15.b n2 a2 m2 b2) ?_
  rintro _ _ ⟨rfl, rfl⟩
  exact W.r [55, 59, 63, 67, 72, 76, 81, 86, 91] (.bool (cmpQ (ox1.then ox7).mag ((1 : Int) : Rat) == 0)) (by kernel_rfl) ⟨congrArg _ (by decide +kernel), rfl⟩ ent0

theorem r2_ext {x x' y y' : Rat} (h1 : x = x') (h2 : y = y') : r2 x y = r2 x' y' := by rw [h1, h2]
/-- The turn that does nothing. -/
def ox0 : On := ⟨false, 0, 0, 0, 0, 0, 0⟩
theorem ox0_at (x y : Rat) : r2 (ox0.u0 x 0 y 0) (ox0.u1 x 0 y 0) = r2 x 0 ∧ r2 (ox0.v0 x 0 y 0) (ox0.v1 x 0 y 0) = r2 y 0 := by
  have hm : ox0.mag = 1 := by decide +kernel
  have hf : ∀ z, ox0.sg z = z := fun z => rfl
  have e1 : pc ox0.o = 1 := by decide
  have e2 : ps ox0.o = 0 := by decide
  have e3 : pcr ox0.o = 0 := by decide
  have e4 : psr ox0.o = 0 := by decide
  have h0 : Rat.divInt 0 2 = 0 := by decide +kernel
  have c1 : ((1 : Int) : Rat) = 1 := rfl
  have c0 : ((0 : Int) : Rat) = 0 := rfl
  have ha : ox0.a = 0 := rfl
  have hb : ox0.b = 0 := rfl
  have hc : ox0.c = 0 := rfl
  have hd : ox0.d = 0 := rfl
  refine ⟨r2_ext ?_ ?_, r2_ext ?_ ?_⟩
  · simp only [On.u0, tm1, hm, hf, e1, e2, e3, e4, c1, c0, ha]; grind
  · simp only [On.u1, tm2, hm, hf, e1, e2, e3, e4, h0, c1, c0, hb]; grind
  · simp only [On.v0, tm1, hm, hf, e1, e2, e3, e4, c1, c0, hc]; grind
  · simp only [On.v1, tm2, hm, hf, e1, e2, e3, e4, h0, c1, c0, hd]; grind
end
end Go.Proofs.YtabpaiboodllbaaGreat
