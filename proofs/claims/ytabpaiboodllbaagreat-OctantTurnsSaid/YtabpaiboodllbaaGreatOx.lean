
/- Places of whichever field, as numbers of root 2's field. -/
import Derived.Test.YtabpaiboodllbaaGreatOt
set_option linter.unusedSimpArgs false
set_option linter.unusedVariables false
namespace Go.Proofs.YtabpaiboodllbaaGreat
open Go.RowKit Go.IntWalk

def rt0 (n : Int) : Rat := if n = 2 then 0 else (n : Rat)
def rt1 (n : Int) : Rat := if n = 2 then 1 else 0
def nm0 (a b c d : Rat) : Rat := a * c + (2 : Int) * b * d
def nm1 (a b c d : Rat) : Rat := a * d + b * c
/-- A number whose radicands are 0, 1, 2, by parts of 1 and root 2. -/
def Sn.n0 (S : Sn) : Rat := 0 + nm0 S.p 0 (1 : Int) 0 + nm0 S.q 0 (rt0 S.m) (rt1 S.m) + nm0 S.r 0 (rt0 S.n) (rt1 S.n) + nm0 S.s 0 (nm0 (rt0 S.m) (rt1 S.m) (rt0 S.n) (rt1 S.n)) (nm1 (rt0 S.m) (rt1 S.m) (rt0 S.n) (rt1 S.n))
def Sn.n1 (S : Sn) : Rat := 0 + nm1 S.p 0 (1 : Int) 0 + nm1 S.q 0 (rt0 S.m) (rt1 S.m) + nm1 S.r 0 (rt0 S.n) (rt1 S.n) + nm1 S.s 0 (nm0 (rt0 S.m) (rt1 S.m) (rt0 S.n) (rt1 S.n)) (nm1 (rt0 S.m) (rt1 S.m) (rt0 S.n) (rt1 S.n))
theorem r2_n (x y : Rat) : (r2 x y).n0 = x ∧ (r2 x y).n1 = y := by
  have a0 : rt0 (r2 x y).m = 0 := rfl
  have a1 : rt1 (r2 x y).m = 1 := rfl
  have b0 : rt0 (r2 x y).n = 0 := rfl
  have b1 : rt1 (r2 x y).n = 0 := rfl
  have c1 : ((1 : Int) : Rat) = 1 := rfl
  have c2 : ((2 : Int) : Rat) = 2 := rfl
  unfold Sn.n0 Sn.n1
  rw [a0, a1, b0, b1]
  unfold nm0 nm1 r2
  simp only [c1, c2]
  constructor <;> grind
section
variable {fin : VS → List Fact → Prop} {Γ : List Fact} {L M K : Nat}
theorem p_olike (x y : Sw) {X Y : Sn} [Has (SF x) (L, X) Γ] [Has (SF y) (M, Y) Γ] (em : X.m = Y.m) (en : X.n = Y.n) (hL : L ≤ 100000 := by omega) (hM : M ≤ 100000 := by omega) :
    PCalls tb Tryz.prog 106 [plv x y] Γ (IsV (.bool true)) := by
  refine PCalls.of_W tbOk Tryz.func106 rfl (by kernel_rfl) ?_
  refine W.cl [] (by kernel_rfl) (p_xsub x y em en) ?_
  rintro _ _ ⟨X1, rfl, rfl⟩
  exact W.r [] (.bool (0 == 0)) (by kernel_rfl) ⟨rfl, rfl⟩ ent0
theorem p_olikeF (x y : Sw) {X Y : Sn} [Has (SF x) (L, X) Γ] [Has (SF y) (M, Y) Γ] (hu : ¬ (X.m = Y.m ∧ X.n = Y.n)) (hL : L ≤ 100000 := by omega) (hM : M ≤ 100000 := by omega) :
    PCalls tb Tryz.prog 106 [plv x y] Γ (IsV (.bool false)) := by
  refine PCalls.of_W tbOk Tryz.func106 rfl (by kernel_rfl) ?_
  refine W.cl [] (by kernel_rfl) (p_xsubE x y hu) ?_
  rintro _ _ ⟨rfl, rfl⟩
  exact W.r [] (.bool (6 == 0)) (by kernel_rfl) ⟨rfl, rfl⟩ ent0
theorem p_oroot (u : Sl) (d : Bool) {n : Int} [Has (ZF u d) (L, n) Γ] (hn : 0 ≤ n ∧ n ≤ 2) (hL : L ≤ 1000000 := by omega) :
    PCalls tb Tryz.prog 152 [zv u d] Γ (fun v Δ => ∃ a b : Qw, v = .tuple #[q2v a b, .bool true] ∧ Δ = [QG a (2, rt0 n), QG b (2, rt1 n)]) := by
  have hs : small n = true := by unfold small; simp only [Bool.and_eq_true, decide_eq_true_eq]; omega
  refine PCalls.of_W tbOk Tryz.func152 rfl (by kernel_rfl) ?_
  refine W.more rfl (entQ0 (L' := 0)) ?_
  refine W.cl [] (by kernel_rfl) (p_zsmallT u d hs) ?_
  rintro _ _ ⟨rfl, rfl⟩
  refine W.df [] 14 (!true) (by kernel_rfl) rfl ?_
  refine W.df [14] 11 (decide (n > 2)) (by kernel_rfl) (by rw [decide_eq_false_iff_not]; omega) ?_
  by_cases h2 : n = 2
  · refine W.dt [11] 19 (n == 2) (by kernel_rfl) (by rw [h2]; rfl) ?_
    refine W.cl [19] (by kernel_rfl) (p_owhole 1 (by omega) (by omega)) ?_
    rintro _ _ ⟨n2, a2, m2, b2, rfl, rfl⟩
    exact W.r [] (.tuple #[q2v nilQ ⟨n2, a2, m2, b2⟩, .bool true]) (by kernel_rfl) ⟨_, _, rfl, rfl⟩ (entG2 (by omega) (by unfold rt0; rw [if_pos h2]) (by unfold rt1; rw [if_pos h2]; rfl))
  · refine W.df [11] 19 (n == 2) (by kernel_rfl) (by rw [beq_eq_false_iff_ne]; exact h2) ?_
    refine W.cl [19] (by kernel_rfl) (p_owhole n (by omega) (by omega)) ?_
    rintro _ _ ⟨n3, a3, m3, b3, rfl, rfl⟩
    exact W.r [] (.tuple #[q2v ⟨n3, a3, m3, b3⟩ nilQ, .bool true]) (by kernel_rfl) ⟨_, _, rfl, rfl⟩ (entG2 (by omega) (by unfold rt0; rw [if_neg h2]) (by unfold rt1; rw [if_neg h2]))
theorem p_orootF (u : Sl) (d : Bool) {n : Int} [Has (ZF u d) (L, n) Γ] (hn : 2 < n) (hL : L ≤ 1000000 := by omega) :
    PCalls tb Tryz.prog 152 [zv u d] Γ (IsV (.tuple #[q2v nilQ nilQ, .bool false])) := by
  refine PCalls.of_W tbOk Tryz.func152 rfl (by kernel_rfl) ?_
  refine W.cl [] (by kernel_rfl) (p_zsmall u d) ?_
  rintro _ _ ⟨rfl, rfl⟩
  by_cases hs : small n = true
  · refine W.df [] 14 (!(small n)) (by kernel_rfl) (by rw [hs]; rfl) ?_
    refine W.dt [14] 11 (decide ((if small n = true then n else 0) > 2)) (by kernel_rfl) (by rw [if_pos hs, decide_eq_true_iff]; omega) ?_
    exact W.r [11] (.tuple #[q2v nilQ nilQ, .bool false]) (by kernel_rfl) ⟨rfl, rfl⟩ ent0
  · refine W.dt [] 14 (!(small n)) (by kernel_rfl) (by rw [Bool.eq_false_iff.2 hs]; rfl) ?_
    exact W.r [11, 14] (.tuple #[q2v nilQ nilQ, .bool false]) (by kernel_rfl) ⟨rfl, rfl⟩ ent0
theorem p_onmul (a b c d : Qw) {x y z w : Rat} {L1 L2 L3 L4 : Nat} [Has (QG a) (L1, x) Γ] [Has (QG b) (L2, y) Γ] [Has (QG c) (L3, z) Γ] [Has (QG d) (L4, w) Γ] (hL : L1 ≤ 100000 ∧ L2 ≤ 100000 ∧ L3 ≤ 100000 ∧ L4 ≤ 100000 := by omega) :
    PCalls tb Tryz.prog 153 [q2v a b, q2v c d] Γ (Q2Post (L1 + L2 + L3 + L4 + 25) (nm0 x y z w) (nm1 x y z w)) := by
  refine PCalls.of_W tbOk Tryz.func153 rfl (by kernel_rfl) ?_
  refine W.cl [] (by kernel_rfl) (p_qmul a.n a.a a.m a.b c.n c.a c.m c.b) ?_
  rintro _ _ ⟨n1, a1, m1, b1, rfl, rfl⟩   -- (?a.n * ?c.n)
  refine W.cl [] (by kernel_rfl) (p_owhole 2 (by omega) (by omega)) ?_
  rintro _ _ ⟨n2, a2, m2, b2, rfl, rfl⟩   -- (2 : Rat)
  refine W.cl [] (by kernel_rfl) (p_qmul n2 a2 m2 b2 b.n b.a b.m b.b) ?_
  rintro _ _ ⟨n3, a3, m3, b3, rfl, rfl⟩   -- ((2 : Rat) * ?b.n)
  refine W.cl [] (by kernel_rfl) (p_qmul n3 a3 m3 b3 d.n d.a d.m d.b) ?_
  rintro _ _ ⟨n4, a4, m4, b4, rfl, rfl⟩   -- (((2 : Rat) * ?b.n) * ?d.n)
  refine W.cl [] (by kernel_rfl) (p_qadd n1 a1 m1 b1 n4 a4 m4 b4) ?_
  rintro _ _ ⟨n5, a5, m5, b5, rfl, rfl⟩   -- ((?a.n * ?c.n) + (((2 : Rat) * ?b.n) * ?d.n))
  refine W.cl [] (by kernel_rfl) (p_qmul a.n a.a a.m a.b d.n d.a d.m d.b) ?_
  rintro _ _ ⟨n6, a6, m6, b6, rfl, rfl⟩   -- (?a.n * ?d.n)
  refine W.cl [] (by kernel_rfl) (p_qmul b.n b.a b.m b.b c.n c.a c.m c.b) ?_
  rintro _ _ ⟨n7, a7, m7, b7, rfl, rfl⟩   -- (?b.n * ?c.n)
  refine W.cl [] (by kernel_rfl) (p_qadd n6 a6 m6 b6 n7 a7 m7 b7) ?_
  rintro _ _ ⟨n8, a8, m8, b8, rfl, rfl⟩   -- ((?a.n * ?d.n) + (?b.n * ?c.n))
  exact W.r [] (q2v ⟨n5, a5, m5, b5⟩ ⟨n8, a8, m8, b8⟩) (by kernel_rfl) ⟨_, _, rfl, rfl⟩ (entG2 (by omega) rfl rfl)
set_option maxHeartbeats 4000000 in
theorem p_onarrow (x : Sw) {S : Sn} [Has (SF x) (L, S) Γ] (hm : 0 ≤ S.m ∧ S.m ≤ 2) (hn : 0 ≤ S.n ∧ S.n ≤ 2) (hL : L ≤ 20000 := by omega) :
    PCalls tb Tryz.prog 107 [sv x] Γ (fun v Δ => ∃ a b : Qw, v = .tuple #[q2v a b, .bool true] ∧ Δ = [QG a (4 * L + 200, S.n0), QG b (4 * L + 200, S.n1)]) := by
  refine PCalls.of_W tbOk Tryz.func107 rfl (by kernel_rfl) ?_
  refine W.more rfl (entQ0 (L' := 0)) ?_
  refine W.sf x rfl ?_
  refine W.cl [] (by kernel_rfl) (p_xfield x) ?_
  rintro _ _ ⟨rfl, rfl⟩   -- 
  refine W.cl [] (by kernel_rfl) (p_oroot x.u x.d hm) ?_
  rintro _ _ ⟨a2, b2, rfl, rfl⟩
  refine W.cl [] (by kernel_rfl) (p_oroot x.v x.e hn) ?_
  rintro _ _ ⟨a3, b3, rfl, rfl⟩
  refine W.df [] 31 (!true) (by kernel_rfl) rfl ?_
  refine W.df [31] 34 (!true) (by kernel_rfl) rfl ?_
  refine W.cl [34] (by kernel_rfl) (p_owhole 1 (by omega) (by omega)) ?_
  rintro _ _ ⟨n4, a4, m4, b4, rfl, rfl⟩   -- (1 : Rat)
  refine W.cl [] (by kernel_rfl) (p_onmul a2 b2 a3 b3) ?_
  rintro _ _ ⟨a5, b5, rfl, rfl⟩
  refine W.unr [] 6 (by kernel_rfl) ?_
  refine W.cl [46] (by kernel_rfl) (p_xparts x) ?_
  rintro _ _ ⟨rfl, rfl⟩
  refine W.cl [] (by kernel_rfl) (p_onmul x.p nilQ ⟨n4, a4, m4, b4⟩ nilQ) ?_
  rintro _ _ ⟨a7, b7, rfl, rfl⟩
  refine W.cl [] (by kernel_rfl) (p_osum nilQ nilQ a7 b7) ?_
  rintro _ _ ⟨a8, b8, rfl, rfl⟩
  refine W.cl [46] (by kernel_rfl) (p_xparts x) ?_
  rintro _ _ ⟨rfl, rfl⟩
  refine W.cl [] (by kernel_rfl) (p_onmul x.q nilQ a2 b2) ?_
  rintro _ _ ⟨a10, b10, rfl, rfl⟩
  refine W.cl [] (by kernel_rfl) (p_osum a8 b8 a10 b10) ?_
  rintro _ _ ⟨a11, b11, rfl, rfl⟩
  refine W.cl [46] (by kernel_rfl) (p_xparts x) ?_
  rintro _ _ ⟨rfl, rfl⟩
  refine W.cl [] (by kernel_rfl) (p_onmul x.r nilQ a3 b3) ?_
  rintro _ _ ⟨a13, b13, rfl, rfl⟩
  refine W.cl [] (by kernel_rfl) (p_osum a11 b11 a13 b13) ?_
  rintro _ _ ⟨a14, b14, rfl, rfl⟩
  refine W.cl [46] (by kernel_rfl) (p_xparts x) ?_
  rintro _ _ ⟨rfl, rfl⟩
  refine W.cl [] (by kernel_rfl) (p_onmul x.s nilQ a5 b5) ?_
  rintro _ _ ⟨a16, b16, rfl, rfl⟩
  refine W.cl [] (by kernel_rfl) (p_osum a14 b14 a16 b16) ?_
  rintro _ _ ⟨a17, b17, rfl, rfl⟩
  exact W.r [46] (.tuple #[q2v a17 b17, .bool true]) (by kernel_rfl) ⟨_, _, rfl, rfl⟩ (entG2 (by omega) rfl rfl)
theorem p_onarrowF (x : Sw) {S : Sn} [Has (SF x) (L, S) Γ] (h0 : 0 ≤ S.m ∧ 0 ≤ S.n) (hmn : 2 < S.m ∨ 2 < S.n) (hL : L ≤ 20000 := by omega) :
    PCalls tb Tryz.prog 107 [sv x] Γ (IsV (.tuple #[q2v nilQ nilQ, .bool false])) := by
  refine PCalls.of_W tbOk Tryz.func107 rfl (by kernel_rfl) ?_
  refine W.sf x rfl ?_
  refine W.cl [] (by kernel_rfl) (p_xfield x) ?_
  rintro _ _ ⟨rfl, rfl⟩
  by_cases hm : 2 < S.m
  · refine W.cl [] (by kernel_rfl) (p_orootF x.u x.d hm) ?_
    rintro _ _ ⟨rfl, rfl⟩
    by_cases hn : 2 < S.n
    · refine W.cl [] (by kernel_rfl) (p_orootF x.v x.e hn) ?_
      rintro _ _ ⟨rfl, rfl⟩
      refine W.dt [] 31 (!false) (by kernel_rfl) rfl ?_
      exact W.r [34, 31] (.tuple #[q2v nilQ nilQ, .bool false]) (by kernel_rfl) ⟨rfl, rfl⟩ ent0
    · refine W.cl [] (by kernel_rfl) (p_oroot x.v x.e ⟨h0.2, by omega⟩) ?_
      rintro _ _ ⟨a3, b3, rfl, rfl⟩
      refine W.dt [] 31 (!false) (by kernel_rfl) rfl ?_
      exact W.r [34, 31] (.tuple #[q2v nilQ nilQ, .bool false]) (by kernel_rfl) ⟨rfl, rfl⟩ ent0
  · have hn : 2 < S.n := by omega
    refine W.cl [] (by kernel_rfl) (p_oroot x.u x.d ⟨h0.1, by omega⟩) ?_
    rintro _ _ ⟨a2, b2, rfl, rfl⟩
    refine W.cl [] (by kernel_rfl) (p_orootF x.v x.e hn) ?_
    rintro _ _ ⟨rfl, rfl⟩
    refine W.df [] 31 (!true) (by kernel_rfl) rfl ?_
    refine W.dt [31] 34 (!false) (by kernel_rfl) rfl ?_
    exact W.r [34] (.tuple #[q2v nilQ nilQ, .bool false]) (by kernel_rfl) ⟨rfl, rfl⟩ ent0
def FarPost (L : Nat) (X Y : Sn) (v : Value) (Δ : List Fact) : Prop := ∃ x y : Sw, v = .tuple #[plv x y, .int .i64 0] ∧ Δ = [SF x (L, X), SF y (L, Y)]
set_option maxHeartbeats 4000000 in
theorem p_ofarS (V : On) (t : Q5) (x y : Sw) {X Y : Sn} {L1 : Nat} [Has (OF t) (L1, V) Γ] [Has (SF x) (L, X) Γ] [Has (SF y) (M, Y) Γ] (ho : 0 ≤ V.o ∧ V.o ≤ 7) (em : X.m = Y.m) (en : X.n = Y.n) (hm : 0 ≤ X.m ∧ X.m ≤ 2) (hn : 0 ≤ X.n ∧ X.n ≤ 2) (hL : L ≤ 2000 ∧ M ≤ 2000 ∧ L1 ≤ 10000 := by omega) :
    PCalls tb Tryz.prog 52 [otv V t, plv x y] Γ (FarPost (5 * L1 + 16 * max L M + 1100) (r2 (V.u0 X.n0 X.n1 Y.n0 Y.n1) (V.u1 X.n0 X.n1 Y.n0 Y.n1)) (r2 (V.v0 X.n0 X.n1 Y.n0 Y.n1) (V.v1 X.n0 X.n1 Y.n0 Y.n1))) := by
  refine PCalls.of_W tbOk Tryz.func52 rfl (by kernel_rfl) ?_
  refine W.cl [] (by kernel_rfl) (p_olike x y em en) ?_
  rintro _ _ ⟨rfl, rfl⟩
  refine W.df [] 24 (!true) (by kernel_rfl) rfl ?_
  refine W.cl [24] (by kernel_rfl) (p_onarrow x hm hn) ?_
  rintro _ _ ⟨a2, b2, rfl, rfl⟩
  refine W.dt [] 32 (true) (by kernel_rfl) rfl ?_
  refine W.cl [32] (by kernel_rfl) (p_onarrow y (em ▸ hm) (en ▸ hn)) ?_
  rintro _ _ ⟨a3, b3, rfl, rfl⟩
  refine W.cl [] (by kernel_rfl) (p_olead V t a2 b2 a3 b3 ho) ?_
  rintro _ _ ⟨a4, b4, c4, d4, rfl, rfl⟩
  refine W.cl [] (by kernel_rfl) (p_otwo) ?_
  rintro _ _ ⟨u5, d5, rfl, rfl⟩   -- 
  refine W.cl [] (by kernel_rfl) (p_onumber u5 d5 ⟨none, 0, 0⟩ false a4 b4 (by omega) (by omega)) ?_
  rintro _ _ ⟨X6, rfl, rfl⟩
  refine W.cl [] (by kernel_rfl) (p_onumber u5 d5 ⟨none, 0, 0⟩ false c4 d4 (by omega) (by omega)) ?_
  rintro _ _ ⟨X7, rfl, rfl⟩
  exact W.r [] (.tuple #[plv X6 X7, .int .i64 0]) (by kernel_rfl) ⟨_, _, rfl, rfl⟩ (entPl (by omega) rfl rfl)
end
end Go.Proofs.YtabpaiboodllbaaGreat
