
/- The contracts of surd. -/
import Derived.Test.YtabpaiboodllbaaGreatSm
set_option linter.unusedSimpArgs false
set_option linter.unusedVariables false
namespace Go.Proofs.YtabpaiboodllbaaGreat
open Go.RowKit Go.IntWalk

def Tri (z : Int) : Prop := z = -1 ∨ z = 0 ∨ z = 1
theorem wrap3 {a b : Int} (ha : Tri a) (hb : Tri b) : IntKind.i64.wrap (a * b) = a * b := by
  rcases ha with rfl | rfl | rfl <;> rcases hb with rfl | rfl | rfl <;> rfl
theorem sign3 (z : Int) : Tri z.sign := by
  unfold Tri
  rcases Int.lt_trichotomy z 0 with h | h | h
  · exact .inl (Int.sign_eq_neg_one_of_neg h)
  · subst h; exact .inr (.inl rfl)
  · exact .inr (.inr (Int.sign_eq_one_of_pos h))
theorem cmpQ3 (a b : Rat) : Tri (cmpQ a b) := by unfold Tri cmpQ; grind
theorem tri_mul {a b : Int} (ha : Tri a) (hb : Tri b) : Tri (a * b) := by
  rcases ha with rfl | rfl | rfl <;> rcases hb with rfl | rfl | rfl <;> unfold Tri <;> decide
theorem sg1_3 (x y : Rat) (m : Int) : Tri (sg1 x y m) := by
  unfold sg1
  have h1 := sign3 x.num
  have h2 := sign3 y.num
  have h3 := tri_mul h1 (cmpQ3 (x * x) (y * y * m))
  have h0 : Tri 0 := .inr (.inl rfl)
  simp only
  (repeat' split) <;> assumption

section
variable {fin : VS → List Fact → Prop} {Γ : List Fact} {L M K : Nat}
theorem p_xfield (x : Sw) :
    PCalls tb Tryz.prog 55 [sv x] Γ (IsV (.tuple #[zv x.u x.d, zv x.v x.e])) := by
  refine PCalls.of_W tbOk Tryz.func55 rfl (by kernel_rfl) ?_
  exact W.r [] (.tuple #[zv x.u x.d, zv x.v x.e]) (by kernel_rfl) ⟨rfl, rfl⟩ ent0
theorem p_xparts (x : Sw) :
    PCalls tb Tryz.prog 53 [sv x] Γ (IsV (ptv x)) := by
  refine PCalls.of_W tbOk Tryz.func53 rfl (by kernel_rfl) ?_
  exact W.r [] (ptv x) (by kernel_rfl) ⟨rfl, rfl⟩ ent0
theorem p_xlike (x : Sw) {S : Sn} [Has (SF x) (L, S) Γ] (y : Sw) {T : Sn} [Has (SF y) (M, T) Γ] (hm : S.m = T.m) (hn : S.n = T.n) (hL : L ≤ 100000 := by omega) (hM : M ≤ 100000 := by omega) :
    PCalls tb Tryz.prog 99 [sv x, sv y] Γ (IsV (.bool true)) := by
  refine PCalls.of_W tbOk Tryz.func99 rfl (by kernel_rfl) ?_
  refine W.sf x rfl ?_
  refine W.sf y rfl ?_
  refine W.cl [] (by kernel_rfl) (p_zcmp x.u x.d y.u y.d) ?_
  rintro _ _ ⟨rfl, rfl⟩
  refine W.dt [] 13 ((cmpZ S.m T.m) == 0) (by kernel_rfl) (by rw [beq_iff_eq, cmpZ_eq]; exact hm) ?_
  refine W.cl [13] (by kernel_rfl) (p_zcmp x.v x.e y.v y.e) ?_
  rintro _ _ ⟨rfl, rfl⟩
  exact W.r [13] (.bool ((cmpZ S.n T.n) == 0)) (by kernel_rfl) ⟨by rw [cmpZ_eq.2 hn]; rfl, rfl⟩ ent0
theorem p_xlikeM (x : Sw) {S : Sn} [Has (SF x) (L, S) Γ] (y : Sw) {T : Sn} [Has (SF y) (M, T) Γ] (hm : S.m ≠ T.m) (hL : L ≤ 100000 := by omega) (hM : M ≤ 100000 := by omega) :
    PCalls tb Tryz.prog 99 [sv x, sv y] Γ (IsV (.bool false)) := by
  refine PCalls.of_W tbOk Tryz.func99 rfl (by kernel_rfl) ?_
  refine W.sf x rfl ?_
  refine W.sf y rfl ?_
  refine W.cl [] (by kernel_rfl) (p_zcmp x.u x.d y.u y.d) ?_
  rintro _ _ ⟨rfl, rfl⟩
  refine W.df [] 13 ((cmpZ S.m T.m) == 0) (by kernel_rfl) (by rw [beq_eq_false_iff_ne, ne_eq, cmpZ_eq]; exact hm) ?_
  exact W.r [13] (.bool false) (by kernel_rfl) ⟨rfl, rfl⟩ ent0
theorem p_xlikeN (x : Sw) {S : Sn} [Has (SF x) (L, S) Γ] (y : Sw) {T : Sn} [Has (SF y) (M, T) Γ] (hm : S.m = T.m) (hn : S.n ≠ T.n) (hL : L ≤ 100000 := by omega) (hM : M ≤ 100000 := by omega) :
    PCalls tb Tryz.prog 99 [sv x, sv y] Γ (IsV (.bool false)) := by
  refine PCalls.of_W tbOk Tryz.func99 rfl (by kernel_rfl) ?_
  refine W.sf x rfl ?_
  refine W.sf y rfl ?_
  refine W.cl [] (by kernel_rfl) (p_zcmp x.u x.d y.u y.d) ?_
  rintro _ _ ⟨rfl, rfl⟩
  refine W.dt [] 13 ((cmpZ S.m T.m) == 0) (by kernel_rfl) (by rw [beq_iff_eq, cmpZ_eq]; exact hm) ?_
  refine W.cl [13] (by kernel_rfl) (p_zcmp x.v x.e y.v y.e) ?_
  rintro _ _ ⟨rfl, rfl⟩
  exact W.r [13] (.bool ((cmpZ S.n T.n) == 0)) (by kernel_rfl) ⟨by rw [beq_eq_false_iff_ne.2 (fun h => hn (cmpZ_eq.1 h))], rfl⟩ ent0
theorem p_xlikeF (x : Sw) (y : Sw) {S T : Sn} [h1 : Has (SF x) (L, S) Γ] [h2 : Has (SF y) (M, T) Γ] (hu : ¬ (S.m = T.m ∧ S.n = T.n)) (hL : L ≤ 100000 := by omega) (hM : M ≤ 100000 := by omega) :
    PCalls tb Tryz.prog 99 [sv x, sv y] Γ (IsV (.bool false)) := by
  by_cases hm : S.m = T.m
  · exact p_xlikeN x y hm (fun h => hu ⟨hm, h⟩)
  · exact p_xlikeM x y hm
theorem p_xneg (x : Sw) {S : Sn} [Has (SF x) (L, S) Γ] (hL : L ≤ 100000 := by omega) :
    PCalls tb Tryz.prog 98 [sv x] Γ (SPost L S.neg) := by
  refine PCalls.of_W tbOk Tryz.func98 rfl (by kernel_rfl) ?_
  refine W.sf x rfl ?_
  refine W.unr [] 6 (by kernel_rfl) ?_
  refine W.cl [8] (by kernel_rfl) (p_qneg x.p.n x.p.a x.p.m x.p.b) ?_
  rintro _ _ ⟨n1, a1, m1, b1, rfl, rfl⟩   -- (-S.p)
  refine W.cl [8] (by kernel_rfl) (p_qneg x.q.n x.q.a x.q.m x.q.b) ?_
  rintro _ _ ⟨n2, a2, m2, b2, rfl, rfl⟩   -- (-S.q)
  refine W.cl [8] (by kernel_rfl) (p_qneg x.r.n x.r.a x.r.m x.r.b) ?_
  rintro _ _ ⟨n3, a3, m3, b3, rfl, rfl⟩   -- (-S.r)
  refine W.cl [8] (by kernel_rfl) (p_qneg x.s.n x.s.a x.s.m x.s.b) ?_
  rintro _ _ ⟨n4, a4, m4, b4, rfl, rfl⟩   -- (-S.s)
  exact W.r [8] (sv ⟨x.u, x.d, x.v, x.e, ⟨n1, a1, m1, b1⟩, ⟨n2, a2, m2, b2⟩, ⟨n3, a3, m3, b3⟩, ⟨n4, a4, m4, b4⟩⟩) (by kernel_rfl) ⟨_, rfl, rfl⟩ (entS rfl rfl rfl rfl rfl rfl (by omega))
theorem p_xadd (x : Sw) {S : Sn} [Has (SF x) (L, S) Γ] (y : Sw) {T : Sn} [Has (SF y) (M, T) Γ] (hm : S.m = T.m) (hn : S.n = T.n) (hL : L ≤ 100000 := by omega) (hM : M ≤ 100000 := by omega) :
    PCalls tb Tryz.prog 36 [sv x, sv y] Γ (SOk (L + M + 5) (S.add T)) := by
  refine PCalls.of_W tbOk Tryz.func36 rfl (by kernel_rfl) ?_
  refine W.sf x rfl ?_
  refine W.sf y rfl ?_
  refine W.cl [] (by kernel_rfl) (p_xlike x y hm hn) ?_
  rintro _ _ ⟨rfl, rfl⟩
  refine W.unr [11] 6 (by kernel_rfl) ?_
  refine W.cl [16] (by kernel_rfl) (p_qadd x.p.n x.p.a x.p.m x.p.b y.p.n y.p.a y.p.m y.p.b) ?_
  rintro _ _ ⟨n2, a2, m2, b2, rfl, rfl⟩   -- (S.p + T.p)
  refine W.cl [16] (by kernel_rfl) (p_qadd x.q.n x.q.a x.q.m x.q.b y.q.n y.q.a y.q.m y.q.b) ?_
  rintro _ _ ⟨n3, a3, m3, b3, rfl, rfl⟩   -- (S.q + T.q)
  refine W.cl [16] (by kernel_rfl) (p_qadd x.r.n x.r.a x.r.m x.r.b y.r.n y.r.a y.r.m y.r.b) ?_
  rintro _ _ ⟨n4, a4, m4, b4, rfl, rfl⟩   -- (S.r + T.r)
  refine W.cl [16] (by kernel_rfl) (p_qadd x.s.n x.s.a x.s.m x.s.b y.s.n y.s.a y.s.m y.s.b) ?_
  rintro _ _ ⟨n5, a5, m5, b5, rfl, rfl⟩   -- (S.s + T.s)
  exact W.r [16] (.tuple #[sv ⟨x.u, x.d, x.v, x.e, ⟨n2, a2, m2, b2⟩, ⟨n3, a3, m3, b3⟩, ⟨n4, a4, m4, b4⟩, ⟨n5, a5, m5, b5⟩⟩, .int .i64 0]) (by kernel_rfl) ⟨_, rfl, rfl⟩ (entS rfl rfl rfl rfl rfl rfl (by omega))
theorem p_xaddE (x : Sw) {S : Sn} [Has (SF x) (L, S) Γ] (y : Sw) {T : Sn} [Has (SF y) (M, T) Γ] (hu : ¬ (S.m = T.m ∧ S.n = T.n)) (hL : L ≤ 100000 := by omega) (hM : M ≤ 100000 := by omega) :
    PCalls tb Tryz.prog 36 [sv x, sv y] Γ (IsV (.tuple #[sv nilS, .int .i64 6])) := by
  refine PCalls.of_W tbOk Tryz.func36 rfl (by kernel_rfl) ?_
  refine W.cl [] (by kernel_rfl) (p_xlikeF x y hu) ?_
  rintro _ _ ⟨rfl, rfl⟩
  exact W.r [11] (.tuple #[sv ⟨⟨none, 0, 0⟩, false, ⟨none, 0, 0⟩, false, ⟨⟨none, 0, 0⟩, false, ⟨none, 0, 0⟩, false⟩, ⟨⟨none, 0, 0⟩, false, ⟨none, 0, 0⟩, false⟩, ⟨⟨none, 0, 0⟩, false, ⟨none, 0, 0⟩, false⟩, ⟨⟨none, 0, 0⟩, false, ⟨none, 0, 0⟩, false⟩⟩, .int .i64 6]) (by kernel_rfl) ⟨rfl, rfl⟩ ent0
theorem p_xsub (x : Sw) {S : Sn} [Has (SF x) (L, S) Γ] (y : Sw) {T : Sn} [Has (SF y) (M, T) Γ] (hm : S.m = T.m) (hn : S.n = T.n) (hL : L ≤ 100000 := by omega) (hM : M ≤ 100000 := by omega) :
    PCalls tb Tryz.prog 34 [sv x, sv y] Γ (SOk (L + M + 5) (S.sub T)) := by
  refine PCalls.of_W tbOk Tryz.func34 rfl (by kernel_rfl) ?_
  refine W.cl [] (by kernel_rfl) (p_xneg y) ?_
  rintro _ _ ⟨X1, rfl, rfl⟩   -- (T.neg)
  refine W.cl [] (by kernel_rfl) (p_xadd x X1 (by exact hm) (by exact hn)) ?_
  rintro _ _ ⟨X2, rfl, rfl⟩   -- (S.add (T.neg))
  exact W.r [] (.tuple #[sv X2, .int .i64 0]) (by kernel_rfl) ⟨_, rfl, rfl⟩ (entS' (by omega) (Sn.sub_eq _ _))
theorem p_xsubE (x : Sw) {S : Sn} [Has (SF x) (L, S) Γ] (y : Sw) {T : Sn} [Has (SF y) (M, T) Γ] (hu : ¬ (S.m = T.m ∧ S.n = T.n)) (hL : L ≤ 100000 := by omega) (hM : M ≤ 100000 := by omega) :
    PCalls tb Tryz.prog 34 [sv x, sv y] Γ (IsV (.tuple #[sv nilS, .int .i64 6])) := by
  refine PCalls.of_W tbOk Tryz.func34 rfl (by kernel_rfl) ?_
  refine W.cl [] (by kernel_rfl) (p_xneg y) ?_
  rintro _ _ ⟨X1, rfl, rfl⟩   -- (T.neg)
  refine W.cl [] (by kernel_rfl) (p_xaddE x X1 (by exact hu)) ?_
  rintro _ _ ⟨rfl, rfl⟩
  exact W.r [] (.tuple #[sv nilS, .int .i64 6]) (by kernel_rfl) ⟨rfl, rfl⟩ ent0
set_option maxHeartbeats 4000000 in
theorem p_xmul (x : Sw) {S : Sn} [Has (SF x) (L, S) Γ] (y : Sw) {T : Sn} [Has (SF y) (M, T) Γ] (hm : S.m = T.m) (hn : S.n = T.n) (hL : L ≤ 100000 := by omega) (hM : M ≤ 100000 := by omega) :
    PCalls tb Tryz.prog 35 [sv x, sv y] Γ (SOk (4 * L + 4 * M + 8 * max L 2 + 200) (S.mul T)) := by
  refine PCalls.of_W tbOk Tryz.func35 rfl (by kernel_rfl) ?_
  refine W.sf x rfl ?_
  refine W.sf y rfl ?_
  refine W.more rfl (entQ0 (L' := 0)) ?_
  refine W.cl [] (by kernel_rfl) (p_xlike x y hm hn) ?_
  rintro _ _ ⟨rfl, rfl⟩
  refine W.cl [17] (by kernel_rfl) (p_qwhole x.u x.d) ?_
  rintro _ _ ⟨n2, a2, m2, b2, rfl, rfl⟩   -- (S.m : Rat)
  refine W.cl [] (by kernel_rfl) (p_qwhole x.v x.e) ?_
  rintro _ _ ⟨n3, a3, m3, b3, rfl, rfl⟩   -- (S.n : Rat)
  refine W.cl [] (by kernel_rfl) (p_zof 1 (by omega) (by omega)) ?_
  rintro _ _ ⟨u4, d4, rfl, rfl⟩   -- 1
  refine W.cl [] (by kernel_rfl) (p_qwhole u4 d4) ?_
  rintro _ _ ⟨n5, a5, m5, b5, rfl, rfl⟩   -- (1 : Rat)
  refine W.cl [] (by kernel_rfl) (p_qmul n2 a2 m2 b2 n3 a3 m3 b3) ?_
  rintro _ _ ⟨n6, a6, m6, b6, rfl, rfl⟩   -- ((S.m : Rat) * (S.n : Rat))
  refine W.unr [] 6 (by kernel_rfl) ?_
  refine W.unr [38] 6 (by kernel_rfl) ?_
  refine W.cl [44] (by kernel_rfl) (p_qmul x.p.n x.p.a x.p.m x.p.b y.p.n y.p.a y.p.m y.p.b) ?_
  rintro _ _ ⟨n7, a7, m7, b7, rfl, rfl⟩   -- (S.p * T.p)
  refine W.cl [] (by kernel_rfl) (p_qmul n7 a7 m7 b7 n5 a5 m5 b5) ?_
  rintro _ _ ⟨n8, a8, m8, b8, rfl, rfl⟩   -- ((S.p * T.p) * (1 : Rat))
  refine W.cl [] (by kernel_rfl) (p_qadd ⟨none, 0, 0⟩ false ⟨none, 0, 0⟩ false n8 a8 m8 b8) ?_
  rintro _ _ ⟨n9, a9, m9, b9, rfl, rfl⟩   -- (0 + ((S.p * T.p) * (1 : Rat)))
  refine W.cl [44] (by kernel_rfl) (p_qmul x.p.n x.p.a x.p.m x.p.b y.q.n y.q.a y.q.m y.q.b) ?_
  rintro _ _ ⟨n10, a10, m10, b10, rfl, rfl⟩   -- (S.p * T.q)
  refine W.cl [] (by kernel_rfl) (p_qmul n10 a10 m10 b10 n5 a5 m5 b5) ?_
  rintro _ _ ⟨n11, a11, m11, b11, rfl, rfl⟩   -- ((S.p * T.q) * (1 : Rat))
  refine W.cl [] (by kernel_rfl) (p_qadd ⟨none, 0, 0⟩ false ⟨none, 0, 0⟩ false n11 a11 m11 b11) ?_
  rintro _ _ ⟨n12, a12, m12, b12, rfl, rfl⟩   -- (0 + ((S.p * T.q) * (1 : Rat)))
  refine W.cl [44] (by kernel_rfl) (p_qmul x.p.n x.p.a x.p.m x.p.b y.r.n y.r.a y.r.m y.r.b) ?_
  rintro _ _ ⟨n13, a13, m13, b13, rfl, rfl⟩   -- (S.p * T.r)
  refine W.cl [] (by kernel_rfl) (p_qmul n13 a13 m13 b13 n5 a5 m5 b5) ?_
  rintro _ _ ⟨n14, a14, m14, b14, rfl, rfl⟩   -- ((S.p * T.r) * (1 : Rat))
  refine W.cl [] (by kernel_rfl) (p_qadd ⟨none, 0, 0⟩ false ⟨none, 0, 0⟩ false n14 a14 m14 b14) ?_
  rintro _ _ ⟨n15, a15, m15, b15, rfl, rfl⟩   -- (0 + ((S.p * T.r) * (1 : Rat)))
  refine W.cl [44] (by kernel_rfl) (p_qmul x.p.n x.p.a x.p.m x.p.b y.s.n y.s.a y.s.m y.s.b) ?_
  rintro _ _ ⟨n16, a16, m16, b16, rfl, rfl⟩   -- (S.p * T.s)
  refine W.cl [] (by kernel_rfl) (p_qmul n16 a16 m16 b16 n5 a5 m5 b5) ?_
  rintro _ _ ⟨n17, a17, m17, b17, rfl, rfl⟩   -- ((S.p * T.s) * (1 : Rat))
  refine W.cl [] (by kernel_rfl) (p_qadd ⟨none, 0, 0⟩ false ⟨none, 0, 0⟩ false n17 a17 m17 b17) ?_
  rintro _ _ ⟨n18, a18, m18, b18, rfl, rfl⟩   -- (0 + ((S.p * T.s) * (1 : Rat)))
  refine W.unr [38, 44] 6 (by kernel_rfl) ?_
  refine W.cl [44] (by kernel_rfl) (p_qmul x.q.n x.q.a x.q.m x.q.b y.p.n y.p.a y.p.m y.p.b) ?_
  rintro _ _ ⟨n19, a19, m19, b19, rfl, rfl⟩   -- (S.q * T.p)
  refine W.cl [] (by kernel_rfl) (p_qmul n19 a19 m19 b19 n5 a5 m5 b5) ?_
  rintro _ _ ⟨n20, a20, m20, b20, rfl, rfl⟩   -- ((S.q * T.p) * (1 : Rat))
  refine W.cl [] (by kernel_rfl) (p_qadd n12 a12 m12 b12 n20 a20 m20 b20) ?_
  rintro _ _ ⟨n21, a21, m21, b21, rfl, rfl⟩   -- ((0 + ((S.p * T.q) * (1 : Rat))) + ((S.q * T.p) * (1 : Rat)))
  refine W.cl [44] (by kernel_rfl) (p_qmul x.q.n x.q.a x.q.m x.q.b y.q.n y.q.a y.q.m y.q.b) ?_
  rintro _ _ ⟨n22, a22, m22, b22, rfl, rfl⟩   -- (S.q * T.q)
  refine W.cl [] (by kernel_rfl) (p_qmul n22 a22 m22 b22 n2 a2 m2 b2) ?_
  rintro _ _ ⟨n23, a23, m23, b23, rfl, rfl⟩   -- ((S.q * T.q) * (S.m : Rat))
  refine W.cl [] (by kernel_rfl) (p_qadd n9 a9 m9 b9 n23 a23 m23 b23) ?_
  rintro _ _ ⟨n24, a24, m24, b24, rfl, rfl⟩   -- ((0 + ((S.p * T.p) * (1 : Rat))) + ((S.q * T.q) * (S.m : Rat)))
  refine W.cl [44] (by kernel_rfl) (p_qmul x.q.n x.q.a x.q.m x.q.b y.r.n y.r.a y.r.m y.r.b) ?_
  rintro _ _ ⟨n25, a25, m25, b25, rfl, rfl⟩   -- (S.q * T.r)
  refine W.cl [] (by kernel_rfl) (p_qmul n25 a25 m25 b25 n5 a5 m5 b5) ?_
  rintro _ _ ⟨n26, a26, m26, b26, rfl, rfl⟩   -- ((S.q * T.r) * (1 : Rat))
  refine W.cl [] (by kernel_rfl) (p_qadd n18 a18 m18 b18 n26 a26 m26 b26) ?_
  rintro _ _ ⟨n27, a27, m27, b27, rfl, rfl⟩   -- ((0 + ((S.p * T.s) * (1 : Rat))) + ((S.q * T.r) * (1 : Rat)))
  refine W.cl [44] (by kernel_rfl) (p_qmul x.q.n x.q.a x.q.m x.q.b y.s.n y.s.a y.s.m y.s.b) ?_
  rintro _ _ ⟨n28, a28, m28, b28, rfl, rfl⟩   -- (S.q * T.s)
  refine W.cl [] (by kernel_rfl) (p_qmul n28 a28 m28 b28 n2 a2 m2 b2) ?_
  rintro _ _ ⟨n29, a29, m29, b29, rfl, rfl⟩   -- ((S.q * T.s) * (S.m : Rat))
  refine W.cl [] (by kernel_rfl) (p_qadd n15 a15 m15 b15 n29 a29 m29 b29) ?_
  rintro _ _ ⟨n30, a30, m30, b30, rfl, rfl⟩   -- ((0 + ((S.p * T.r) * (1 : Rat))) + ((S.q * T.s) * (S.m : Rat)))
  refine W.unr [38, 44] 6 (by kernel_rfl) ?_
  refine W.cl [44] (by kernel_rfl) (p_qmul x.r.n x.r.a x.r.m x.r.b y.p.n y.p.a y.p.m y.p.b) ?_
  rintro _ _ ⟨n31, a31, m31, b31, rfl, rfl⟩   -- (S.r * T.p)
  refine W.cl [] (by kernel_rfl) (p_qmul n31 a31 m31 b31 n5 a5 m5 b5) ?_
  rintro _ _ ⟨n32, a32, m32, b32, rfl, rfl⟩   -- ((S.r * T.p) * (1 : Rat))
  refine W.cl [] (by kernel_rfl) (p_qadd n30 a30 m30 b30 n32 a32 m32 b32) ?_
  rintro _ _ ⟨n33, a33, m33, b33, rfl, rfl⟩   -- (((0 + ((S.p * T.r) * (1 : Rat))) + ((S.q * T.s) * (S.m : Rat))) + ((S.r * T.p) * (1 : Rat)))
  refine W.cl [44] (by kernel_rfl) (p_qmul x.r.n x.r.a x.r.m x.r.b y.q.n y.q.a y.q.m y.q.b) ?_
  rintro _ _ ⟨n34, a34, m34, b34, rfl, rfl⟩   -- (S.r * T.q)
  refine W.cl [] (by kernel_rfl) (p_qmul n34 a34 m34 b34 n5 a5 m5 b5) ?_
  rintro _ _ ⟨n35, a35, m35, b35, rfl, rfl⟩   -- ((S.r * T.q) * (1 : Rat))
  refine W.cl [] (by kernel_rfl) (p_qadd n27 a27 m27 b27 n35 a35 m35 b35) ?_
  rintro _ _ ⟨n36, a36, m36, b36, rfl, rfl⟩   -- (((0 + ((S.p * T.s) * (1 : Rat))) + ((S.q * T.r) * (1 : Rat))) + ((S.r * T.q) * (1 : Rat)))
  refine W.cl [44] (by kernel_rfl) (p_qmul x.r.n x.r.a x.r.m x.r.b y.r.n y.r.a y.r.m y.r.b) ?_
  rintro _ _ ⟨n37, a37, m37, b37, rfl, rfl⟩   -- (S.r * T.r)
  refine W.cl [] (by kernel_rfl) (p_qmul n37 a37 m37 b37 n3 a3 m3 b3) ?_
  rintro _ _ ⟨n38, a38, m38, b38, rfl, rfl⟩   -- ((S.r * T.r) * (S.n : Rat))
  refine W.cl [] (by kernel_rfl) (p_qadd n24 a24 m24 b24 n38 a38 m38 b38) ?_
  rintro _ _ ⟨n39, a39, m39, b39, rfl, rfl⟩   -- (((0 + ((S.p * T.p) * (1 : Rat))) + ((S.q * T.q) * (S.m : Rat))) + ((S.r * T.r) * (S.n : Rat)))
  refine W.cl [44] (by kernel_rfl) (p_qmul x.r.n x.r.a x.r.m x.r.b y.s.n y.s.a y.s.m y.s.b) ?_
  rintro _ _ ⟨n40, a40, m40, b40, rfl, rfl⟩   -- (S.r * T.s)
  refine W.cl [] (by kernel_rfl) (p_qmul n40 a40 m40 b40 n3 a3 m3 b3) ?_
  rintro _ _ ⟨n41, a41, m41, b41, rfl, rfl⟩   -- ((S.r * T.s) * (S.n : Rat))
  refine W.cl [] (by kernel_rfl) (p_qadd n21 a21 m21 b21 n41 a41 m41 b41) ?_
  rintro _ _ ⟨n42, a42, m42, b42, rfl, rfl⟩   -- (((0 + ((S.p * T.q) * (1 : Rat))) + ((S.q * T.p) * (1 : Rat))) + ((S.r * T.s) * (S.n : Rat)))
  refine W.unr [38, 44] 6 (by kernel_rfl) ?_
  refine W.cl [44] (by kernel_rfl) (p_qmul x.s.n x.s.a x.s.m x.s.b y.p.n y.p.a y.p.m y.p.b) ?_
  rintro _ _ ⟨n43, a43, m43, b43, rfl, rfl⟩   -- (S.s * T.p)
  refine W.cl [] (by kernel_rfl) (p_qmul n43 a43 m43 b43 n5 a5 m5 b5) ?_
  rintro _ _ ⟨n44, a44, m44, b44, rfl, rfl⟩   -- ((S.s * T.p) * (1 : Rat))
  refine W.cl [] (by kernel_rfl) (p_qadd n36 a36 m36 b36 n44 a44 m44 b44) ?_
  rintro _ _ ⟨n45, a45, m45, b45, rfl, rfl⟩   -- ((((0 + ((S.p * T.s) * (1 : Rat))) + ((S.q * T.r) * (1 : Rat))) + ((S.r * T.q) * (1 : Rat))) + ((S.s * T.p) * (1 : Rat)))
  refine W.cl [44] (by kernel_rfl) (p_qmul x.s.n x.s.a x.s.m x.s.b y.q.n y.q.a y.q.m y.q.b) ?_
  rintro _ _ ⟨n46, a46, m46, b46, rfl, rfl⟩   -- (S.s * T.q)
  refine W.cl [] (by kernel_rfl) (p_qmul n46 a46 m46 b46 n2 a2 m2 b2) ?_
  rintro _ _ ⟨n47, a47, m47, b47, rfl, rfl⟩   -- ((S.s * T.q) * (S.m : Rat))
  refine W.cl [] (by kernel_rfl) (p_qadd n33 a33 m33 b33 n47 a47 m47 b47) ?_
  rintro _ _ ⟨n48, a48, m48, b48, rfl, rfl⟩   -- ((((0 + ((S.p * T.r) * (1 : Rat))) + ((S.q * T.s) * (S.m : Rat))) + ((S.r * T.p) * (1 : Rat))) + ((S.s * T.q) * (S.m : Rat)))
  refine W.cl [44] (by kernel_rfl) (p_qmul x.s.n x.s.a x.s.m x.s.b y.r.n y.r.a y.r.m y.r.b) ?_
  rintro _ _ ⟨n49, a49, m49, b49, rfl, rfl⟩   -- (S.s * T.r)
  refine W.cl [] (by kernel_rfl) (p_qmul n49 a49 m49 b49 n3 a3 m3 b3) ?_
  rintro _ _ ⟨n50, a50, m50, b50, rfl, rfl⟩   -- ((S.s * T.r) * (S.n : Rat))
  refine W.cl [] (by kernel_rfl) (p_qadd n42 a42 m42 b42 n50 a50 m50 b50) ?_
  rintro _ _ ⟨n51, a51, m51, b51, rfl, rfl⟩   -- ((((0 + ((S.p * T.q) * (1 : Rat))) + ((S.q * T.p) * (1 : Rat))) + ((S.r * T.s) * (S.n : Rat))) + ((S.s * T.r) * (S.n : Rat)))
  refine W.cl [44] (by kernel_rfl) (p_qmul x.s.n x.s.a x.s.m x.s.b y.s.n y.s.a y.s.m y.s.b) ?_
  rintro _ _ ⟨n52, a52, m52, b52, rfl, rfl⟩   -- (S.s * T.s)
  refine W.cl [] (by kernel_rfl) (p_qmul n52 a52 m52 b52 n6 a6 m6 b6) ?_
  rintro _ _ ⟨n53, a53, m53, b53, rfl, rfl⟩   -- ((S.s * T.s) * ((S.m : Rat) * (S.n : Rat)))
  refine W.cl [] (by kernel_rfl) (p_qadd n39 a39 m39 b39 n53 a53 m53 b53) ?_
  rintro _ _ ⟨n54, a54, m54, b54, rfl, rfl⟩   -- ((((0 + ((S.p * T.p) * (1 : Rat))) + ((S.q * T.q) * (S.m : Rat))) + ((S.r * T.r) * (S.n : Rat))) + ((S.s * T.s) * ((S.m : Rat) * (S.n : Rat))))
  exact W.r [38, 44] (.tuple #[sv ⟨x.u, x.d, x.v, x.e, ⟨n54, a54, m54, b54⟩, ⟨n51, a51, m51, b51⟩, ⟨n48, a48, m48, b48⟩, ⟨n45, a45, m45, b45⟩⟩, .int .i64 0]) (by kernel_rfl) ⟨_, rfl, rfl⟩ (entS rfl rfl (by simp only [Sn.mul]; grind) (by simp only [Sn.mul]; grind) (by simp only [Sn.mul]; grind) (by simp only [Sn.mul]; grind) (by omega))
theorem p_xmulE (x : Sw) {S : Sn} [Has (SF x) (L, S) Γ] (y : Sw) {T : Sn} [Has (SF y) (M, T) Γ] (hu : ¬ (S.m = T.m ∧ S.n = T.n)) (hL : L ≤ 100000 := by omega) (hM : M ≤ 100000 := by omega) :
    PCalls tb Tryz.prog 35 [sv x, sv y] Γ (IsV (.tuple #[sv nilS, .int .i64 6])) := by
  refine PCalls.of_W tbOk Tryz.func35 rfl (by kernel_rfl) ?_
  refine W.cl [] (by kernel_rfl) (p_xlikeF x y hu) ?_
  rintro _ _ ⟨rfl, rfl⟩
  exact W.r [17] (.tuple #[sv ⟨⟨none, 0, 0⟩, false, ⟨none, 0, 0⟩, false, ⟨⟨none, 0, 0⟩, false, ⟨none, 0, 0⟩, false⟩, ⟨⟨none, 0, 0⟩, false, ⟨none, 0, 0⟩, false⟩, ⟨⟨none, 0, 0⟩, false, ⟨none, 0, 0⟩, false⟩, ⟨⟨none, 0, 0⟩, false, ⟨none, 0, 0⟩, false⟩⟩, .int .i64 6]) (by kernel_rfl) ⟨rfl, rfl⟩ ent0
theorem p_xone (n : Sl) (a : Bool) (m : Sl) (b : Bool) (k : Sl) (c : Bool) (l : Sl) (d : Bool) (u : Sl) (e : Bool) {x y : Rat} {z : Int} [Has (QF n a m b) (L, x) Γ] [Has (QF k c l d) (M, y) Γ] [Has (ZF u e) (K, z) Γ] (hL : L ≤ 400000 := by omega) (hM : M ≤ 290000 := by omega) (hK : K ≤ 400000 := by omega) :
    PCalls tb Tryz.prog 85 [qv n a m b, qv k c l d, zv u e] Γ (IsV (.int .i64 (sg1 x y z))) := by
  refine PCalls.of_W tbOk Tryz.func85 rfl (by kernel_rfl) ?_
  refine W.cl [] (by kernel_rfl) (p_qsign n a m b) ?_
  rintro _ _ ⟨rfl, rfl⟩
  refine W.cl [] (by kernel_rfl) (p_qsign k c l d) ?_
  rintro _ _ ⟨rfl, rfl⟩
  refine W.cl [] (by kernel_rfl) (p_zsign u e) ?_
  rintro _ _ ⟨rfl, rfl⟩
  refine W.d [] 15 ((z).sign == 0) (by kernel_rfl) (fun hb => ?_) (fun hb => ?_)
  · skip
    exact W.r [16, 19, 15] (.int .i64 x.num.sign) (by kernel_rfl) ⟨congrArg _ (by unfold sg1; grind), rfl⟩ ent0
  · skip
    refine W.d [15] 19 (y.num.sign == 0) (by kernel_rfl) (fun hb => ?_) (fun hb => ?_)
    · skip
      exact W.r [16, 19] (.int .i64 x.num.sign) (by kernel_rfl) ⟨congrArg _ (by unfold sg1; grind), rfl⟩ ent0
    · skip
      refine W.d [19] 16 (x.num.sign == y.num.sign) (by kernel_rfl) (fun hb => ?_) (fun hb => ?_)
      · skip
        exact W.r [16] (.int .i64 x.num.sign) (by kernel_rfl) ⟨congrArg _ (by unfold sg1; grind), rfl⟩ ent0
      · skip
        refine W.d [16] 25 (x.num.sign == 0) (by kernel_rfl) (fun hb => ?_) (fun hb => ?_)
        · skip
          exact W.r [25] (.int .i64 y.num.sign) (by kernel_rfl) ⟨congrArg _ (by unfold sg1; grind), rfl⟩ ent0
        · skip
          refine W.cl [25] (by kernel_rfl) (p_qmul n a m b n a m b) ?_
          rintro _ _ ⟨n4, a4, m4, b4, rfl, rfl⟩   -- (x * x)
          refine W.cl [] (by kernel_rfl) (p_qmul k c l d k c l d) ?_
          rintro _ _ ⟨n5, a5, m5, b5, rfl, rfl⟩   -- (y * y)
          refine W.cl [] (by kernel_rfl) (p_qwhole u e) ?_
          rintro _ _ ⟨n6, a6, m6, b6, rfl, rfl⟩   -- (z : Rat)
          refine W.cl [] (by kernel_rfl) (p_qmul n5 a5 m5 b5 n6 a6 m6 b6) ?_
          rintro _ _ ⟨n7, a7, m7, b7, rfl, rfl⟩   -- ((y * y) * (z : Rat))
          refine W.cl [] (by kernel_rfl) (p_qcmp n4 a4 m4 b4 n7 a7 m7 b7) ?_
          rintro _ _ ⟨rfl, rfl⟩
          exact W.r [] (.int .i64 (IntKind.i64.wrap (x.num.sign * (cmpQ (x * x) ((y * y) * (z : Rat)))))) (by kernel_rfl) ⟨congrArg _ (by rw [wrap3 (sign3 _) (cmpQ3 _ _)]; unfold sg1; grind), rfl⟩ ent0
set_option maxHeartbeats 4000000 in
theorem p_xsign (x : Sw) {S : Sn} [Has (SF x) (L, S) Γ] (hL : L ≤ 10000 := by omega) :
    PCalls tb Tryz.prog 21 [sv x] Γ (IsV (.int .i64 S.sg)) := by
  refine PCalls.of_W tbOk Tryz.func21 rfl (by kernel_rfl) ?_
  refine W.sf x rfl ?_
  refine W.revp 1 ((sv x).cells.toList) (by kernel_rfl) (by kernel_rfl) ?_
  intro b0
  refine W.fa [] 4 b0 0 tbOk (by kernel_rfl) ?_
  refine W.sla [] 4 4 b0 4 none (some (.int .i64 ((2 : Nat) : Int))) 0 2 tbOk (by kernel_rfl) (.inr ⟨rfl, rfl⟩) (.inl rfl) (by decide) (by decide) (by decide) ?_
  refine W.fa [] 4 b0 0 tbOk (by kernel_rfl) ?_
  refine W.sla [] 4 4 b0 4 (some (.int .i64 ((2 : Nat) : Int))) none 2 4 tbOk (by kernel_rfl) (.inl rfl) (.inr ⟨rfl, rfl⟩) (by decide) (by decide) (by decide) ?_
  refine W.ia [] 4 b0 4 2 4 .i64 0 0 rfl tbOk (by kernel_rfl) (by decide) ?_
  refine W.ldr [] b0 4 [.slice x.p.n.ao x.p.n.n x.p.n.c, .bool x.p.a, .slice x.p.m.ao x.p.m.n x.p.m.c, .bool x.p.b] tbOk (by kernel_rfl) rfl ?_
  refine W.ia [] 4 b0 4 2 4 .i64 1 1 rfl tbOk (by kernel_rfl) (by decide) ?_
  refine W.ldr [] b0 8 [.slice x.q.n.ao x.q.n.n x.q.n.c, .bool x.q.a, .slice x.q.m.ao x.q.m.n x.q.m.c, .bool x.q.b] tbOk (by kernel_rfl) rfl ?_
  refine W.fa [] 0 b0 0 tbOk (by kernel_rfl) ?_
  refine W.fa [] 0 b0 0 tbOk (by kernel_rfl) ?_
  refine W.ldr [] b0 0 [.slice x.u.ao x.u.n x.u.c, .bool x.d] tbOk (by kernel_rfl) rfl ?_
  refine W.ia [] 4 b0 12 2 2 .i64 0 0 rfl tbOk (by kernel_rfl) (by decide) ?_
  refine W.ldr [] b0 12 [.slice x.r.n.ao x.r.n.n x.r.n.c, .bool x.r.a, .slice x.r.m.ao x.r.m.n x.r.m.c, .bool x.r.b] tbOk (by kernel_rfl) rfl ?_
  refine W.ia [] 4 b0 12 2 2 .i64 1 1 rfl tbOk (by kernel_rfl) (by decide) ?_
  refine W.ldr [] b0 16 [.slice x.s.n.ao x.s.n.n x.s.n.c, .bool x.s.a, .slice x.s.m.ao x.s.m.n x.s.m.c, .bool x.s.b] tbOk (by kernel_rfl) rfl ?_
  refine W.fa [] 0 b0 0 tbOk (by kernel_rfl) ?_
  refine W.fa [] 0 b0 0 tbOk (by kernel_rfl) ?_
  refine W.ldr [] b0 0 [.slice x.u.ao x.u.n x.u.c, .bool x.d] tbOk (by kernel_rfl) rfl ?_
  refine W.cl [] (by kernel_rfl) (p_xone x.p.n x.p.a x.p.m x.p.b x.q.n x.q.a x.q.m x.q.b x.u x.d) ?_
  rintro _ _ ⟨rfl, rfl⟩
  refine W.cl [] (by kernel_rfl) (p_xone x.r.n x.r.a x.r.m x.r.b x.s.n x.s.a x.s.m x.s.b x.u x.d) ?_
  rintro _ _ ⟨rfl, rfl⟩
  refine W.fa [] 0 b0 0 tbOk (by kernel_rfl) ?_
  refine W.fa [] 2 b0 0 tbOk (by kernel_rfl) ?_
  refine W.ldr [] b0 2 [.slice x.v.ao x.v.n x.v.c, .bool x.e] tbOk (by kernel_rfl) rfl ?_
  refine W.cl [] (by kernel_rfl) (p_zsign x.v x.e) ?_
  rintro _ _ ⟨rfl, rfl⟩
  refine W.d [] 40 ((S.n).sign == 0) (by kernel_rfl) (fun hb => ?_) (fun hb => ?_)
  · skip
    exact W.r [41, 44, 40] (.int .i64 (sg1 S.p S.q S.m)) (by kernel_rfl) ⟨congrArg _ (by unfold Sn.sg; grind), rfl⟩ ent0
  · skip
    refine W.d [40] 44 ((sg1 S.r S.s S.m) == 0) (by kernel_rfl) (fun hb => ?_) (fun hb => ?_)
    · skip
      exact W.r [41, 44] (.int .i64 (sg1 S.p S.q S.m)) (by kernel_rfl) ⟨congrArg _ (by unfold Sn.sg; grind), rfl⟩ ent0
    · skip
      refine W.d [44] 41 ((sg1 S.p S.q S.m) == (sg1 S.r S.s S.m)) (by kernel_rfl) (fun hb => ?_) (fun hb => ?_)
      · skip
        exact W.r [41] (.int .i64 (sg1 S.p S.q S.m)) (by kernel_rfl) ⟨congrArg _ (by unfold Sn.sg; grind), rfl⟩ ent0
      · skip
        refine W.d [41] 50 ((sg1 S.p S.q S.m) == 0) (by kernel_rfl) (fun hb => ?_) (fun hb => ?_)
        · skip
          exact W.r [50] (.int .i64 (sg1 S.r S.s S.m)) (by kernel_rfl) ⟨congrArg _ (by unfold Sn.sg; grind), rfl⟩ ent0
        · skip
          refine W.fa [50] 0 b0 0 tbOk (by kernel_rfl) ?_
          refine W.fa [] 0 b0 0 tbOk (by kernel_rfl) ?_
          refine W.ldr [] b0 0 [.slice x.u.ao x.u.n x.u.c, .bool x.d] tbOk (by kernel_rfl) rfl ?_
          refine W.fa [] 0 b0 0 tbOk (by kernel_rfl) ?_
          refine W.fa [] 2 b0 0 tbOk (by kernel_rfl) ?_
          refine W.ldr [] b0 2 [.slice x.v.ao x.v.n x.v.c, .bool x.e] tbOk (by kernel_rfl) rfl ?_
          refine W.cl [] (by kernel_rfl) (p_qwhole x.u x.d) ?_
          rintro _ _ ⟨n4, a4, m4, b4, rfl, rfl⟩   -- (S.m : Rat)
          refine W.cl [] (by kernel_rfl) (p_qwhole x.v x.e) ?_
          rintro _ _ ⟨n5, a5, m5, b5, rfl, rfl⟩   -- (S.n : Rat)
          refine W.cl [] (by kernel_rfl) (p_zof 2 (by omega) (by omega)) ?_
          rintro _ _ ⟨u6, d6, rfl, rfl⟩   -- 2
          refine W.cl [] (by kernel_rfl) (p_qwhole u6 d6) ?_
          rintro _ _ ⟨n7, a7, m7, b7, rfl, rfl⟩   -- (2 : Rat)
          refine W.ia [] 4 b0 4 2 4 .i64 0 0 rfl tbOk (by kernel_rfl) (by decide) ?_
          refine W.ldr [] b0 4 [.slice x.p.n.ao x.p.n.n x.p.n.c, .bool x.p.a, .slice x.p.m.ao x.p.m.n x.p.m.c, .bool x.p.b] tbOk (by kernel_rfl) rfl ?_
          refine W.ia [] 4 b0 4 2 4 .i64 0 0 rfl tbOk (by kernel_rfl) (by decide) ?_
          refine W.ldr [] b0 4 [.slice x.p.n.ao x.p.n.n x.p.n.c, .bool x.p.a, .slice x.p.m.ao x.p.m.n x.p.m.c, .bool x.p.b] tbOk (by kernel_rfl) rfl ?_
          refine W.ia [] 4 b0 4 2 4 .i64 1 1 rfl tbOk (by kernel_rfl) (by decide) ?_
          refine W.ldr [] b0 8 [.slice x.q.n.ao x.q.n.n x.q.n.c, .bool x.q.a, .slice x.q.m.ao x.q.m.n x.q.m.c, .bool x.q.b] tbOk (by kernel_rfl) rfl ?_
          refine W.ia [] 4 b0 4 2 4 .i64 1 1 rfl tbOk (by kernel_rfl) (by decide) ?_
          refine W.ldr [] b0 8 [.slice x.q.n.ao x.q.n.n x.q.n.c, .bool x.q.a, .slice x.q.m.ao x.q.m.n x.q.m.c, .bool x.q.b] tbOk (by kernel_rfl) rfl ?_
          refine W.ia [] 4 b0 12 2 2 .i64 0 0 rfl tbOk (by kernel_rfl) (by decide) ?_
          refine W.ldr [] b0 12 [.slice x.r.n.ao x.r.n.n x.r.n.c, .bool x.r.a, .slice x.r.m.ao x.r.m.n x.r.m.c, .bool x.r.b] tbOk (by kernel_rfl) rfl ?_
          refine W.ia [] 4 b0 12 2 2 .i64 0 0 rfl tbOk (by kernel_rfl) (by decide) ?_
          refine W.ldr [] b0 12 [.slice x.r.n.ao x.r.n.n x.r.n.c, .bool x.r.a, .slice x.r.m.ao x.r.m.n x.r.m.c, .bool x.r.b] tbOk (by kernel_rfl) rfl ?_
          refine W.ia [] 4 b0 12 2 2 .i64 1 1 rfl tbOk (by kernel_rfl) (by decide) ?_
          refine W.ldr [] b0 16 [.slice x.s.n.ao x.s.n.n x.s.n.c, .bool x.s.a, .slice x.s.m.ao x.s.m.n x.s.m.c, .bool x.s.b] tbOk (by kernel_rfl) rfl ?_
          refine W.ia [] 4 b0 12 2 2 .i64 1 1 rfl tbOk (by kernel_rfl) (by decide) ?_
          refine W.ldr [] b0 16 [.slice x.s.n.ao x.s.n.n x.s.n.c, .bool x.s.a, .slice x.s.m.ao x.s.m.n x.s.m.c, .bool x.s.b] tbOk (by kernel_rfl) rfl ?_
          refine W.cl [] (by kernel_rfl) (p_qmul x.p.n x.p.a x.p.m x.p.b x.p.n x.p.a x.p.m x.p.b) ?_
          rintro _ _ ⟨n8, a8, m8, b8, rfl, rfl⟩   -- (S.p * S.p)
          refine W.cl [] (by kernel_rfl) (p_qmul n4 a4 m4 b4 x.q.n x.q.a x.q.m x.q.b) ?_
          rintro _ _ ⟨n9, a9, m9, b9, rfl, rfl⟩   -- ((S.m : Rat) * S.q)
          refine W.cl [] (by kernel_rfl) (p_qmul n9 a9 m9 b9 x.q.n x.q.a x.q.m x.q.b) ?_
          rintro _ _ ⟨n10, a10, m10, b10, rfl, rfl⟩   -- (((S.m : Rat) * S.q) * S.q)
          refine W.cl [] (by kernel_rfl) (p_qadd n8 a8 m8 b8 n10 a10 m10 b10) ?_
          rintro _ _ ⟨n11, a11, m11, b11, rfl, rfl⟩   -- ((S.p * S.p) + (((S.m : Rat) * S.q) * S.q))
          refine W.cl [] (by kernel_rfl) (p_qmul x.r.n x.r.a x.r.m x.r.b x.r.n x.r.a x.r.m x.r.b) ?_
          rintro _ _ ⟨n12, a12, m12, b12, rfl, rfl⟩   -- (S.r * S.r)
          refine W.cl [] (by kernel_rfl) (p_qmul n4 a4 m4 b4 x.s.n x.s.a x.s.m x.s.b) ?_
          rintro _ _ ⟨n13, a13, m13, b13, rfl, rfl⟩   -- ((S.m : Rat) * S.s)
          refine W.cl [] (by kernel_rfl) (p_qmul n13 a13 m13 b13 x.s.n x.s.a x.s.m x.s.b) ?_
          rintro _ _ ⟨n14, a14, m14, b14, rfl, rfl⟩   -- (((S.m : Rat) * S.s) * S.s)
          refine W.cl [] (by kernel_rfl) (p_qadd n12 a12 m12 b12 n14 a14 m14 b14) ?_
          rintro _ _ ⟨n15, a15, m15, b15, rfl, rfl⟩   -- ((S.r * S.r) + (((S.m : Rat) * S.s) * S.s))
          refine W.cl [] (by kernel_rfl) (p_qmul n5 a5 m5 b5 n15 a15 m15 b15) ?_
          rintro _ _ ⟨n16, a16, m16, b16, rfl, rfl⟩   -- ((S.n : Rat) * ((S.r * S.r) + (((S.m : Rat) * S.s) * S.s)))
          refine W.cl [] (by kernel_rfl) (p_qsub n11 a11 m11 b11 n16 a16 m16 b16) ?_
          rintro _ _ ⟨n17, a17, m17, b17, rfl, rfl⟩   -- (((S.p * S.p) + (((S.m : Rat) * S.q) * S.q)) - ((S.n : Rat) * ((S.r * S.r) + (((S.m : Rat) * S.s) * S.s))))
          refine W.ia [] 4 b0 4 2 4 .i64 0 0 rfl tbOk (by kernel_rfl) (by decide) ?_
          refine W.ldr [] b0 4 [.slice x.p.n.ao x.p.n.n x.p.n.c, .bool x.p.a, .slice x.p.m.ao x.p.m.n x.p.m.c, .bool x.p.b] tbOk (by kernel_rfl) rfl ?_
          refine W.ia [] 4 b0 4 2 4 .i64 1 1 rfl tbOk (by kernel_rfl) (by decide) ?_
          refine W.ldr [] b0 8 [.slice x.q.n.ao x.q.n.n x.q.n.c, .bool x.q.a, .slice x.q.m.ao x.q.m.n x.q.m.c, .bool x.q.b] tbOk (by kernel_rfl) rfl ?_
          refine W.ia [] 4 b0 12 2 2 .i64 0 0 rfl tbOk (by kernel_rfl) (by decide) ?_
          refine W.ldr [] b0 12 [.slice x.r.n.ao x.r.n.n x.r.n.c, .bool x.r.a, .slice x.r.m.ao x.r.m.n x.r.m.c, .bool x.r.b] tbOk (by kernel_rfl) rfl ?_
          refine W.ia [] 4 b0 12 2 2 .i64 1 1 rfl tbOk (by kernel_rfl) (by decide) ?_
          refine W.ldr [] b0 16 [.slice x.s.n.ao x.s.n.n x.s.n.c, .bool x.s.a, .slice x.s.m.ao x.s.m.n x.s.m.c, .bool x.s.b] tbOk (by kernel_rfl) rfl ?_
          refine W.cl [] (by kernel_rfl) (p_qmul x.p.n x.p.a x.p.m x.p.b x.q.n x.q.a x.q.m x.q.b) ?_
          rintro _ _ ⟨n18, a18, m18, b18, rfl, rfl⟩   -- (S.p * S.q)
          refine W.cl [] (by kernel_rfl) (p_qmul n5 a5 m5 b5 x.r.n x.r.a x.r.m x.r.b) ?_
          rintro _ _ ⟨n19, a19, m19, b19, rfl, rfl⟩   -- ((S.n : Rat) * S.r)
          refine W.cl [] (by kernel_rfl) (p_qmul n19 a19 m19 b19 x.s.n x.s.a x.s.m x.s.b) ?_
          rintro _ _ ⟨n20, a20, m20, b20, rfl, rfl⟩   -- (((S.n : Rat) * S.r) * S.s)
          refine W.cl [] (by kernel_rfl) (p_qsub n18 a18 m18 b18 n20 a20 m20 b20) ?_
          rintro _ _ ⟨n21, a21, m21, b21, rfl, rfl⟩   -- ((S.p * S.q) - (((S.n : Rat) * S.r) * S.s))
          refine W.cl [] (by kernel_rfl) (p_qmul n7 a7 m7 b7 n21 a21 m21 b21) ?_
          rintro _ _ ⟨n22, a22, m22, b22, rfl, rfl⟩   -- ((2 : Rat) * ((S.p * S.q) - (((S.n : Rat) * S.r) * S.s)))
          refine W.fa [] 0 b0 0 tbOk (by kernel_rfl) ?_
          refine W.fa [] 0 b0 0 tbOk (by kernel_rfl) ?_
          refine W.ldr [] b0 0 [.slice x.u.ao x.u.n x.u.c, .bool x.d] tbOk (by kernel_rfl) rfl ?_
          refine W.cl [] (by kernel_rfl) (p_xone n17 a17 m17 b17 n22 a22 m22 b22 x.u x.d) ?_
          rintro _ _ ⟨rfl, rfl⟩
          exact W.r [] (.int .i64 (IntKind.i64.wrap ((sg1 S.p S.q S.m) * (sg1 (((S.p * S.p) + (((S.m : Rat) * S.q) * S.q)) - ((S.n : Rat) * ((S.r * S.r) + (((S.m : Rat) * S.s) * S.s)))) ((2 : Rat) * ((S.p * S.q) - (((S.n : Rat) * S.r) * S.s))) S.m)))) (by kernel_rfl) ⟨congrArg _ (by rw [wrap3 (sg1_3 _ _ _) (sg1_3 _ _ _)]; unfold Sn.sg; grind), rfl⟩ ent0
theorem entSnil {L' : Nat} {m n : Int} : ∀ (I : Blk) (w : World), DataOK tb I w → Holds Γ I w → Holds [SF nilS (L', ⟨0, 0, 0, 0, 0, 0⟩)] I w := fun I w hd hh =>
  holds1 ⟨(entZnil (L' := L') I w hd hh).h0', (entZnil (L' := L') I w hd hh).h0', (entQ0 (L' := L') I w hd hh).h0', (entQ0 (L' := L') I w hd hh).h0', (entQ0 (L' := L') I w hd hh).h0', (entQ0 (L' := L') I w hd hh).h0'⟩
theorem p_xsign0 (x : Sw) (hx : x = nilS := by rfl) : PCalls tb Tryz.prog 21 [sv x] Γ (IsV (.int .i64 0)) := by
  subst hx
  have h := (p_xsign (Γ := [SF nilS (0, ⟨0, 0, 0, 0, 0, 0⟩)]) (L := 0) nilS)
  rw [Sn.sg_zero rfl rfl rfl rfl] at h
  exact h.weak (entSnil (m := 0) (n := 0)) (fun _ _ h => h)
theorem p_xcmp (x : Sw) {S : Sn} [Has (SF x) (L, S) Γ] (y : Sw) {T : Sn} [Has (SF y) (M, T) Γ] (hm : S.m = T.m) (hn : S.n = T.n) (hL : L ≤ 4000 := by omega) (hM : M ≤ 4000 := by omega) :
    PCalls tb Tryz.prog 20 [sv x, sv y] Γ (IsV (.tuple #[.int .i64 (S.sub T).sg, .int .i64 0])) := by
  refine PCalls.of_W tbOk Tryz.func20 rfl (by kernel_rfl) ?_
  refine W.cl [] (by kernel_rfl) (p_xsub x y hm hn) ?_
  rintro _ _ ⟨X1, rfl, rfl⟩   -- (S.sub T)
  refine W.cl [] (by kernel_rfl) (p_xsign X1) ?_
  rintro _ _ ⟨rfl, rfl⟩
  exact W.r [] (.tuple #[.int .i64 (S.sub T).sg, .int .i64 0]) (by kernel_rfl) ⟨rfl, rfl⟩ ent0
theorem p_xcmpE (x : Sw) {S : Sn} [Has (SF x) (L, S) Γ] (y : Sw) {T : Sn} [Has (SF y) (M, T) Γ] (hu : ¬ (S.m = T.m ∧ S.n = T.n)) (hL : L ≤ 100000 := by omega) (hM : M ≤ 100000 := by omega) :
    PCalls tb Tryz.prog 20 [sv x, sv y] Γ (IsV (.tuple #[.int .i64 0, .int .i64 6])) := by
  refine PCalls.of_W tbOk Tryz.func20 rfl (by kernel_rfl) ?_
  refine W.cl [] (by kernel_rfl) (p_xsubE x y hu) ?_
  rintro _ _ ⟨rfl, rfl⟩
  refine W.cl [] (by kernel_rfl) (p_xsign0 nilS) ?_
  rintro _ _ ⟨rfl, rfl⟩
  exact W.r [] (.tuple #[.int .i64 0, .int .i64 6]) (by kernel_rfl) ⟨rfl, rfl⟩ ent0
theorem p_xless (x : Sw) {S : Sn} [Has (SF x) (L, S) Γ] (u : Sl) (e : Bool) {q : Int} [Has (ZF u e) (M, q) Γ] (hL : L ≤ 4000 := by omega) (hM : M ≤ 4000 := by omega) :
    PCalls tb Tryz.prog 69 [sv x, zv u e] Γ (IsV (.bool (decide ((S.lessq q).sg < 0)))) := by
  refine PCalls.of_W tbOk Tryz.func69 rfl (by kernel_rfl) ?_
  refine W.sf x rfl ?_
  refine W.cl [] (by kernel_rfl) (p_qwhole u e) ?_
  rintro _ _ ⟨n1, a1, m1, b1, rfl, rfl⟩   -- (q : Rat)
  refine W.cl [] (by kernel_rfl) (p_qsub x.p.n x.p.a x.p.m x.p.b n1 a1 m1 b1) ?_
  rintro _ _ ⟨n2, a2, m2, b2, rfl, rfl⟩   -- (S.p - (q : Rat))
  refine W.cx [] (by kernel_rfl) (entS (x := ⟨x.u, x.d, x.v, x.e, ⟨n2, a2, m2, b2⟩, x.q, x.r, x.s⟩) (L' := L + max M 2 + 10) (S := (S.lessq q)) rfl rfl rfl rfl rfl rfl (by omega)) (p_xsign ⟨x.u, x.d, x.v, x.e, ⟨n2, a2, m2, b2⟩, x.q, x.r, x.s⟩) ?_
  rintro _ _ ⟨rfl, rfl⟩
  exact W.r [] (.bool (decide ((S.lessq q).sg < 0))) (by kernel_rfl) ⟨rfl, rfl⟩ ent0
set_option maxHeartbeats 1000000 in
theorem p_xabout (n : Sl) (a : Bool) (m : Sl) (b : Bool) (u : Sl) (e : Bool) (k : Int) (hk : k = 8) {x : Rat} {r : Int} [Has (QF n a m b) (L, x) Γ] [hr : Has (ZF u e) (M, r) Γ] (hL : L ≤ 600 := by omega) (hM : M ≤ 700 := by omega) :
    PCalls tb Tryz.prog 67 [qv n a m b, zv u e, .int .i64 k] Γ (ZPost (2 * L + M + 10) (qab x r 8)) := by
  subst hk
  refine PCalls.of_W tbOk Tryz.func67 rfl (by kernel_rfl) ?_
  refine W.cl [] (by kernel_rfl) (p_qnum n a m b) ?_
  rintro _ _ ⟨u1, d1, rfl, rfl⟩
  refine W.cl [] (by kernel_rfl) (p_zabs u1 d1) ?_
  rintro _ _ ⟨rfl, rfl⟩
  refine W.cl [] (by kernel_rfl) (p_qnum n a m b) ?_
  rintro _ _ ⟨u3, d3, rfl, rfl⟩
  refine W.cl [] (by kernel_rfl) (p_zabs u3 d3) ?_
  rintro _ _ ⟨rfl, rfl⟩
  refine W.cl [] (by kernel_rfl) (p_mul u1 u3) ?_
  rintro _ _ ⟨u5, rfl, rfl⟩
  refine W.cl [] (by kernel_rfl) (p_zabs u e) ?_
  rintro _ _ ⟨rfl, rfl⟩
  refine W.cl [] (by kernel_rfl) (p_mul u5 u) ?_
  rintro _ _ ⟨u7, rfl, rfl⟩
  refine W.cl [] (by kernel_rfl) (p_up u7 16 (by omega)) ?_
  rintro _ _ ⟨u8, rfl, rfl⟩
  refine W.cl [] (by kernel_rfl) (p_root u8) ?_
  rintro _ _ ⟨u9, t9, rfl, rfl⟩
  refine W.cl [] (by kernel_rfl) (p_zbig u9) ?_
  rintro _ _ ⟨u10, d10, rfl, rfl⟩
  refine W.cl [] (by kernel_rfl) (p_qden n a m b) ?_
  rintro _ _ ⟨u11, d11, rfl, rfl⟩
  refine W.cl [] (by kernel_rfl) (p_zfloor u10 d10 u11 d11 (by have := den_pos' x; omega)) ?_
  rintro _ _ ⟨u12, d12, v12, e12, rfl, rfl⟩
  refine W.cl [] (by kernel_rfl) (p_qsign n a m b) ?_
  rintro _ _ ⟨rfl, rfl⟩
  refine W.d [] 46 (decide (x.num.sign < 0)) (by kernel_rfl) (fun hb => ?_) (fun hb => ?_)
  · refine W.cl [46] (by kernel_rfl) (p_zneg u12 d12) ?_
    rintro _ _ ⟨u14, d14, rfl, rfl⟩
    exact W.r [] (zv u14 d14) (by kernel_rfl) ⟨_, _, rfl, rfl⟩ (entZ (by omega) (by unfold qab; simp only; rw [if_pos (of_decide_eq_true hb)]))
  · exact W.r [46] (zv u12 d12) (by kernel_rfl) ⟨_, _, rfl, rfl⟩ (entZ (by omega) (by unfold qab; simp only; rw [if_neg (of_decide_eq_false hb)]))
set_option maxHeartbeats 4000000 in
theorem p_xfloor (x : Sw) {S : Sn} [Has (SF x) (L, S) Γ] (hf : S.floors = true) (hL : L ≤ 300 := by omega) :
    PCalls tb Tryz.prog 13 [sv x] Γ (ZPost (10 * L + 200) S.low) := by
  refine PCalls.of_W tbOk Tryz.func13 rfl (by kernel_rfl) ?_
  simp only [Sn.floors, Bool.and_eq_true, Bool.not_eq_true', decide_eq_true_eq, decide_eq_false_iff_not] at hf
  have hlow : S.low = ((((0 + (qab S.p 1 8)) + (qab S.q S.m 8)) + (qab S.r S.n 8)) + (qab S.s (S.m * S.n) 8)) / 256 := rfl
  refine W.more rfl (entZnil (L' := 0)) ?_
  refine W.sf x rfl ?_
  refine W.cl [] (by kernel_rfl) (p_zof 1 (by omega) (by omega)) ?_
  rintro _ _ ⟨u1, d1, rfl, rfl⟩   -- 1
  refine W.cl [] (by kernel_rfl) (p_zmul x.u x.d x.v x.e) ?_
  rintro _ _ ⟨u2, d2, rfl, rfl⟩   -- (S.m * S.n)
  refine W.unr [] 6 (by kernel_rfl) ?_
  refine W.cl [30] (by kernel_rfl) (p_xabout x.p.n x.p.a x.p.m x.p.b u1 d1 8 rfl) ?_
  rintro _ _ ⟨u3, d3, rfl, rfl⟩   -- (qab S.p 1 8)
  refine W.cl [] (by kernel_rfl) (p_zadd ⟨none, 0, 0⟩ false u3 d3) ?_
  rintro _ _ ⟨u4, d4, rfl, rfl⟩   -- (0 + (qab S.p 1 8))
  refine W.cl [30] (by kernel_rfl) (p_xabout x.q.n x.q.a x.q.m x.q.b x.u x.d 8 rfl) ?_
  rintro _ _ ⟨u5, d5, rfl, rfl⟩   -- (qab S.q S.m 8)
  refine W.cl [] (by kernel_rfl) (p_zadd u4 d4 u5 d5) ?_
  rintro _ _ ⟨u6, d6, rfl, rfl⟩   -- ((0 + (qab S.p 1 8)) + (qab S.q S.m 8))
  refine W.cl [30] (by kernel_rfl) (p_xabout x.r.n x.r.a x.r.m x.r.b x.v x.e 8 rfl) ?_
  rintro _ _ ⟨u7, d7, rfl, rfl⟩   -- (qab S.r S.n 8)
  refine W.cl [] (by kernel_rfl) (p_zadd u6 d6 u7 d7) ?_
  rintro _ _ ⟨u8, d8, rfl, rfl⟩   -- (((0 + (qab S.p 1 8)) + (qab S.q S.m 8)) + (qab S.r S.n 8))
  refine W.cl [30] (by kernel_rfl) (p_xabout x.s.n x.s.a x.s.m x.s.b u2 d2 8 rfl) ?_
  rintro _ _ ⟨u9, d9, rfl, rfl⟩   -- (qab S.s (S.m * S.n) 8)
  refine W.cl [] (by kernel_rfl) (p_zadd u8 d8 u9 d9) ?_
  rintro _ _ ⟨u10, d10, rfl, rfl⟩   -- ((((0 + (qab S.p 1 8)) + (qab S.q S.m 8)) + (qab S.r S.n 8)) + (qab S.s (S.m * S.n) 8))
  refine W.cl [30] (by kernel_rfl) (p_zof 256 (by omega) (by omega)) ?_
  rintro _ _ ⟨u11, d11, rfl, rfl⟩   -- 256
  refine W.cl [] (by kernel_rfl) (p_zfloor u10 d10 u11 d11 (by omega)) ?_
  rintro _ _ ⟨u12, d12, v12, e12, rfl, rfl⟩   -- (((((0 + (qab S.p 1 8)) + (qab S.q S.m 8)) + (qab S.r S.n 8)) + (qab S.s (S.m * S.n) 8)) / 256) (((((0 + (qab S.p 1 8)) + (qab S.q S.m 8)) + (qab S.r S.n 8)) + (qab S.s (S.m * S.n) 8)) % 256)
  refine W.unr [] 6 (by kernel_rfl) ?_
  refine W.cl [] (by kernel_rfl) (p_xless x u12 d12) ?_
  rintro _ _ ⟨rfl, rfl⟩
  refine W.df [] 50 ((decide ((S.lessq (((((0 + (qab S.p 1 8)) + (qab S.q S.m 8)) + (qab S.r S.n 8)) + (qab S.s (S.m * S.n) 8)) / 256)).sg < 0))) (by kernel_rfl) (by rw [decide_eq_false_iff_not, ← hlow]; exact hf.1) ?_
  refine W.unr [50] 6 (by kernel_rfl) ?_
  refine W.cl [] (by kernel_rfl) (p_zadd u12 d12 u1 d1) ?_
  rintro _ _ ⟨u14, d14, rfl, rfl⟩   -- ((((((0 + (qab S.p 1 8)) + (qab S.q S.m 8)) + (qab S.r S.n 8)) + (qab S.s (S.m * S.n) 8)) / 256) + 1)
  refine W.cl [] (by kernel_rfl) (p_xless x u14 d14) ?_
  rintro _ _ ⟨rfl, rfl⟩
  refine W.df [] 59 (!(decide ((S.lessq ((((((0 + (qab S.p 1 8)) + (qab S.q S.m 8)) + (qab S.r S.n 8)) + (qab S.s (S.m * S.n) 8)) / 256) + 1)).sg < 0))) (by kernel_rfl) (by rw [Bool.not_eq_false', decide_eq_true_eq, ← hlow]; exact hf.2) ?_
  exact W.r [59] (zv u12 d12) (by kernel_rfl) ⟨_, _, rfl, rfl⟩ (entZ (by omega) rfl)
end
end Go.Proofs.YtabpaiboodllbaaGreat
