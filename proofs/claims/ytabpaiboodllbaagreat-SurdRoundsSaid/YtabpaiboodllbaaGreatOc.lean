
/- Octant's reference; what its laws share. -/
import Derived.Test.YtabpaiboodllbaaGreatOb
import Derived.Test.YtabpaiboodllbaaGreatWe
set_option linter.unusedSimpArgs false
set_option linter.unusedVariables false
namespace Go.Proofs.YtabpaiboodllbaaGreat
open Go.RowKit Go.IntWalk

def SpPost (L : Nat) (X Y : Sn) (v : Value) (Δ : List Fact) : Prop := ∃ x y : Tw, v = spv x y ∧ Δ = [TF x (L, X), TF y (L, Y)]
section
variable {fin : VS → List Fact → Prop} {Γ : List Fact} {L M K : Nat}
theorem entTr {Y : Tw} {p q : Pw} {L1 L2 L3 L' : Nat} {T : Sn} {x y : Rat} {S : Sn} [h1 : Has (TF Y) (L1, T) Γ] [h2 : Has (PG p) (L2, x) Γ] [h3 : Has (PG q) (L3, y) Γ] (hS : (⟨T.m, T.n, x, y, T.r, T.s⟩ : Sn) = S) (hL : L1 ≤ L' ∧ L2 ≤ L' ∧ L3 ≤ L') :
    ∀ (I : Blk) (w : World), DataOK tb I w → Holds Γ I w → Holds [TF ⟨Y.d, Y.u, Y.e, Y.v, p, q, Y.r, Y.s⟩ (L', S)] I w := fun I w _ hh => by
  subst hS
  obtain ⟨g1, g2, g3, g4, g5, g6⟩ := h1.p hh
  exact holds1 ⟨YF.up2 g1 hL.1, YF.up2 g2 hL.1, PF.up2 (h2.p hh) hL.2.1, PF.up2 (h3.p hh) hL.2.2, PF.up2 g5 hL.1, PF.up2 g6 hL.1⟩
theorem entSp2 {x y : Tw} {L1 L2 L' : Nat} {X X' Y Y' : Sn} [h1 : Has (TF x) (L1, X) Γ] [h2 : Has (TF y) (L2, Y) Γ] (hL : L1 ≤ L' ∧ L2 ≤ L') (e1 : X = X') (e2 : Y = Y') : ∀ (I : Blk) (w : World), DataOK tb I w → Holds Γ I w → Holds [TF x (L', X'), TF y (L', Y')] I w := fun I w hd hh => by
  exact Holds.cons ((entT' (Γ := Γ) (x := x) hL.1 e1) I w hd hh).h0' (entT' (Γ := Γ) (x := y) hL.2 e2 I w hd hh)
theorem r_root (S : Int) (s : Sl) (R : Int) (t : Sl) (S' : Int) (s' : Sl) (R' : Int) (t' : Sl) {x y : Rat} [Has (PF S s R t) (L, x) Γ] [Has (PF S' s' R' t') (M, y) Γ] :
    PCalls tb Tryz.prog 149 [pv S s R t, pv S' s' R' t'] Γ (TPost (max 6 (max L M)) (r2 x y)) := by
  refine PCalls.of_W tbOk Tryz.func149 rfl (by kernel_rfl) ?_
  refine W.cl [] (by kernel_rfl) (p_yof 2 (by omega) (by omega)) ?_
  rintro _ _ ⟨S1, t1, rfl, rfl⟩   -- 2
  refine W.cl [] (by kernel_rfl) (p_yof 0 (by omega) (by omega)) ?_
  rintro _ _ ⟨S2, t2, rfl, rfl⟩   -- 0
  refine W.cl [] (by kernel_rfl) (s_zero S1 t1 S2 t2) ?_
  rintro _ _ ⟨Y3, rfl, rfl⟩   -- (Sn.mk 2 0 0 0 0 0)
  exact W.r [] (tv ⟨Y3.d, Y3.u, Y3.e, Y3.v, ⟨S, s, R, t⟩, ⟨S', s', R', t'⟩, Y3.r, Y3.s⟩) (by kernel_rfl) ⟨_, rfl, rfl⟩ (entTr (p := ⟨S, s, R, t⟩) (q := ⟨S', s', R', t'⟩) rfl (by omega))
theorem r_num (S : Int) (s : Sl) (R : Int) (t : Sl) {x : Rat} [Has (PF S s R t) (L, x) Γ] :
    PCalls tb Tryz.prog 97 [pv S s R t] Γ (TPost (max 6 L) (r2 x 0)) := by
  refine PCalls.of_W tbOk Tryz.func97 rfl (by kernel_rfl) ?_
  refine W.cl [] (by kernel_rfl) (s_of 0 (by omega) (by omega)) ?_
  rintro _ _ ⟨S1, s1, R1, t1, rfl, rfl⟩   -- (0 : Rat)
  refine W.cl [] (by kernel_rfl) (r_root S s R t S1 s1 R1 t1) ?_
  rintro _ _ ⟨Y2, rfl, rfl⟩
  exact W.r [] (tv Y2) (by kernel_rfl) ⟨_, rfl, rfl⟩ (entT' (by omega) rfl)
theorem r_whole8 (a b : Int) (ha : -9223372036854775808 ≤ a ∧ a < 9223372036854775808) (hb : -9223372036854775808 ≤ b ∧ b < 9223372036854775808) :
    PCalls tb Tryz.prog 31 [.int .i64 a, .int .i64 b] Γ (SpPost 6 (r2 a 0) (r2 b 0)) := by
  refine PCalls.of_W tbOk Tryz.func31 rfl (by kernel_rfl) ?_
  refine W.cl [] (by kernel_rfl) (s_of a (by omega) (by omega)) ?_
  rintro _ _ ⟨S1, s1, R1, t1, rfl, rfl⟩   -- (a : Rat)
  refine W.cl [] (by kernel_rfl) (r_num S1 s1 R1 t1) ?_
  rintro _ _ ⟨Y2, rfl, rfl⟩
  refine W.cl [] (by kernel_rfl) (s_of b (by omega) (by omega)) ?_
  rintro _ _ ⟨S3, s3, R3, t3, rfl, rfl⟩   -- (b : Rat)
  refine W.cl [] (by kernel_rfl) (r_num S3 s3 R3 t3) ?_
  rintro _ _ ⟨Y4, rfl, rfl⟩
  exact W.r [] (spv Y2 Y4) (by kernel_rfl) ⟨_, _, rfl, rfl⟩ (entSp2 (by omega) rfl rfl)
theorem p_osame (x : Sw) (y : Tw) {S : Sn} [Has (SF x) (L, S) Γ] [Has (TF y) (M, S) Γ] (hL : L ≤ 1000000 := by omega) (hM : M ≤ 1000000 := by omega) :
    PCalls tb Tryz.prog 105 [sv x, tv y] Γ (IsV (.bool true)) := by
  refine PCalls.of_W tbOk Tryz.func105 rfl (by kernel_rfl) ?_
  refine W.sf x rfl ?_
  refine W.tf y rfl ?_
  refine W.cl [] (by kernel_rfl) (p_xfield x) ?_
  rintro _ _ ⟨rfl, rfl⟩
  refine W.cl [] (by kernel_rfl) (p_xparts x) ?_
  rintro _ _ ⟨rfl, rfl⟩
  refine W.unr [] 6 (by kernel_rfl) ?_
  refine W.cl [17] (by kernel_rfl) (p_qtext x.p.n x.p.a x.p.m x.p.b) ?_
  rintro _ _ ⟨rfl, rfl⟩
  refine W.cl [] (by kernel_rfl) (s_text y.p.n y.p.a y.p.m y.p.b) ?_
  rintro _ _ ⟨rfl, rfl⟩
  refine W.df [] 29 (!(qtxt S.p).toList == (qtxt S.p).toList) (by kernel_rfl) (by simp) ?_
  refine W.cl [17, 29] (by kernel_rfl) (p_qtext x.q.n x.q.a x.q.m x.q.b) ?_
  rintro _ _ ⟨rfl, rfl⟩
  refine W.cl [] (by kernel_rfl) (s_text y.q.n y.q.a y.q.m y.q.b) ?_
  rintro _ _ ⟨rfl, rfl⟩
  refine W.df [] 29 (!(qtxt S.q).toList == (qtxt S.q).toList) (by kernel_rfl) (by simp) ?_
  refine W.cl [17, 29] (by kernel_rfl) (p_qtext x.r.n x.r.a x.r.m x.r.b) ?_
  rintro _ _ ⟨rfl, rfl⟩
  refine W.cl [] (by kernel_rfl) (s_text y.r.n y.r.a y.r.m y.r.b) ?_
  rintro _ _ ⟨rfl, rfl⟩
  refine W.df [] 29 (!(qtxt S.r).toList == (qtxt S.r).toList) (by kernel_rfl) (by simp) ?_
  refine W.cl [17, 29] (by kernel_rfl) (p_qtext x.s.n x.s.a x.s.m x.s.b) ?_
  rintro _ _ ⟨rfl, rfl⟩
  refine W.cl [] (by kernel_rfl) (s_text y.s.n y.s.a y.s.m y.s.b) ?_
  rintro _ _ ⟨rfl, rfl⟩
  refine W.df [] 29 (!(qtxt S.s).toList == (qtxt S.s).toList) (by kernel_rfl) (by simp) ?_
  refine W.cl [17, 29] (by kernel_rfl) (p_ztext x.u x.d) ?_
  rintro _ _ ⟨rfl, rfl⟩
  refine W.cl [] (by kernel_rfl) (p_ytext y.d y.u) ?_
  rintro _ _ ⟨rfl, rfl⟩
  refine W.dt [] 36 ((ztxt S.m).toList == (ztxt S.m).toList) (by kernel_rfl) (by simp) ?_
  refine W.cl [36] (by kernel_rfl) (p_ztext x.v x.e) ?_
  rintro _ _ ⟨rfl, rfl⟩
  refine W.cl [36] (by kernel_rfl) (p_ytext y.e y.v) ?_
  rintro _ _ ⟨rfl, rfl⟩
  exact W.r [36] (.bool ((ztxt S.n).toList == (ztxt S.n).toList)) (by kernel_rfl) ⟨by simp, rfl⟩ ent0
theorem p_oalike (x y : Sw) (s t : Tw) {X Y : Sn} {L1 L2 L3 L4 : Nat} [Has (SF x) (L1, X) Γ] [Has (SF y) (L2, Y) Γ] [Has (TF s) (L3, X) Γ] [Has (TF t) (L4, Y) Γ] (hL : L1 ≤ 1000000 ∧ L2 ≤ 1000000 ∧ L3 ≤ 1000000 ∧ L4 ≤ 1000000 := by omega) :
    PCalls tb Tryz.prog 45 [plv x y, spv s t] Γ (IsV (.bool true)) := by
  refine PCalls.of_W tbOk Tryz.func45 rfl (by kernel_rfl) ?_
  refine W.cl [] (by kernel_rfl) (p_osame x s) ?_
  rintro _ _ ⟨rfl, rfl⟩
  refine W.cl [10] (by kernel_rfl) (p_osame y t) ?_
  rintro _ _ ⟨rfl, rfl⟩
  exact W.r [10] (.bool true) (by kernel_rfl) ⟨rfl, rfl⟩ ent0
theorem p_zsmallT (s : Sl) (b : Bool) {x : Int} [Has (ZF s b) (L, x) Γ] (h : small x = true) (hL : L ≤ 1000000000000 := by omega) : PCalls tb Tryz.prog 90 [zv s b] Γ (IsV (.tuple #[.int .i64 x, .bool true])) := by
  have g := p_zsmall (Γ := Γ) s b (x := x)
  simpa only [h, if_true] using g
theorem p_xnearT (x : Sw) {S : Sn} [Has (SF x) (L, S) Γ] (a : Int) (ha : S.near = a) (hf : S.half.floors = true) (hL : L ≤ 280 := by omega) : PCalls tb Tryz.prog 17 [sv x] Γ (ZPost (10 * L + 500) a) := by
  subst ha
  exact p_xnear x hf
theorem p_ogrid (x y : Sw) {X Y : Sn} [Has (SF x) (L, X) Γ] [Has (SF y) (M, Y) Γ] (hX : X.half.floors = true) (hY : Y.half.floors = true) (a b : Int) (ha : X.near = a) (hb : Y.near = b) (sa : small a = true) (sb : small b = true) (ba : -1000 ≤ a ∧ a ≤ 1000) (bb : -1000 ≤ b ∧ b ≤ 1000) (hL : L ≤ 280 := by omega) (hM : M ≤ 280 := by omega) :
    PCalls tb Tryz.prog 27 [plv x y] Γ (IsV (.tuple #[.agg #[.int .i64 a, .int .i64 b], .int .i64 0])) := by
  refine PCalls.of_W tbOk Tryz.func27 rfl (by kernel_rfl) ?_
  refine W.cl [] (by kernel_rfl) (p_xnearT x a ha hX) ?_
  rintro _ _ ⟨u1, d1, rfl, rfl⟩   -- NEAR
  refine W.cl [] (by kernel_rfl) (p_zsmallT u1 d1 sa) ?_
  rintro _ _ ⟨rfl, rfl⟩
  refine W.cl [] (by kernel_rfl) (p_xnearT y b hb hY) ?_
  rintro _ _ ⟨u3, d3, rfl, rfl⟩   -- NEAR
  refine W.cl [] (by kernel_rfl) (p_zsmallT u3 d3 sb) ?_
  rintro _ _ ⟨rfl, rfl⟩
  refine W.df [] 24 (!true) (by kernel_rfl) (rfl) ?_
  refine W.df [24] 28 (!true) (by kernel_rfl) (rfl) ?_
  refine W.df [28] 32 (decide (a < -2147483648)) (by kernel_rfl) (by rw [decide_eq_false_iff_not]; omega) ?_
  refine W.df [32] 36 (decide (a > 2147483647)) (by kernel_rfl) (by rw [decide_eq_false_iff_not]; omega) ?_
  refine W.df [36] 40 (decide (b < -2147483648)) (by kernel_rfl) (by rw [decide_eq_false_iff_not]; omega) ?_
  refine W.df [40] 43 (decide (b > 2147483647)) (by kernel_rfl) (by rw [decide_eq_false_iff_not]; omega) ?_
  exact W.r [43] (.tuple #[.agg #[.int .i64 a, .int .i64 b], .int .i64 0]) (by kernel_rfl) ⟨rfl, rfl⟩ ent0
end
end Go.Proofs.YtabpaiboodllbaaGreat
