/- The reference of outline: does a place lie on a line? Places as the document's numbers. -/
import Derived.Test.YtaafmafdnnjmdaaGreatQe
import Derived.Test.YtaafmafdnnjmdaaGreatFb
import Derived.Test.YtaafmafdnnjmdaaGreatRr
import Derived.Test.YtaafmafdnnjmdaaGreatOx
set_option linter.unusedSimpArgs false
set_option linter.unusedVariables false
namespace Go.Proofs.YtaafmafdnnjmdaaGreat
open Go.RowKit Go.IntWalk
section
variable {Γ : List Fact} {L M K K' : Nat}
set_option maxHeartbeats 2000000 in
theorem r_sgn0 (x : Tw) {S : Sn} [Has (TF x) (L, S) Γ] (hm : 0 ≤ S.m) (hn : 0 ≤ S.n) (h0 : S.fold.nil) (hL : L ≤ 50000 := by omega) :
    PCalls tb Tryz.prog 43 [tv x] Γ (IsV (.int .i64 0)) := by
  obtain ⟨f1, f2, f3, f4⟩ := h0
  refine PCalls.of_W tbOk Tryz.func43 rfl (by kernel_rfl) ?_
  refine W.cl [] (by kernel_rfl) (r_fold x hm hn) ?_
  rintro _ _ ⟨Y1, rfl, rfl⟩
  obtain ⟨F, hF⟩ : ∃ F, F = S.fold := ⟨_, rfl⟩
  rw [← hF] at f1 f2 f3 f4 ⊢
  refine W.code 999 ?_
  refine W.tf Y1 (by kernel_rfl) ?_
  refine W.pn Y1.p.n Y1.p.a Y1.p.m Y1.p.b (by kernel_rfl) (fun hp => ?_)
  refine W.pn Y1.q.n Y1.q.a Y1.q.m Y1.q.b (by kernel_rfl) (fun hq => ?_)
  refine W.pn Y1.r.n Y1.r.a Y1.r.m Y1.r.b (by kernel_rfl) (fun hr => ?_)
  refine W.pn Y1.s.n Y1.s.a Y1.s.m Y1.s.b (by kernel_rfl) (fun hs => ?_)
  refine W.lp [] [4, 5] (fun a : Nat × Bool => [(4, .bool a.2), (5, .int .i64 (a.1 : Int))]) (fun _ => []) (fun _ => []) (fun a => a.1 ≤ 4 ∧ a.2 = true) (fun a => 4 - a.1) (0, true) (by kernel_rfl) (by kernel_rfl) ⟨by decide, rfl⟩ ent0 ?_
  rintro ⟨i, z⟩ R ⟨hi, hz⟩ close
  simp only at hi hz
  by_cases h4 : i < 4
  · refine W.dt [] 12 (decide ((i : Int) < 4)) (by kernel_rfl) (by rw [decide_eq_true_iff]; omega) ?_
    have hcase : i = 0 ∨ i = 1 ∨ i = 2 ∨ i = 3 := by omega
    rcases hcase with rfl | rfl | rfl | rfl
    · refine W.dt [12] 16 z (by kernel_rfl) hz ?_
      exact close [16] _ _ (1, Y1.p.n == 0) (by kernel_rfl) (by kernel_rfl) ⟨by simp only; omega, by simp only; rw [hp, sign_nz]; exact f1⟩ (by simp only; omega) ent0
    · refine W.dt [12] 16 z (by kernel_rfl) hz ?_
      exact close [16] _ _ (2, Y1.q.n == 0) (by kernel_rfl) (by kernel_rfl) ⟨by simp only; omega, by simp only; rw [hq, sign_nz]; exact f2⟩ (by simp only; omega) ent0
    · refine W.dt [12] 16 z (by kernel_rfl) hz ?_
      exact close [16] _ _ (3, Y1.r.n == 0) (by kernel_rfl) (by kernel_rfl) ⟨by simp only; omega, by simp only; rw [hr, sign_nz]; exact f3⟩ (by simp only; omega) ent0
    · refine W.dt [12] 16 z (by kernel_rfl) hz ?_
      exact close [16] _ _ (4, Y1.s.n == 0) (by kernel_rfl) (by kernel_rfl) ⟨by simp only; omega, by simp only; rw [hs, sign_nz]; exact f4⟩ (by simp only; omega) ent0
  · obtain rfl : i = 4 := by omega
    refine W.df [] 12 (decide (((4 : Nat) : Int) < 4)) (by kernel_rfl) (by decide) ?_
    refine W.dt [12] 25 z (by kernel_rfl) hz ?_
    exact W.r [25] (.int .i64 0) (by kernel_rfl) ⟨rfl, rfl⟩ ent0
set_option maxHeartbeats 2000000 in
theorem r_root9 (p d : Dp) (S : Int) (s : Sl) (R : Int) (t : Sl) (M' : Int) (u : Sl) (sl : Bool) (S1 : Int) (u1 : Sl) (S2 : Int) (u2 : Sl) {r : Rat} {Mz m n : Int} [Has (PF S s R t) (L, r) Γ] [Has (YF M' u) (M, Mz) Γ] [Has (YF S1 u1) (K, m) Γ] [Has (YF S2 u2) (K', n) Γ] (hL : L ≤ 5000 ∧ M ≤ 5000 ∧ K ≤ 5000 ∧ K' ≤ 5000 := by omega) :
    PCalls tb Tryz.prog 45 [.agg (lnc ⟨p, d, S, s, R, t, M', u, sl⟩).toArray, yv S1 u1, yv S2 u2] Γ (TPost (L + K + K' + 20) (rootS ⟨p, d, r, Mz, sl⟩ m n)) := by
  refine PCalls.of_W tbOk Tryz.func45 rfl (by kernel_rfl) ?_
  refine W.cl [] (by kernel_rfl) (s_zero S1 u1 S2 u2) ?_
  rintro _ _ ⟨Y1, rfl, rfl⟩
  refine W.cl [] (by kernel_rfl) (p_ycmp M' u S1 u1) ?_
  rintro _ _ ⟨rfl, rfl⟩
  refine W.code 999 ?_
  refine W.tf Y1 (by kernel_rfl) ?_
  by_cases hm : Mz = m
  · have hc : cmpZ Mz m = 0 := by unfold cmpZ; simp [hm]
    rw [hc]
    cases sl with
    | false =>
      have hr : rootS ⟨p, d, r, Mz, false⟩ m n = ⟨m, n, 0, r, 0, 0⟩ := by unfold rootS; rw [if_neg (by simp), if_pos hm]
      rw [hr]
      exact W.r [23, 16] (tv ⟨Y1.d, Y1.u, Y1.e, Y1.v, Y1.p, ⟨S, s, R, t⟩, Y1.r, Y1.s⟩) (by kernel_rfl) ⟨_, rfl, rfl⟩ (entT rfl rfl rfl rfl rfl rfl (by omega))
    | true =>
      have hr : rootS ⟨p, d, r, Mz, true⟩ m n = ⟨m, n, 0, 0, 0, r * Rat.divInt 1 2⟩ := by unfold rootS; rw [if_pos rfl]
      rw [hr]
      refine W.cl [23, 16] (by kernel_rfl) (s_of 0 (by omega) (by omega)) ?_
      rintro _ _ ⟨S3, s3, R3, t3, rfl, rfl⟩
      refine W.cl [] (by kernel_rfl) (s_frac 1 2 (by decide) (by decide) (by decide) (by decide)) ?_
      rintro _ _ ⟨S4, s4, R4, t4, rfl, rfl⟩
      refine W.cl [] (by kernel_rfl) (s_mul S s R t S4 s4 R4 t4) ?_
      rintro _ _ ⟨S5, s5, R5, t5, rfl, rfl⟩
      exact W.r [] (tv ⟨Y1.d, Y1.u, Y1.e, Y1.v, Y1.p, ⟨S3, s3, R3, t3⟩, Y1.r, ⟨S5, s5, R5, t5⟩⟩) (by kernel_rfl) ⟨_, rfl, rfl⟩ (entT rfl rfl rfl rfl rfl rfl (by omega))
  · have hc : (cmpZ Mz m != 0) = true := by
      simp only [bne_iff_ne]
      exact fun h => hm (cmpZ_eq.1 h)
    refine W.dt [] 16 (cmpZ Mz m != 0) (by kernel_rfl) hc ?_
    cases sl with
    | false =>
      have hr : rootS ⟨p, d, r, Mz, false⟩ m n = ⟨m, n, 0, 0, r, 0⟩ := by unfold rootS; rw [if_neg (by simp), if_neg hm]
      rw [hr]
      exact W.r [23, 16] (tv ⟨Y1.d, Y1.u, Y1.e, Y1.v, Y1.p, Y1.q, ⟨S, s, R, t⟩, Y1.s⟩) (by kernel_rfl) ⟨_, rfl, rfl⟩ (entT rfl rfl rfl rfl rfl rfl (by omega))
    | true =>
      have hr : rootS ⟨p, d, r, Mz, true⟩ m n = ⟨m, n, 0, 0, 0, r * Rat.divInt 1 2⟩ := by unfold rootS; rw [if_pos rfl]
      rw [hr]
      refine W.cl [23, 16] (by kernel_rfl) (s_of 0 (by omega) (by omega)) ?_
      rintro _ _ ⟨S3, s3, R3, t3, rfl, rfl⟩
      refine W.cl [] (by kernel_rfl) (s_frac 1 2 (by decide) (by decide) (by decide) (by decide)) ?_
      rintro _ _ ⟨S4, s4, R4, t4, rfl, rfl⟩
      refine W.cl [] (by kernel_rfl) (s_mul S s R t S4 s4 R4 t4) ?_
      rintro _ _ ⟨S5, s5, R5, t5, rfl, rfl⟩
      exact W.r [] (tv ⟨Y1.d, Y1.u, Y1.e, Y1.v, Y1.p, Y1.q, ⟨S3, s3, R3, t3⟩, ⟨S5, s5, R5, t5⟩⟩) (by kernel_rfl) ⟨_, rfl, rfl⟩ (entT rfl rfl rfl rfl rfl rfl (by omega))
set_option maxHeartbeats 2000000 in
theorem r_on9 (x : LnC) (X Y : Tw) {r : Rat} {Mz : Int} {SX SY : Sn} [Has (PF x.S x.s x.R x.t) (L, r) Γ] [Has (YF x.M x.u) (M, Mz) Γ] [Has (TF X) (K, SX) Γ] [Has (TF Y) (K', SY) Γ] (hp : inD 2147483648 x.p) (hd : inD 4294967296 x.d) (hm : 0 ≤ SX.m) (hn : 0 ≤ SX.n)
    (h0 : (onS ⟨x.p, x.d, r, Mz, x.sl⟩ SX SY).fold.nil) (hL : L ≤ 1000 ∧ M ≤ 1000 ∧ K ≤ 1000 ∧ K' ≤ 1000 := by omega) :
    PCalls tb Tryz.prog 10 [.agg (lnc x).toArray, tv X, tv Y] Γ (IsV (.bool true)) := by
  unfold inD at hp hd
  refine PCalls.of_W tbOk Tryz.func10 rfl (by kernel_rfl) ?_
  refine W.tf X (by kernel_rfl) ?_
  refine W.tf Y (by kernel_rfl) ?_
  refine W.cl [] (by kernel_rfl) (s_zero X.d X.u X.e X.v) ?_
  rintro _ _ ⟨Y1, rfl, rfl⟩
  refine W.cl [] (by kernel_rfl) (s_zero X.d X.u X.e X.v) ?_
  rintro _ _ ⟨Y2, rfl, rfl⟩
  refine W.cl [] (by kernel_rfl) (s_of x.d.x (by omega) (by omega)) ?_
  rintro _ _ ⟨S3, s3, R3, t3, rfl, rfl⟩
  refine W.cl [] (by kernel_rfl) (s_of x.d.y (by omega) (by omega)) ?_
  rintro _ _ ⟨S4, s4, R4, t4, rfl, rfl⟩
  refine W.cl [] (by kernel_rfl) (s_of x.p.x (by omega) (by omega)) ?_
  rintro _ _ ⟨S5, s5, R5, t5, rfl, rfl⟩
  refine W.cl [] (by kernel_rfl) (s_sub X.p.n X.p.a X.p.m X.p.b S5 s5 R5 t5) ?_
  rintro _ _ ⟨S6, s6, R6, t6, rfl, rfl⟩
  refine W.cl [] (by kernel_rfl) (s_of x.p.y (by omega) (by omega)) ?_
  rintro _ _ ⟨S7, s7, R7, t7, rfl, rfl⟩
  refine W.cl [] (by kernel_rfl) (s_sub Y.p.n Y.p.a Y.p.m Y.p.b S7 s7 R7 t7) ?_
  rintro _ _ ⟨S8, s8, R8, t8, rfl, rfl⟩
  refine W.code 999 ?_
  refine W.tf Y1 (by kernel_rfl) ?_
  refine W.tf Y2 (by kernel_rfl) ?_
  refine W.more (by kernel_rfl) (entT (x := ⟨Y1.d, Y1.u, Y1.e, Y1.v, ⟨S3, s3, R3, t3⟩, Y1.q, Y1.r, Y1.s⟩) (L' := K + 10) (S := ⟨SX.m, SX.n, (x.d.x : Rat), 0, 0, 0⟩) rfl rfl rfl rfl rfl rfl (by omega)) ?_
  refine W.more (by kernel_rfl) (entT (x := ⟨X.d, X.u, X.e, X.v, ⟨S6, s6, R6, t6⟩, X.q, X.r, X.s⟩) (L' := K + 10) (S := ⟨SX.m, SX.n, SX.p - (x.p.x : Rat), SX.q, SX.r, SX.s⟩) rfl rfl rfl rfl rfl rfl (by omega)) ?_
  refine W.more (by kernel_rfl) (entT (x := ⟨Y2.d, Y2.u, Y2.e, Y2.v, ⟨S4, s4, R4, t4⟩, Y2.q, Y2.r, Y2.s⟩) (L' := K + 10) (S := ⟨SX.m, SX.n, (x.d.y : Rat), 0, 0, 0⟩) rfl rfl rfl rfl rfl rfl (by omega)) ?_
  refine W.more (by kernel_rfl) (entT (x := ⟨Y.d, Y.u, Y.e, Y.v, ⟨S8, s8, R8, t8⟩, Y.q, Y.r, Y.s⟩) (L' := K' + 10) (S := ⟨SY.m, SY.n, SY.p - (x.p.y : Rat), SY.q, SY.r, SY.s⟩) rfl rfl rfl rfl rfl rfl (by omega)) ?_
  refine W.sub (by kernel_rfl) (Δ := [TF (⟨Y1.d, Y1.u, Y1.e, Y1.v, ⟨S3, s3, R3, t3⟩, Y1.q, Y1.r, Y1.s⟩ : Tw) (K + 10, (⟨SX.m, SX.n, (x.d.x : Rat), 0, 0, 0⟩ : Sn)), TF (⟨X.d, X.u, X.e, X.v, ⟨S6, s6, R6, t6⟩, X.q, X.r, X.s⟩ : Tw) (K + 10, (⟨SX.m, SX.n, SX.p - (x.p.x : Rat), SX.q, SX.r, SX.s⟩ : Sn)), TF (⟨Y2.d, Y2.u, Y2.e, Y2.v, ⟨S4, s4, R4, t4⟩, Y2.q, Y2.r, Y2.s⟩ : Tw) (K + 10, (⟨SX.m, SX.n, (x.d.y : Rat), 0, 0, 0⟩ : Sn)), TF (⟨Y.d, Y.u, Y.e, Y.v, ⟨S8, s8, R8, t8⟩, Y.q, Y.r, Y.s⟩ : Tw) (K' + 10, (⟨SY.m, SY.n, SY.p - (x.p.y : Rat), SY.q, SY.r, SY.s⟩ : Sn)), PF x.S x.s x.R x.t (L, r), YF x.M x.u (M, Mz), YF X.d X.u (K, SX.m), YF X.e X.v (K, SX.n)]) ((entC entK (entC entK (entC entK (entC entK (entC entK (entC entK (entC entK (entC entK entE))))))))) ?_
  refine W.cl [] (by kernel_rfl) (r_xmul ⟨Y1.d, Y1.u, Y1.e, Y1.v, ⟨S3, s3, R3, t3⟩, Y1.q, Y1.r, Y1.s⟩ (S := ⟨SX.m, SX.n, (x.d.x : Rat), 0, 0, 0⟩) ⟨X.d, X.u, X.e, X.v, ⟨S6, s6, R6, t6⟩, X.q, X.r, X.s⟩ (T := ⟨SX.m, SX.n, SX.p - (x.p.x : Rat), SX.q, SX.r, SX.s⟩)) ?_
  rintro _ _ ⟨Y9, rfl, rfl⟩
  refine W.cl [] (by kernel_rfl) (r_xmul ⟨Y2.d, Y2.u, Y2.e, Y2.v, ⟨S4, s4, R4, t4⟩, Y2.q, Y2.r, Y2.s⟩ (S := ⟨SX.m, SX.n, (x.d.y : Rat), 0, 0, 0⟩) ⟨Y.d, Y.u, Y.e, Y.v, ⟨S8, s8, R8, t8⟩, Y.q, Y.r, Y.s⟩ (T := ⟨SY.m, SY.n, SY.p - (x.p.y : Rat), SY.q, SY.r, SY.s⟩)) ?_
  rintro _ _ ⟨Y10, rfl, rfl⟩
  refine W.cl [] (by kernel_rfl) (r_xadd Y9 Y10) ?_
  rintro _ _ ⟨Y11, rfl, rfl⟩
  refine W.cl [] (by kernel_rfl) (r_root9 x.p x.d x.S x.s x.R x.t x.M x.u x.sl X.d X.u X.e X.v) ?_
  rintro _ _ ⟨Y12, rfl, rfl⟩
  refine W.cl [] (by kernel_rfl) (r_xneg Y12) ?_
  rintro _ _ ⟨Y13, rfl, rfl⟩
  refine W.cl [] (by kernel_rfl) (r_xadd Y11 Y13) ?_
  rintro _ _ ⟨Y14, rfl, rfl⟩
  refine W.cl [] (by kernel_rfl) (r_sgn0 Y14 (S := ((Sn.mul ⟨SX.m, SX.n, (x.d.x : Rat), 0, 0, 0⟩ ⟨SX.m, SX.n, SX.p - (x.p.x : Rat), SX.q, SX.r, SX.s⟩).add (Sn.mul ⟨SX.m, SX.n, (x.d.y : Rat), 0, 0, 0⟩ ⟨SY.m, SY.n, SY.p - (x.p.y : Rat), SY.q, SY.r, SY.s⟩)).add (rootS ⟨x.p, x.d, r, Mz, x.sl⟩ SX.m SX.n).neg) hm hn h0) ?_
  rintro _ _ ⟨rfl, rfl⟩
  exact W.r [] (.bool true) (by kernel_rfl) ⟨rfl, rfl⟩ ent0
set_option maxHeartbeats 2000000 in
theorem p_olnum (x : Sw) {S : Sn} [Has (SF x) (L, S) Γ] (j : Nat) (hj : j ≤ 200) (hb : bS (3 * j) S) (hL : L ≤ 1000 := by omega) :
    PCalls tb Tryz.prog 8 [sv x] Γ (fun v Δ => ∃ Y : Tw, v = .tuple #[tv Y, .bool true] ∧ Δ = [TF Y (405, S)]) := by
  obtain ⟨b1, b2, b3, b4, b5, b6⟩ := hb
  obtain ⟨m1, m2, m3⟩ := z_back (k := j) (by omega) b1
  obtain ⟨n1, n2, n3⟩ := z_back (k := j) (by omega) b2
  obtain ⟨p1, p2, p3⟩ := q_back (k := j) (by omega) b3.1 b3.2
  obtain ⟨q1, q2, q3⟩ := q_back (k := j) (by omega) b4.1 b4.2
  obtain ⟨r1, r2, r3⟩ := q_back (k := j) (by omega) b5.1 b5.2
  obtain ⟨s1, s2, s3⟩ := q_back (k := j) (by omega) b6.1 b6.2
  refine PCalls.of_W tbOk Tryz.func8 rfl (by kernel_rfl) ?_
  refine W.sf x (by kernel_rfl) ?_
  refine W.cl [] (by kernel_rfl) (p_xfield x) ?_
  rintro _ _ ⟨rfl, rfl⟩
  refine W.cl [] (by kernel_rfl) (p_ztext x.u x.d) ?_
  rintro _ _ ⟨rfl, rfl⟩
  refine W.cl [] (by kernel_rfl) (p_yparse (ztxt S.m) (by omega)) ?_
  rintro _ _ ⟨z3, u3, rfl, rfl⟩
  refine W.cl [] (by kernel_rfl) (p_ztext x.v x.e) ?_
  rintro _ _ ⟨rfl, rfl⟩
  refine W.cl [] (by kernel_rfl) (p_yparse (ztxt S.n) (by omega)) ?_
  rintro _ _ ⟨z5, u5, rfl, rfl⟩
  rw [m1, m2, n1, n2]
  refine W.cl [] (by kernel_rfl) (s_zero z3 u3 z5 u5) ?_
  rintro _ _ ⟨Y6, rfl, rfl⟩
  refine W.cl [] (by kernel_rfl) (p_xparts x) ?_
  rintro _ _ ⟨rfl, rfl⟩
  refine W.unr [] 5 (by kernel_rfl) ?_
  refine W.cl [38] (by kernel_rfl) (p_qtext x.p.n x.p.a x.p.m x.p.b) ?_
  rintro _ _ ⟨rfl, rfl⟩
  refine W.cl [] (by kernel_rfl) (s_parse (qtxt S.p) (by omega)) ?_
  rintro _ _ ⟨S9, s9, R9, t9, rfl, rfl⟩
  rw [p1, p2]
  refine W.cl [38, 50] (by kernel_rfl) (p_qtext x.q.n x.q.a x.q.m x.q.b) ?_
  rintro _ _ ⟨rfl, rfl⟩
  refine W.cl [] (by kernel_rfl) (s_parse (qtxt S.q) (by omega)) ?_
  rintro _ _ ⟨S11, s11, R11, t11, rfl, rfl⟩
  rw [q1, q2]
  refine W.cl [38, 50] (by kernel_rfl) (p_qtext x.r.n x.r.a x.r.m x.r.b) ?_
  rintro _ _ ⟨rfl, rfl⟩
  refine W.cl [] (by kernel_rfl) (s_parse (qtxt S.r) (by omega)) ?_
  rintro _ _ ⟨S13, s13, R13, t13, rfl, rfl⟩
  rw [r1, r2]
  refine W.cl [38, 50] (by kernel_rfl) (p_qtext x.s.n x.s.a x.s.m x.s.b) ?_
  rintro _ _ ⟨rfl, rfl⟩
  refine W.cl [] (by kernel_rfl) (s_parse (qtxt S.s) (by omega)) ?_
  rintro _ _ ⟨S15, s15, R15, t15, rfl, rfl⟩
  rw [s1, s2]
  refine W.code 999 ?_
  refine W.tf Y6 (by kernel_rfl) ?_
  exact W.r [38, 50, 59] (.tuple #[tv ⟨Y6.d, Y6.u, Y6.e, Y6.v, ⟨S9, s9, R9, t9⟩, ⟨S11, s11, R11, t11⟩, ⟨S13, s13, R13, t13⟩, ⟨S15, s15, R15, t15⟩⟩, .bool true]) (by kernel_rfl) ⟨_, rfl, rfl⟩ (entT (S := S) rfl rfl rfl rfl rfl rfl (by omega))
end
end Go.Proofs.YtaafmafdnnjmdaaGreat
