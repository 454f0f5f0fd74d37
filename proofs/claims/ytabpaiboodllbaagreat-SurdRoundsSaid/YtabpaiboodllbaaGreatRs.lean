
/- The reference's square, fold, bounds, between, less. -/
import Derived.Test.YtabpaiboodllbaaGreatSq
import Derived.Test.YtabpaiboodllbaaGreatRefT
import Derived.Test.YtabpaiboodllbaaGreatRc
import Derived.Test.YtabpaiboodllbaaGreatSd
set_option linter.unusedSimpArgs false
set_option linter.unusedVariables false
namespace Go.Proofs.YtabpaiboodllbaaGreat
open Go.RowKit Go.IntWalk

theorem made1 (x : Nat) : ((x : Int)).natAbs = x ∧ (x ≠ 0 → (1 : Int) = (x : Int).sign) := by
  refine ⟨by omega, fun h => ?_⟩
  exact (Int.sign_eq_one_of_pos (by omega)).symm
theorem fold_tt {S : Sn} (h1 : isSq S.m = true) (h2 : isSq S.n = true) : S.fold = ⟨S.m, S.n, 0 + (0 + S.p + rtq S.m * S.q) + rtq S.n * (0 + S.r + rtq S.m * S.s), 0 + 0 + rtq S.n * 0, 0, 0⟩ := by
  unfold Sn.fold Sn.f1
  rw [if_pos h1]
  unfold Sn.f2
  rw [if_pos h2]
  unfold Sn.f3
  rw [if_neg (fun h => by rw [h1] at h; simp at h)]
theorem fold_tf {S : Sn} (h1 : isSq S.m = true) (h2 : isSq S.n = false) : S.fold = ⟨S.m, S.n, 0 + S.p + rtq S.m * S.q, 0, 0 + S.r + rtq S.m * S.s, 0⟩ := by
  unfold Sn.fold Sn.f1
  rw [if_pos h1]
  unfold Sn.f2
  rw [if_neg (by rw [h2]; simp)]
  unfold Sn.f3
  rw [if_neg (fun h => by rw [h1] at h; simp at h)]
theorem fold_ft {S : Sn} (h1 : isSq S.m = false) (h2 : isSq S.n = true) : S.fold = ⟨S.m, S.n, 0 + S.p + rtq S.n * S.r, 0 + S.q + rtq S.n * S.s, 0, 0⟩ := by
  unfold Sn.fold Sn.f1
  rw [if_neg (by rw [h1]; simp)]
  unfold Sn.f2
  rw [if_pos h2]
  unfold Sn.f3
  rw [if_neg (fun h => by have := h.2.2; simp only at this; rw [h2] at this; simp at this)]
theorem fold_fft {S : Sn} (h1 : isSq S.m = false) (h2 : isSq S.n = false) (h3 : isSq (S.m * S.n) = true) : S.fold = ⟨S.m, S.n, 0 + S.p + rtq (S.m * S.n) * S.s, 0 + S.q + rtq (S.m * S.n) / (S.m : Rat) * S.r, 0, 0⟩ := by
  unfold Sn.fold Sn.f1
  rw [if_neg (by rw [h1]; simp)]
  unfold Sn.f2
  rw [if_neg (by rw [h2]; simp)]
  unfold Sn.f3
  rw [if_pos ⟨h3, h1, h2⟩]
theorem fold_fff {S : Sn} (h1 : isSq S.m = false) (h2 : isSq S.n = false) (h3 : isSq (S.m * S.n) = false) : S.fold = S := by
  unfold Sn.fold Sn.f1
  rw [if_neg (by rw [h1]; simp)]
  unfold Sn.f2
  rw [if_neg (by rw [h2]; simp)]
  unfold Sn.f3
  rw [if_neg (fun h => by rw [h3] at h; simp at h)]
theorem sq_ne {m : Int} (h : isSq m = false) : (m : Rat) ≠ 0 := fun e => by
  have : m = 0 := Rat.intCast_inj.1 e
  rw [this, isSq_zero] at h
  simp at h
def Sn.lessr (S : Sn) (y : Rat) : Sn := ⟨S.m, S.n, S.p - y, S.q, S.r, S.s⟩
theorem psum2 (p q : Pw) (x y : Rat) : psum [(⟨p, x⟩ : PE), ⟨q, y⟩] = 0 + x + y := rfl

section
variable {fin : VS → List Fact → Prop} {Γ : List Fact} {L M K : Nat}
theorem W.pn {P : Program} {c : Cfg} (S : Int) (s : Sl) (R : Int) (t : Sl) {q : Rat} [h : Has (PF S s R t) (L, q) Γ] (hm : midOps c.k = false) (hk : S = q.num.sign → W tb P fin c Γ) : W tb P fin c Γ :=
  W.know _ hm (fun _ _ _ hh => by
    obtain ⟨n, d, h1, h2, hd, hq⟩ := h.p hh
    rw [h1.2]
    exact sign_of hd hq) hk
theorem r_sum2 (b : Nat) (p q : Pw) {x y : Rat} {L1 L2 : Nat} [hr : Has (RowF b) ([(⟨p, x⟩ : PE), ⟨q, y⟩].flatMap PR.cells) Γ] [hp : Has (PG p) (L1, x) Γ] [hq : Has (PG q) (L2, y) Γ] (hL : L1 ≤ 100000 := by omega) (hM : L2 ≤ 100000 := by omega) :
    PCalls tb Tryz.prog 141 [.slice (some ⟨b, 0, none⟩) 2 2] Γ (PPost (6 + 2 * (max L1 L2 + 1)) (0 + x + y)) := by
  have h := r_sumB (Γ := Γ) b [(⟨p, x⟩ : PE), ⟨q, y⟩] 2 (K := max L1 L2) rfl (by omega) (fun I w hd hh e he => by
    simp only [List.mem_cons, List.not_mem_nil, or_false] at he
    rcases he with rfl | rfl
    · exact PF.up2 (hp.p hh) (by omega)
    · exact PF.up2 (hq.p hh) (by omega)) (by omega)
  rw [psum2] at h
  exact h
theorem r_square (S : Int) (s : Sl) {n : Int} [Has (YF S s) (L, n) Γ] (hn : 0 ≤ n) (hL : L ≤ 1000000 := by omega) :
    PCalls tb Tryz.prog 140 [yv S s] Γ (fun v Δ => ∃ (S : Int) (s : Sl) (R : Int) (t : Sl), v = .tuple #[pv S s R t, .bool (isSq n)] ∧ Δ = [PF S s R t (max L 6, rtq n)]) := by
  refine PCalls.of_W tbOk Tryz.func140 rfl (by kernel_rfl) ?_
  refine W.yr S s rfl ?_
  intro hS hz
  refine W.cl [] (by kernel_rfl) (r_rootn s) ?_
  rintro _ _ ⟨u1, t1, rfl, rfl⟩
  refine W.code 999 ?_
  refine W.rz t1 (by kernel_rfl) (fun h0 => ?_)
  refine W.cl [] (by kernel_rfl) (p_ymade 1 ((isq n.natAbs : Nat) : Int) u1 (made1 _)) ?_
  rintro _ _ ⟨S2, t2, rfl, rfl⟩
  refine W.cl [] (by kernel_rfl) (r_whole S2 t2) ?_
  rintro _ _ ⟨S3, s3, R3, t3, rfl, rfl⟩
  have e : (((t1.n : Nat) : Int) == 0) = isSq n := by
    unfold isSq
    rw [Bool.eq_iff_iff, beq_iff_eq, beq_iff_eq]
    omega
  exact W.r [] (.tuple #[pv S3 s3 R3 t3, .bool (((t1.n : Nat) : Int) == 0)]) (by kernel_rfl) ⟨S3, s3, R3, t3, by rw [e], rfl⟩ (entP (by omega) rfl)

set_option maxHeartbeats 4000000 in
theorem r_bounds (N : Int) (a : Sl) (D : Int) (b : Sl) (S : Int) (s : Sl) (k : Nat) {x : Rat} {r : Int} [Has (PF N a D b) (L, x) Γ] [Has (YF S s) (M, r) Γ] (hk : k ≤ 9000) (hr : 0 ≤ r) (hL : L ≤ 200000 := by omega) (hM : M ≤ 200000 := by omega) :
    PCalls tb Tryz.prog 134 [pv N a D b, yv S s, .int .i64 (k : Int)] Γ (fun v Δ => ∃ (S : Int) (s : Sl) (R : Int) (t : Sl) (V : Int) (v' : Sl) (W : Int) (w : Sl), v = .tuple #[pv S s R t, pv V v' W w] ∧ Δ = [PF S s R t (L + M + 2000, blo x r k), PF V v' W w (L + M + 2000, bhi x r k)]) := by
  have p2 : 0 < 2 ^ k := Nat.two_pow_pos k
  refine PCalls.of_W tbOk Tryz.func134 rfl (by kernel_rfl) ?_
  refine W.yr S s rfl ?_
  intro hS hz
  refine W.pn N a D b rfl ?_
  intro hN
  refine W.cl [] (by kernel_rfl) (r_two9 k hk) ?_
  rintro _ _ ⟨u1, rfl, rfl⟩
  refine W.cl [] (by kernel_rfl) (r_mul u1 u1) ?_
  rintro _ _ ⟨u2, rfl, rfl⟩
  refine W.cl [] (by kernel_rfl) (r_mul s u2) ?_
  rintro _ _ ⟨u3, rfl, rfl⟩
  refine W.cl [] (by kernel_rfl) (r_rootn u3) ?_
  rintro _ _ ⟨u4, t4, rfl, rfl⟩
  refine W.code 999 ?_
  refine W.rz t4 (by kernel_rfl) (fun h0 => ?_)
  refine W.cl [] (by kernel_rfl) (p_ymade 1 ((isq (r.natAbs * (2 ^ k * 2 ^ k)) : Nat) : Int) u4 (made1 _)) ?_
  rintro _ _ ⟨S5, t5, rfl, rfl⟩
  refine W.cl [] (by kernel_rfl) (p_ymade 1 ((2 ^ k : Nat) : Int) u1 (made1 _)) ?_
  rintro _ _ ⟨S6, t6, rfl, rfl⟩
  by_cases hz4 : t4.n = 0
  · have hrest : r.natAbs * (2 ^ k * 2 ^ k) - isq (r.natAbs * (2 ^ k * 2 ^ k)) * isq (r.natAbs * (2 ^ k * 2 ^ k)) = 0 := h0.2 hz4
    have hhi : rhi r k = rlo r k := by unfold rhi; rw [if_pos hrest]
    refine W.df [] 34 (decide (((t4.n : Nat) : Int) > 0)) (by kernel_rfl) (by rw [decide_eq_false_iff_not]; omega) ?_
    by_cases hx : N < 0
    · refine W.dt [34] 45 (decide (N < 0)) (by kernel_rfl) (by rw [decide_eq_true_iff]; exact hx) ?_
      refine W.cx [45] (by kernel_rfl) (entYP (S := S5) (s := t5) (R := S6) (t := t6) (L' := M + 1802) (q := rlo r k) (by omega) (by omega) (by omega) rfl) (s_mul N a D b S5 t5 S6 t6) ?_
      rintro _ _ ⟨S15, s15, R15, t15, rfl, rfl⟩
      refine W.cx [] (by kernel_rfl) (entYP (S := S5) (s := t5) (R := S6) (t := t6) (L' := M + 1802) (q := rlo r k) (by omega) (by omega) (by omega) rfl) (s_mul N a D b S5 t5 S6 t6) ?_
      rintro _ _ ⟨S16, s16, R16, t16, rfl, rfl⟩
      exact W.r [] (.tuple #[pv S15 s15 R15 t15, pv S16 s16 R16 t16]) (by kernel_rfl) ⟨_, _, _, _, _, _, _, _, rfl, rfl⟩ (entAll (Δ := [_]) (Δ' := [_]) (entP (by omega) (by unfold blo; rw [if_pos (by rw [← hN]; exact hx), hhi])) (entP (by omega) (by unfold bhi; rw [if_pos (by rw [← hN]; exact hx)])))
    · refine W.df [34] 45 (decide (N < 0)) (by kernel_rfl) (by rw [decide_eq_false_iff_not]; exact hx) ?_
      refine W.cx [45] (by kernel_rfl) (entYP (S := S5) (s := t5) (R := S6) (t := t6) (L' := M + 1802) (q := rlo r k) (by omega) (by omega) (by omega) rfl) (s_mul N a D b S5 t5 S6 t6) ?_
      rintro _ _ ⟨S15, s15, R15, t15, rfl, rfl⟩
      refine W.cx [] (by kernel_rfl) (entYP (S := S5) (s := t5) (R := S6) (t := t6) (L' := M + 1802) (q := rlo r k) (by omega) (by omega) (by omega) rfl) (s_mul N a D b S5 t5 S6 t6) ?_
      rintro _ _ ⟨S16, s16, R16, t16, rfl, rfl⟩
      exact W.r [] (.tuple #[pv S15 s15 R15 t15, pv S16 s16 R16 t16]) (by kernel_rfl) ⟨_, _, _, _, _, _, _, _, rfl, rfl⟩ (entAll (Δ := [_]) (Δ' := [_]) (entP (by omega) (by unfold blo; rw [if_neg (by rw [← hN]; exact hx)])) (entP (by omega) (by unfold bhi; rw [if_neg (by rw [← hN]; exact hx), hhi])))
  · have hrest : ¬ r.natAbs * (2 ^ k * 2 ^ k) - isq (r.natAbs * (2 ^ k * 2 ^ k)) * isq (r.natAbs * (2 ^ k * 2 ^ k)) = 0 := fun e => hz4 (h0.1 e)
    have hhi : rhi r k = Rat.divInt (((isq (r.natAbs * (2 ^ k * 2 ^ k)) + 1 : Nat)) : Int) ((2 ^ k : Nat) : Int) := by unfold rhi; rw [if_neg hrest]
    refine W.dt [] 34 (decide (((t4.n : Nat) : Int) > 0)) (by kernel_rfl) (by rw [decide_eq_true_iff]; omega) ?_
    refine W.cl [34] (by kernel_rfl) (r_of' 1 1 rfl (by omega)) ?_
    rintro _ _ ⟨u7, rfl, rfl⟩
    refine W.cl [] (by kernel_rfl) (r_add u4 u7) ?_
    rintro _ _ ⟨u8, rfl, rfl⟩
    refine W.cl [] (by kernel_rfl) (p_ymade 1 ((isq (r.natAbs * (2 ^ k * 2 ^ k)) + 1 : Nat) : Int) u8 (made1 _)) ?_
    rintro _ _ ⟨S9, t9, rfl, rfl⟩
    refine W.cl [] (by kernel_rfl) (p_ymade 1 ((2 ^ k : Nat) : Int) u1 (made1 _)) ?_
    rintro _ _ ⟨S10, t10, rfl, rfl⟩
    by_cases hx : N < 0
    · refine W.dt [] 45 (decide (N < 0)) (by kernel_rfl) (by rw [decide_eq_true_iff]; exact hx) ?_
      refine W.cx [45] (by kernel_rfl) (entYP (S := S9) (s := t9) (R := S10) (t := t10) (L' := M + 1810) (q := rhi r k) (by omega) (by omega) (by omega) hhi) (s_mul N a D b S9 t9 S10 t10) ?_
      rintro _ _ ⟨S11, s11, R11, t11, rfl, rfl⟩
      refine W.cx [] (by kernel_rfl) (entYP (S := S5) (s := t5) (R := S6) (t := t6) (L' := M + 1802) (q := rlo r k) (by omega) (by omega) (by omega) rfl) (s_mul N a D b S5 t5 S6 t6) ?_
      rintro _ _ ⟨S12, s12, R12, t12, rfl, rfl⟩
      exact W.r [] (.tuple #[pv S11 s11 R11 t11, pv S12 s12 R12 t12]) (by kernel_rfl) ⟨_, _, _, _, _, _, _, _, rfl, rfl⟩ (entAll (Δ := [_]) (Δ' := [_]) (entP (by omega) (by unfold blo; rw [if_pos (by rw [← hN]; exact hx)])) (entP (by omega) (by unfold bhi; rw [if_pos (by rw [← hN]; exact hx)])))
    · refine W.df [] 45 (decide (N < 0)) (by kernel_rfl) (by rw [decide_eq_false_iff_not]; exact hx) ?_
      refine W.cx [45] (by kernel_rfl) (entYP (S := S5) (s := t5) (R := S6) (t := t6) (L' := M + 1802) (q := rlo r k) (by omega) (by omega) (by omega) rfl) (s_mul N a D b S5 t5 S6 t6) ?_
      rintro _ _ ⟨S13, s13, R13, t13, rfl, rfl⟩
      refine W.cx [] (by kernel_rfl) (entYP (S := S9) (s := t9) (R := S10) (t := t10) (L' := M + 1810) (q := rhi r k) (by omega) (by omega) (by omega) hhi) (s_mul N a D b S9 t9 S10 t10) ?_
      rintro _ _ ⟨S14, s14, R14, t14, rfl, rfl⟩
      exact W.r [] (.tuple #[pv S13 s13 R13 t13, pv S14 s14 R14 t14]) (by kernel_rfl) ⟨_, _, _, _, _, _, _, _, rfl, rfl⟩ (entAll (Δ := [_]) (Δ' := [_]) (entP (by omega) (by unfold blo; rw [if_neg (by rw [← hN]; exact hx)])) (entP (by omega) (by unfold bhi; rw [if_neg (by rw [← hN]; exact hx)])))
set_option maxHeartbeats 4000000 in
theorem r_between (x : Tw) {S : Sn} [Has (TF x) (L, S) Γ] (k : Nat) (hk : k ≤ 9000) (hm : 0 ≤ S.m) (hn : 0 ≤ S.n) (hL : L ≤ 100000 := by omega) :
    PCalls tb Tryz.prog 73 [tv x, .int .i64 (k : Int)] Γ (fun v Δ => ∃ (S' : Int) (s : Sl) (R : Int) (t : Sl) (V : Int) (v' : Sl) (W : Int) (w : Sl), v = .tuple #[pv S' s R t, pv V v' W w] ∧ Δ = [PF S' s R t (10 * L + 9000, S.lo k), PF V v' W w (10 * L + 9000, S.hi k)]) := by
  refine PCalls.of_W tbOk Tryz.func73 rfl (by kernel_rfl) ?_
  refine W.tf x rfl ?_
  refine W.cl [] (by kernel_rfl) (p_yof 1 (by omega) (by omega)) ?_
  rintro _ _ ⟨S1, t1, rfl, rfl⟩   -- 1
  refine W.cl [] (by kernel_rfl) (p_ymul x.d x.u x.e x.v) ?_
  rintro _ _ ⟨S2, t2, rfl, rfl⟩   -- (S.m * S.n)
  refine W.cl [] (by kernel_rfl) (s_of 0 (by omega) (by omega)) ?_
  rintro _ _ ⟨S3, s3, R3, t3, rfl, rfl⟩   -- (0 : Rat)
  refine W.cl [] (by kernel_rfl) (s_of 0 (by omega) (by omega)) ?_
  rintro _ _ ⟨S4, s4, R4, t4, rfl, rfl⟩   -- (0 : Rat)
  refine W.unr [] 6 (by kernel_rfl) ?_
  refine W.cl [26] (by kernel_rfl) (r_bounds x.p.n x.p.a x.p.m x.p.b S1 t1 k hk (by decide)) ?_
  rintro _ _ ⟨S5, s5, R5, t5, V5, v5, W5, w5, rfl, rfl⟩   -- (blo S.p 1 k) (bhi S.p 1 k)
  refine W.cl [] (by kernel_rfl) (s_add S3 s3 R3 t3 S5 s5 R5 t5) ?_
  rintro _ _ ⟨S6, s6, R6, t6, rfl, rfl⟩   -- ((0 : Rat) + (blo S.p 1 k))
  refine W.cl [] (by kernel_rfl) (s_add S4 s4 R4 t4 V5 v5 W5 w5) ?_
  rintro _ _ ⟨S7, s7, R7, t7, rfl, rfl⟩   -- ((0 : Rat) + ?v5)
  refine W.cl [26] (by kernel_rfl) (r_bounds x.q.n x.q.a x.q.m x.q.b x.d x.u k hk hm) ?_
  rintro _ _ ⟨S8, s8, R8, t8, V8, v8, W8, w8, rfl, rfl⟩   -- (blo S.q S.m k) (bhi S.q S.m k)
  refine W.cl [] (by kernel_rfl) (s_add S6 s6 R6 t6 S8 s8 R8 t8) ?_
  rintro _ _ ⟨S9, s9, R9, t9, rfl, rfl⟩   -- (((0 : Rat) + (blo S.p 1 k)) + (blo S.q S.m k))
  refine W.cl [] (by kernel_rfl) (s_add S7 s7 R7 t7 V8 v8 W8 w8) ?_
  rintro _ _ ⟨S10, s10, R10, t10, rfl, rfl⟩   -- (((0 : Rat) + ?v5) + ?v8)
  refine W.cl [26] (by kernel_rfl) (r_bounds x.r.n x.r.a x.r.m x.r.b x.e x.v k hk hn) ?_
  rintro _ _ ⟨S11, s11, R11, t11, V11, v11, W11, w11, rfl, rfl⟩   -- (blo S.r S.n k) (bhi S.r S.n k)
  refine W.cl [] (by kernel_rfl) (s_add S9 s9 R9 t9 S11 s11 R11 t11) ?_
  rintro _ _ ⟨S12, s12, R12, t12, rfl, rfl⟩   -- ((((0 : Rat) + (blo S.p 1 k)) + (blo S.q S.m k)) + (blo S.r S.n k))
  refine W.cl [] (by kernel_rfl) (s_add S10 s10 R10 t10 V11 v11 W11 w11) ?_
  rintro _ _ ⟨S13, s13, R13, t13, rfl, rfl⟩   -- ((((0 : Rat) + ?v5) + ?v8) + ?v11)
  refine W.cl [26] (by kernel_rfl) (r_bounds x.s.n x.s.a x.s.m x.s.b S2 t2 k hk (Int.mul_nonneg hm hn)) ?_
  rintro _ _ ⟨S14, s14, R14, t14, V14, v14, W14, w14, rfl, rfl⟩   -- (blo S.s (S.m * S.n) k) (bhi S.s (S.m * S.n) k)
  refine W.cl [] (by kernel_rfl) (s_add S12 s12 R12 t12 S14 s14 R14 t14) ?_
  rintro _ _ ⟨S15, s15, R15, t15, rfl, rfl⟩   -- (((((0 : Rat) + (blo S.p 1 k)) + (blo S.q S.m k)) + (blo S.r S.n k)) + (blo S.s (S.m * S.n) k))
  refine W.cl [] (by kernel_rfl) (s_add S13 s13 R13 t13 V14 v14 W14 w14) ?_
  rintro _ _ ⟨S16, s16, R16, t16, rfl, rfl⟩   -- (((((0 : Rat) + ?v5) + ?v8) + ?v11) + ?v14)
  exact W.r [26] (.tuple #[pv S15 s15 R15 t15, pv S16 s16 R16 t16]) (by kernel_rfl) ⟨_, _, _, _, _, _, _, _, rfl, rfl⟩ (entAll (Δ := [_]) (Δ' := [_]) (entP (by omega) rfl) (entP (by omega) rfl))
theorem r_lessx (x : Tw) {S : Sn} [Has (TF x) (L, S) Γ] (N : Int) (a : Sl) (D : Int) (b : Sl) {y : Rat} [Has (PF N a D b) (M, y) Γ] (hL : L ≤ 1000000 := by omega) (hM : M ≤ 1000000 := by omega) :
    PCalls tb Tryz.prog 78 [tv x, pv N a D b] Γ (TPost (L + M + 1) (S.lessr y)) := by
  refine PCalls.of_W tbOk Tryz.func78 rfl (by kernel_rfl) ?_
  refine W.tf x rfl ?_
  refine W.cl [] (by kernel_rfl) (s_sub x.p.n x.p.a x.p.m x.p.b N a D b) ?_
  rintro _ _ ⟨S1, s1, R1, t1, rfl, rfl⟩   -- (S.p - ?a)
  exact W.r [] (tv ⟨x.d, x.u, x.e, x.v, ⟨S1, s1, R1, t1⟩, x.q, x.r, x.s⟩) (by kernel_rfl) ⟨_, rfl, rfl⟩ (entT (x := ⟨x.d, x.u, x.e, x.v, ⟨S1, s1, R1, t1⟩, x.q, x.r, x.s⟩) (L' := L + M + 1) (S := S.lessr y) rfl rfl rfl rfl rfl rfl (by omega))
set_option maxHeartbeats 16000000 in
theorem r_fold (x : Tw) {S : Sn} [Has (TF x) (L, S) Γ] (hm : 0 ≤ S.m) (hn : 0 ≤ S.n) (hL : L ≤ 5000 := by omega) :
    PCalls tb Tryz.prog 86 [tv x] Γ (TPost (20 * L + 400) S.fold) := by
  refine PCalls.of_W tbOk Tryz.func86 rfl (by kernel_rfl) ?_
  refine W.tf x rfl ?_
  cases h1 : isSq S.m with
  | true =>
    cases h2 : isSq S.n with
    | true =>
      have hF := fold_tt h1 h2
      cases h3 : isSq (S.m * S.n) with
      | true =>
        refine W.cl [] (by kernel_rfl) (s_of 0 (by omega) (by omega)) ?_
        rintro _ _ ⟨S1, s1, R1, t1, rfl, rfl⟩   -- (0 : Rat)
        refine W.cl [] (by kernel_rfl) (r_square x.d x.u hm) ?_
        rintro _ _ ⟨S2, s2, R2, t2, rfl, rfl⟩   -- (rtq S.m)
        refine W.dt [] 24 ((isSq S.m)) (by kernel_rfl) (h1) ?_
        refine W.cl [24] (by kernel_rfl) (s_mul S2 s2 R2 t2 x.q.n x.q.a x.q.m x.q.b) ?_
        rintro _ _ ⟨S3, s3, R3, t3, rfl, rfl⟩   -- ((rtq S.m) * S.q)
        refine W.bs [] 2 (([⟨⟨x.p.n, x.p.a, x.p.m, x.p.b⟩, S.p⟩, ⟨⟨S3, s3, R3, t3⟩, ((rtq S.m) * S.q)⟩] : List PE).flatMap PR.cells) tbOk (by kernel_rfl) (fun b4 => ?_)
        refine W.cl [] (by kernel_rfl) (r_sum2 b4 ⟨x.p.n, x.p.a, x.p.m, x.p.b⟩ ⟨S3, s3, R3, t3⟩) ?_
        rintro _ _ ⟨S5, s5, R5, t5, rfl, rfl⟩
        refine W.cl [] (by kernel_rfl) (s_mul S2 s2 R2 t2 x.s.n x.s.a x.s.m x.s.b) ?_
        rintro _ _ ⟨S6, s6, R6, t6, rfl, rfl⟩   -- ((rtq S.m) * S.s)
        refine W.bs [] 2 (([⟨⟨x.r.n, x.r.a, x.r.m, x.r.b⟩, S.r⟩, ⟨⟨S6, s6, R6, t6⟩, ((rtq S.m) * S.s)⟩] : List PE).flatMap PR.cells) tbOk (by kernel_rfl) (fun b7 => ?_)
        refine W.cl [] (by kernel_rfl) (r_sum2 b7 ⟨x.r.n, x.r.a, x.r.m, x.r.b⟩ ⟨S6, s6, R6, t6⟩) ?_
        rintro _ _ ⟨S8, s8, R8, t8, rfl, rfl⟩
        refine W.cl [] (by kernel_rfl) (r_square x.e x.v hn) ?_
        rintro _ _ ⟨S9, s9, R9, t9, rfl, rfl⟩   -- (rtq S.n)
        refine W.dt [] 53 ((isSq S.n)) (by kernel_rfl) (h2) ?_
        refine W.cl [53] (by kernel_rfl) (s_mul S9 s9 R9 t9 S8 s8 R8 t8) ?_
        rintro _ _ ⟨S10, s10, R10, t10, rfl, rfl⟩   -- ((rtq S.n) * (0 + S.r + ((rtq S.m) * S.s)))
        refine W.bs [] 2 (([⟨⟨S5, s5, R5, t5⟩, (0 + S.p + ((rtq S.m) * S.q))⟩, ⟨⟨S10, s10, R10, t10⟩, ((rtq S.n) * (0 + S.r + ((rtq S.m) * S.s)))⟩] : List PE).flatMap PR.cells) tbOk (by kernel_rfl) (fun b11 => ?_)
        refine W.cl [] (by kernel_rfl) (r_sum2 b11 ⟨S5, s5, R5, t5⟩ ⟨S10, s10, R10, t10⟩) ?_
        rintro _ _ ⟨S12, s12, R12, t12, rfl, rfl⟩
        refine W.cl [] (by kernel_rfl) (s_mul S9 s9 R9 t9 S1 s1 R1 t1) ?_
        rintro _ _ ⟨S13, s13, R13, t13, rfl, rfl⟩   -- ((rtq S.n) * (0 : Rat))
        refine W.bs [] 2 (([⟨⟨S1, s1, R1, t1⟩, (0 : Rat)⟩, ⟨⟨S13, s13, R13, t13⟩, ((rtq S.n) * (0 : Rat))⟩] : List PE).flatMap PR.cells) tbOk (by kernel_rfl) (fun b14 => ?_)
        refine W.cl [] (by kernel_rfl) (r_sum2 b14 ⟨S1, s1, R1, t1⟩ ⟨S13, s13, R13, t13⟩) ?_
        rintro _ _ ⟨S15, s15, R15, t15, rfl, rfl⟩
        refine W.cl [] (by kernel_rfl) (r_square x.d x.u hm) ?_
        rintro _ _ ⟨S16, s16, R16, t16, rfl, rfl⟩   -- (rtq S.m)
        refine W.cl [] (by kernel_rfl) (r_square x.e x.v hn) ?_
        rintro _ _ ⟨S17, s17, R17, t17, rfl, rfl⟩   -- (rtq S.n)
        refine W.cl [] (by kernel_rfl) (p_ymul x.d x.u x.e x.v) ?_
        rintro _ _ ⟨S18, t18, rfl, rfl⟩   -- (S.m * S.n)
        refine W.cl [] (by kernel_rfl) (r_square S18 t18 (Int.mul_nonneg hm hn)) ?_
        rintro _ _ ⟨S19, s19, R19, t19, rfl, rfl⟩   -- (rtq (S.m * S.n))
        refine W.dt [] 98 ((isSq (S.m * S.n))) (by kernel_rfl) (h3) ?_
        refine W.df [98] 102 (!(isSq S.m)) (by kernel_rfl) (by rw [h1]; rfl) ?_
        exact W.r [105, 102] (tv ⟨x.d, x.u, x.e, x.v, ⟨S12, s12, R12, t12⟩, ⟨S15, s15, R15, t15⟩, ⟨S1, s1, R1, t1⟩, ⟨S1, s1, R1, t1⟩⟩) (by kernel_rfl) ⟨_, rfl, rfl⟩ (entT (x := ⟨x.d, x.u, x.e, x.v, ⟨S12, s12, R12, t12⟩, ⟨S15, s15, R15, t15⟩, ⟨S1, s1, R1, t1⟩, ⟨S1, s1, R1, t1⟩⟩) (L' := 20 * L + 400) (S := S.fold) (by rw [hF]) (by rw [hF]) (by rw [hF]) (by rw [hF] <;> rfl) (by rw [hF] <;> rfl) (by rw [hF] <;> rfl) (by omega))
      | false =>
        refine W.cl [] (by kernel_rfl) (s_of 0 (by omega) (by omega)) ?_
        rintro _ _ ⟨S1, s1, R1, t1, rfl, rfl⟩   -- (0 : Rat)
        refine W.cl [] (by kernel_rfl) (r_square x.d x.u hm) ?_
        rintro _ _ ⟨S2, s2, R2, t2, rfl, rfl⟩   -- (rtq S.m)
        refine W.dt [] 24 ((isSq S.m)) (by kernel_rfl) (h1) ?_
        refine W.cl [24] (by kernel_rfl) (s_mul S2 s2 R2 t2 x.q.n x.q.a x.q.m x.q.b) ?_
        rintro _ _ ⟨S3, s3, R3, t3, rfl, rfl⟩   -- ((rtq S.m) * S.q)
        refine W.bs [] 2 (([⟨⟨x.p.n, x.p.a, x.p.m, x.p.b⟩, S.p⟩, ⟨⟨S3, s3, R3, t3⟩, ((rtq S.m) * S.q)⟩] : List PE).flatMap PR.cells) tbOk (by kernel_rfl) (fun b4 => ?_)
        refine W.cl [] (by kernel_rfl) (r_sum2 b4 ⟨x.p.n, x.p.a, x.p.m, x.p.b⟩ ⟨S3, s3, R3, t3⟩) ?_
        rintro _ _ ⟨S5, s5, R5, t5, rfl, rfl⟩
        refine W.cl [] (by kernel_rfl) (s_mul S2 s2 R2 t2 x.s.n x.s.a x.s.m x.s.b) ?_
        rintro _ _ ⟨S6, s6, R6, t6, rfl, rfl⟩   -- ((rtq S.m) * S.s)
        refine W.bs [] 2 (([⟨⟨x.r.n, x.r.a, x.r.m, x.r.b⟩, S.r⟩, ⟨⟨S6, s6, R6, t6⟩, ((rtq S.m) * S.s)⟩] : List PE).flatMap PR.cells) tbOk (by kernel_rfl) (fun b7 => ?_)
        refine W.cl [] (by kernel_rfl) (r_sum2 b7 ⟨x.r.n, x.r.a, x.r.m, x.r.b⟩ ⟨S6, s6, R6, t6⟩) ?_
        rintro _ _ ⟨S8, s8, R8, t8, rfl, rfl⟩
        refine W.cl [] (by kernel_rfl) (r_square x.e x.v hn) ?_
        rintro _ _ ⟨S9, s9, R9, t9, rfl, rfl⟩   -- (rtq S.n)
        refine W.dt [] 53 ((isSq S.n)) (by kernel_rfl) (h2) ?_
        refine W.cl [53] (by kernel_rfl) (s_mul S9 s9 R9 t9 S8 s8 R8 t8) ?_
        rintro _ _ ⟨S10, s10, R10, t10, rfl, rfl⟩   -- ((rtq S.n) * (0 + S.r + ((rtq S.m) * S.s)))
        refine W.bs [] 2 (([⟨⟨S5, s5, R5, t5⟩, (0 + S.p + ((rtq S.m) * S.q))⟩, ⟨⟨S10, s10, R10, t10⟩, ((rtq S.n) * (0 + S.r + ((rtq S.m) * S.s)))⟩] : List PE).flatMap PR.cells) tbOk (by kernel_rfl) (fun b11 => ?_)
        refine W.cl [] (by kernel_rfl) (r_sum2 b11 ⟨S5, s5, R5, t5⟩ ⟨S10, s10, R10, t10⟩) ?_
        rintro _ _ ⟨S12, s12, R12, t12, rfl, rfl⟩
        refine W.cl [] (by kernel_rfl) (s_mul S9 s9 R9 t9 S1 s1 R1 t1) ?_
        rintro _ _ ⟨S13, s13, R13, t13, rfl, rfl⟩   -- ((rtq S.n) * (0 : Rat))
        refine W.bs [] 2 (([⟨⟨S1, s1, R1, t1⟩, (0 : Rat)⟩, ⟨⟨S13, s13, R13, t13⟩, ((rtq S.n) * (0 : Rat))⟩] : List PE).flatMap PR.cells) tbOk (by kernel_rfl) (fun b14 => ?_)
        refine W.cl [] (by kernel_rfl) (r_sum2 b14 ⟨S1, s1, R1, t1⟩ ⟨S13, s13, R13, t13⟩) ?_
        rintro _ _ ⟨S15, s15, R15, t15, rfl, rfl⟩
        refine W.cl [] (by kernel_rfl) (r_square x.d x.u hm) ?_
        rintro _ _ ⟨S16, s16, R16, t16, rfl, rfl⟩   -- (rtq S.m)
        refine W.cl [] (by kernel_rfl) (r_square x.e x.v hn) ?_
        rintro _ _ ⟨S17, s17, R17, t17, rfl, rfl⟩   -- (rtq S.n)
        refine W.cl [] (by kernel_rfl) (p_ymul x.d x.u x.e x.v) ?_
        rintro _ _ ⟨S18, t18, rfl, rfl⟩   -- (S.m * S.n)
        refine W.cl [] (by kernel_rfl) (r_square S18 t18 (Int.mul_nonneg hm hn)) ?_
        rintro _ _ ⟨S19, s19, R19, t19, rfl, rfl⟩   -- (rtq (S.m * S.n))
        refine W.df [] 98 ((isSq (S.m * S.n))) (by kernel_rfl) (h3) ?_
        exact W.r [105, 102, 98] (tv ⟨x.d, x.u, x.e, x.v, ⟨S12, s12, R12, t12⟩, ⟨S15, s15, R15, t15⟩, ⟨S1, s1, R1, t1⟩, ⟨S1, s1, R1, t1⟩⟩) (by kernel_rfl) ⟨_, rfl, rfl⟩ (entT (x := ⟨x.d, x.u, x.e, x.v, ⟨S12, s12, R12, t12⟩, ⟨S15, s15, R15, t15⟩, ⟨S1, s1, R1, t1⟩, ⟨S1, s1, R1, t1⟩⟩) (L' := 20 * L + 400) (S := S.fold) (by rw [hF]) (by rw [hF]) (by rw [hF]) (by rw [hF] <;> rfl) (by rw [hF] <;> rfl) (by rw [hF] <;> rfl) (by omega))
    | false =>
      have hF := fold_tf h1 h2
      cases h3 : isSq (S.m * S.n) with
      | true =>
        refine W.cl [] (by kernel_rfl) (s_of 0 (by omega) (by omega)) ?_
        rintro _ _ ⟨S1, s1, R1, t1, rfl, rfl⟩   -- (0 : Rat)
        refine W.cl [] (by kernel_rfl) (r_square x.d x.u hm) ?_
        rintro _ _ ⟨S2, s2, R2, t2, rfl, rfl⟩   -- (rtq S.m)
        refine W.dt [] 24 ((isSq S.m)) (by kernel_rfl) (h1) ?_
        refine W.cl [24] (by kernel_rfl) (s_mul S2 s2 R2 t2 x.q.n x.q.a x.q.m x.q.b) ?_
        rintro _ _ ⟨S3, s3, R3, t3, rfl, rfl⟩   -- ((rtq S.m) * S.q)
        refine W.bs [] 2 (([⟨⟨x.p.n, x.p.a, x.p.m, x.p.b⟩, S.p⟩, ⟨⟨S3, s3, R3, t3⟩, ((rtq S.m) * S.q)⟩] : List PE).flatMap PR.cells) tbOk (by kernel_rfl) (fun b4 => ?_)
        refine W.cl [] (by kernel_rfl) (r_sum2 b4 ⟨x.p.n, x.p.a, x.p.m, x.p.b⟩ ⟨S3, s3, R3, t3⟩) ?_
        rintro _ _ ⟨S5, s5, R5, t5, rfl, rfl⟩
        refine W.cl [] (by kernel_rfl) (s_mul S2 s2 R2 t2 x.s.n x.s.a x.s.m x.s.b) ?_
        rintro _ _ ⟨S6, s6, R6, t6, rfl, rfl⟩   -- ((rtq S.m) * S.s)
        refine W.bs [] 2 (([⟨⟨x.r.n, x.r.a, x.r.m, x.r.b⟩, S.r⟩, ⟨⟨S6, s6, R6, t6⟩, ((rtq S.m) * S.s)⟩] : List PE).flatMap PR.cells) tbOk (by kernel_rfl) (fun b7 => ?_)
        refine W.cl [] (by kernel_rfl) (r_sum2 b7 ⟨x.r.n, x.r.a, x.r.m, x.r.b⟩ ⟨S6, s6, R6, t6⟩) ?_
        rintro _ _ ⟨S8, s8, R8, t8, rfl, rfl⟩
        refine W.cl [] (by kernel_rfl) (r_square x.e x.v hn) ?_
        rintro _ _ ⟨S9, s9, R9, t9, rfl, rfl⟩   -- (rtq S.n)
        refine W.df [] 53 ((isSq S.n)) (by kernel_rfl) (h2) ?_
        refine W.cl [53] (by kernel_rfl) (r_square x.d x.u hm) ?_
        rintro _ _ ⟨S10, s10, R10, t10, rfl, rfl⟩   -- (rtq S.m)
        refine W.cl [] (by kernel_rfl) (r_square x.e x.v hn) ?_
        rintro _ _ ⟨S11, s11, R11, t11, rfl, rfl⟩   -- (rtq S.n)
        refine W.cl [] (by kernel_rfl) (p_ymul x.d x.u x.e x.v) ?_
        rintro _ _ ⟨S12, t12, rfl, rfl⟩   -- (S.m * S.n)
        refine W.cl [] (by kernel_rfl) (r_square S12 t12 (Int.mul_nonneg hm hn)) ?_
        rintro _ _ ⟨S13, s13, R13, t13, rfl, rfl⟩   -- (rtq (S.m * S.n))
        refine W.dt [] 98 ((isSq (S.m * S.n))) (by kernel_rfl) (h3) ?_
        refine W.df [98] 102 (!(isSq S.m)) (by kernel_rfl) (by rw [h1]; rfl) ?_
        exact W.r [105, 102] (tv ⟨x.d, x.u, x.e, x.v, ⟨S5, s5, R5, t5⟩, ⟨S1, s1, R1, t1⟩, ⟨S8, s8, R8, t8⟩, ⟨S1, s1, R1, t1⟩⟩) (by kernel_rfl) ⟨_, rfl, rfl⟩ (entT (x := ⟨x.d, x.u, x.e, x.v, ⟨S5, s5, R5, t5⟩, ⟨S1, s1, R1, t1⟩, ⟨S8, s8, R8, t8⟩, ⟨S1, s1, R1, t1⟩⟩) (L' := 20 * L + 400) (S := S.fold) (by rw [hF]) (by rw [hF]) (by rw [hF]) (by rw [hF] <;> rfl) (by rw [hF] <;> rfl) (by rw [hF] <;> rfl) (by omega))
      | false =>
        refine W.cl [] (by kernel_rfl) (s_of 0 (by omega) (by omega)) ?_
        rintro _ _ ⟨S1, s1, R1, t1, rfl, rfl⟩   -- (0 : Rat)
        refine W.cl [] (by kernel_rfl) (r_square x.d x.u hm) ?_
        rintro _ _ ⟨S2, s2, R2, t2, rfl, rfl⟩   -- (rtq S.m)
        refine W.dt [] 24 ((isSq S.m)) (by kernel_rfl) (h1) ?_
        refine W.cl [24] (by kernel_rfl) (s_mul S2 s2 R2 t2 x.q.n x.q.a x.q.m x.q.b) ?_
        rintro _ _ ⟨S3, s3, R3, t3, rfl, rfl⟩   -- ((rtq S.m) * S.q)
        refine W.bs [] 2 (([⟨⟨x.p.n, x.p.a, x.p.m, x.p.b⟩, S.p⟩, ⟨⟨S3, s3, R3, t3⟩, ((rtq S.m) * S.q)⟩] : List PE).flatMap PR.cells) tbOk (by kernel_rfl) (fun b4 => ?_)
        refine W.cl [] (by kernel_rfl) (r_sum2 b4 ⟨x.p.n, x.p.a, x.p.m, x.p.b⟩ ⟨S3, s3, R3, t3⟩) ?_
        rintro _ _ ⟨S5, s5, R5, t5, rfl, rfl⟩
        refine W.cl [] (by kernel_rfl) (s_mul S2 s2 R2 t2 x.s.n x.s.a x.s.m x.s.b) ?_
        rintro _ _ ⟨S6, s6, R6, t6, rfl, rfl⟩   -- ((rtq S.m) * S.s)
        refine W.bs [] 2 (([⟨⟨x.r.n, x.r.a, x.r.m, x.r.b⟩, S.r⟩, ⟨⟨S6, s6, R6, t6⟩, ((rtq S.m) * S.s)⟩] : List PE).flatMap PR.cells) tbOk (by kernel_rfl) (fun b7 => ?_)
        refine W.cl [] (by kernel_rfl) (r_sum2 b7 ⟨x.r.n, x.r.a, x.r.m, x.r.b⟩ ⟨S6, s6, R6, t6⟩) ?_
        rintro _ _ ⟨S8, s8, R8, t8, rfl, rfl⟩
        refine W.cl [] (by kernel_rfl) (r_square x.e x.v hn) ?_
        rintro _ _ ⟨S9, s9, R9, t9, rfl, rfl⟩   -- (rtq S.n)
        refine W.df [] 53 ((isSq S.n)) (by kernel_rfl) (h2) ?_
        refine W.cl [53] (by kernel_rfl) (r_square x.d x.u hm) ?_
        rintro _ _ ⟨S10, s10, R10, t10, rfl, rfl⟩   -- (rtq S.m)
        refine W.cl [] (by kernel_rfl) (r_square x.e x.v hn) ?_
        rintro _ _ ⟨S11, s11, R11, t11, rfl, rfl⟩   -- (rtq S.n)
        refine W.cl [] (by kernel_rfl) (p_ymul x.d x.u x.e x.v) ?_
        rintro _ _ ⟨S12, t12, rfl, rfl⟩   -- (S.m * S.n)
        refine W.cl [] (by kernel_rfl) (r_square S12 t12 (Int.mul_nonneg hm hn)) ?_
        rintro _ _ ⟨S13, s13, R13, t13, rfl, rfl⟩   -- (rtq (S.m * S.n))
        refine W.df [] 98 ((isSq (S.m * S.n))) (by kernel_rfl) (h3) ?_
        exact W.r [105, 102, 98] (tv ⟨x.d, x.u, x.e, x.v, ⟨S5, s5, R5, t5⟩, ⟨S1, s1, R1, t1⟩, ⟨S8, s8, R8, t8⟩, ⟨S1, s1, R1, t1⟩⟩) (by kernel_rfl) ⟨_, rfl, rfl⟩ (entT (x := ⟨x.d, x.u, x.e, x.v, ⟨S5, s5, R5, t5⟩, ⟨S1, s1, R1, t1⟩, ⟨S8, s8, R8, t8⟩, ⟨S1, s1, R1, t1⟩⟩) (L' := 20 * L + 400) (S := S.fold) (by rw [hF]) (by rw [hF]) (by rw [hF]) (by rw [hF] <;> rfl) (by rw [hF] <;> rfl) (by rw [hF] <;> rfl) (by omega))
  | false =>
    cases h2 : isSq S.n with
    | true =>
      have hF := fold_ft h1 h2
      cases h3 : isSq (S.m * S.n) with
      | true =>
        refine W.cl [] (by kernel_rfl) (s_of 0 (by omega) (by omega)) ?_
        rintro _ _ ⟨S1, s1, R1, t1, rfl, rfl⟩   -- (0 : Rat)
        refine W.cl [] (by kernel_rfl) (r_square x.d x.u hm) ?_
        rintro _ _ ⟨S2, s2, R2, t2, rfl, rfl⟩   -- (rtq S.m)
        refine W.df [] 24 ((isSq S.m)) (by kernel_rfl) (h1) ?_
        refine W.cl [24] (by kernel_rfl) (r_square x.e x.v hn) ?_
        rintro _ _ ⟨S3, s3, R3, t3, rfl, rfl⟩   -- (rtq S.n)
        refine W.dt [] 53 ((isSq S.n)) (by kernel_rfl) (h2) ?_
        refine W.cl [53] (by kernel_rfl) (s_mul S3 s3 R3 t3 x.r.n x.r.a x.r.m x.r.b) ?_
        rintro _ _ ⟨S4, s4, R4, t4, rfl, rfl⟩   -- ((rtq S.n) * S.r)
        refine W.bs [] 2 (([⟨⟨x.p.n, x.p.a, x.p.m, x.p.b⟩, S.p⟩, ⟨⟨S4, s4, R4, t4⟩, ((rtq S.n) * S.r)⟩] : List PE).flatMap PR.cells) tbOk (by kernel_rfl) (fun b5 => ?_)
        refine W.cl [] (by kernel_rfl) (r_sum2 b5 ⟨x.p.n, x.p.a, x.p.m, x.p.b⟩ ⟨S4, s4, R4, t4⟩) ?_
        rintro _ _ ⟨S6, s6, R6, t6, rfl, rfl⟩
        refine W.cl [] (by kernel_rfl) (s_mul S3 s3 R3 t3 x.s.n x.s.a x.s.m x.s.b) ?_
        rintro _ _ ⟨S7, s7, R7, t7, rfl, rfl⟩   -- ((rtq S.n) * S.s)
        refine W.bs [] 2 (([⟨⟨x.q.n, x.q.a, x.q.m, x.q.b⟩, S.q⟩, ⟨⟨S7, s7, R7, t7⟩, ((rtq S.n) * S.s)⟩] : List PE).flatMap PR.cells) tbOk (by kernel_rfl) (fun b8 => ?_)
        refine W.cl [] (by kernel_rfl) (r_sum2 b8 ⟨x.q.n, x.q.a, x.q.m, x.q.b⟩ ⟨S7, s7, R7, t7⟩) ?_
        rintro _ _ ⟨S9, s9, R9, t9, rfl, rfl⟩
        refine W.cl [] (by kernel_rfl) (r_square x.d x.u hm) ?_
        rintro _ _ ⟨S10, s10, R10, t10, rfl, rfl⟩   -- (rtq S.m)
        refine W.cl [] (by kernel_rfl) (r_square x.e x.v hn) ?_
        rintro _ _ ⟨S11, s11, R11, t11, rfl, rfl⟩   -- (rtq S.n)
        refine W.cl [] (by kernel_rfl) (p_ymul x.d x.u x.e x.v) ?_
        rintro _ _ ⟨S12, t12, rfl, rfl⟩   -- (S.m * S.n)
        refine W.cl [] (by kernel_rfl) (r_square S12 t12 (Int.mul_nonneg hm hn)) ?_
        rintro _ _ ⟨S13, s13, R13, t13, rfl, rfl⟩   -- (rtq (S.m * S.n))
        refine W.dt [] 98 ((isSq (S.m * S.n))) (by kernel_rfl) (h3) ?_
        refine W.dt [98] 102 (!(isSq S.m)) (by kernel_rfl) (by rw [h1]; rfl) ?_
        refine W.df [102] 105 (!(isSq S.n)) (by kernel_rfl) (by rw [h2]; rfl) ?_
        exact W.r [105] (tv ⟨x.d, x.u, x.e, x.v, ⟨S6, s6, R6, t6⟩, ⟨S9, s9, R9, t9⟩, ⟨S1, s1, R1, t1⟩, ⟨S1, s1, R1, t1⟩⟩) (by kernel_rfl) ⟨_, rfl, rfl⟩ (entT (x := ⟨x.d, x.u, x.e, x.v, ⟨S6, s6, R6, t6⟩, ⟨S9, s9, R9, t9⟩, ⟨S1, s1, R1, t1⟩, ⟨S1, s1, R1, t1⟩⟩) (L' := 20 * L + 400) (S := S.fold) (by rw [hF]) (by rw [hF]) (by rw [hF]) (by rw [hF] <;> rfl) (by rw [hF] <;> rfl) (by rw [hF] <;> rfl) (by omega))
      | false =>
        refine W.cl [] (by kernel_rfl) (s_of 0 (by omega) (by omega)) ?_
        rintro _ _ ⟨S1, s1, R1, t1, rfl, rfl⟩   -- (0 : Rat)
        refine W.cl [] (by kernel_rfl) (r_square x.d x.u hm) ?_
        rintro _ _ ⟨S2, s2, R2, t2, rfl, rfl⟩   -- (rtq S.m)
        refine W.df [] 24 ((isSq S.m)) (by kernel_rfl) (h1) ?_
        refine W.cl [24] (by kernel_rfl) (r_square x.e x.v hn) ?_
        rintro _ _ ⟨S3, s3, R3, t3, rfl, rfl⟩   -- (rtq S.n)
        refine W.dt [] 53 ((isSq S.n)) (by kernel_rfl) (h2) ?_
        refine W.cl [53] (by kernel_rfl) (s_mul S3 s3 R3 t3 x.r.n x.r.a x.r.m x.r.b) ?_
        rintro _ _ ⟨S4, s4, R4, t4, rfl, rfl⟩   -- ((rtq S.n) * S.r)
        refine W.bs [] 2 (([⟨⟨x.p.n, x.p.a, x.p.m, x.p.b⟩, S.p⟩, ⟨⟨S4, s4, R4, t4⟩, ((rtq S.n) * S.r)⟩] : List PE).flatMap PR.cells) tbOk (by kernel_rfl) (fun b5 => ?_)
        refine W.cl [] (by kernel_rfl) (r_sum2 b5 ⟨x.p.n, x.p.a, x.p.m, x.p.b⟩ ⟨S4, s4, R4, t4⟩) ?_
        rintro _ _ ⟨S6, s6, R6, t6, rfl, rfl⟩
        refine W.cl [] (by kernel_rfl) (s_mul S3 s3 R3 t3 x.s.n x.s.a x.s.m x.s.b) ?_
        rintro _ _ ⟨S7, s7, R7, t7, rfl, rfl⟩   -- ((rtq S.n) * S.s)
        refine W.bs [] 2 (([⟨⟨x.q.n, x.q.a, x.q.m, x.q.b⟩, S.q⟩, ⟨⟨S7, s7, R7, t7⟩, ((rtq S.n) * S.s)⟩] : List PE).flatMap PR.cells) tbOk (by kernel_rfl) (fun b8 => ?_)
        refine W.cl [] (by kernel_rfl) (r_sum2 b8 ⟨x.q.n, x.q.a, x.q.m, x.q.b⟩ ⟨S7, s7, R7, t7⟩) ?_
        rintro _ _ ⟨S9, s9, R9, t9, rfl, rfl⟩
        refine W.cl [] (by kernel_rfl) (r_square x.d x.u hm) ?_
        rintro _ _ ⟨S10, s10, R10, t10, rfl, rfl⟩   -- (rtq S.m)
        refine W.cl [] (by kernel_rfl) (r_square x.e x.v hn) ?_
        rintro _ _ ⟨S11, s11, R11, t11, rfl, rfl⟩   -- (rtq S.n)
        refine W.cl [] (by kernel_rfl) (p_ymul x.d x.u x.e x.v) ?_
        rintro _ _ ⟨S12, t12, rfl, rfl⟩   -- (S.m * S.n)
        refine W.cl [] (by kernel_rfl) (r_square S12 t12 (Int.mul_nonneg hm hn)) ?_
        rintro _ _ ⟨S13, s13, R13, t13, rfl, rfl⟩   -- (rtq (S.m * S.n))
        refine W.df [] 98 ((isSq (S.m * S.n))) (by kernel_rfl) (h3) ?_
        exact W.r [105, 102, 98] (tv ⟨x.d, x.u, x.e, x.v, ⟨S6, s6, R6, t6⟩, ⟨S9, s9, R9, t9⟩, ⟨S1, s1, R1, t1⟩, ⟨S1, s1, R1, t1⟩⟩) (by kernel_rfl) ⟨_, rfl, rfl⟩ (entT (x := ⟨x.d, x.u, x.e, x.v, ⟨S6, s6, R6, t6⟩, ⟨S9, s9, R9, t9⟩, ⟨S1, s1, R1, t1⟩, ⟨S1, s1, R1, t1⟩⟩) (L' := 20 * L + 400) (S := S.fold) (by rw [hF]) (by rw [hF]) (by rw [hF]) (by rw [hF] <;> rfl) (by rw [hF] <;> rfl) (by rw [hF] <;> rfl) (by omega))
    | false =>
      cases h3 : isSq (S.m * S.n) with
      | true =>
        have hF := fold_fft h1 h2 h3
        have hmq := sq_ne h1
        refine W.cl [] (by kernel_rfl) (s_of 0 (by omega) (by omega)) ?_
        rintro _ _ ⟨S1, s1, R1, t1, rfl, rfl⟩   -- (0 : Rat)
        refine W.cl [] (by kernel_rfl) (r_square x.d x.u hm) ?_
        rintro _ _ ⟨S2, s2, R2, t2, rfl, rfl⟩   -- (rtq S.m)
        refine W.df [] 24 ((isSq S.m)) (by kernel_rfl) (h1) ?_
        refine W.cl [24] (by kernel_rfl) (r_square x.e x.v hn) ?_
        rintro _ _ ⟨S3, s3, R3, t3, rfl, rfl⟩   -- (rtq S.n)
        refine W.df [] 53 ((isSq S.n)) (by kernel_rfl) (h2) ?_
        refine W.cl [53] (by kernel_rfl) (r_square x.d x.u hm) ?_
        rintro _ _ ⟨S4, s4, R4, t4, rfl, rfl⟩   -- (rtq S.m)
        refine W.cl [] (by kernel_rfl) (r_square x.e x.v hn) ?_
        rintro _ _ ⟨S5, s5, R5, t5, rfl, rfl⟩   -- (rtq S.n)
        refine W.cl [] (by kernel_rfl) (p_ymul x.d x.u x.e x.v) ?_
        rintro _ _ ⟨S6, t6, rfl, rfl⟩   -- (S.m * S.n)
        refine W.cl [] (by kernel_rfl) (r_square S6 t6 (Int.mul_nonneg hm hn)) ?_
        rintro _ _ ⟨S7, s7, R7, t7, rfl, rfl⟩   -- (rtq (S.m * S.n))
        refine W.dt [] 98 ((isSq (S.m * S.n))) (by kernel_rfl) (h3) ?_
        refine W.dt [98] 102 (!(isSq S.m)) (by kernel_rfl) (by rw [h1]; rfl) ?_
        refine W.dt [102] 105 (!(isSq S.n)) (by kernel_rfl) (by rw [h2]; rfl) ?_
        refine W.cl [105] (by kernel_rfl) (s_mul S7 s7 R7 t7 x.s.n x.s.a x.s.m x.s.b) ?_
        rintro _ _ ⟨S8, s8, R8, t8, rfl, rfl⟩   -- ((rtq (S.m * S.n)) * S.s)
        refine W.bs [] 2 (([⟨⟨x.p.n, x.p.a, x.p.m, x.p.b⟩, S.p⟩, ⟨⟨S8, s8, R8, t8⟩, ((rtq (S.m * S.n)) * S.s)⟩] : List PE).flatMap PR.cells) tbOk (by kernel_rfl) (fun b9 => ?_)
        refine W.cl [] (by kernel_rfl) (r_sum2 b9 ⟨x.p.n, x.p.a, x.p.m, x.p.b⟩ ⟨S8, s8, R8, t8⟩) ?_
        rintro _ _ ⟨S10, s10, R10, t10, rfl, rfl⟩
        refine W.cl [] (by kernel_rfl) (r_whole x.d x.u) ?_
        rintro _ _ ⟨S11, s11, R11, t11, rfl, rfl⟩   -- ((S.m : Int) : Rat)
        refine W.cl [] (by kernel_rfl) (s_div S7 s7 R7 t7 S11 s11 R11 t11 hmq) ?_
        rintro _ _ ⟨S12, s12, R12, t12, rfl, rfl⟩   -- ((rtq (S.m * S.n)) / ((S.m : Int) : Rat))
        refine W.cl [] (by kernel_rfl) (s_mul S12 s12 R12 t12 x.r.n x.r.a x.r.m x.r.b) ?_
        rintro _ _ ⟨S13, s13, R13, t13, rfl, rfl⟩   -- (((rtq (S.m * S.n)) / ((S.m : Int) : Rat)) * S.r)
        refine W.bs [] 2 (([⟨⟨x.q.n, x.q.a, x.q.m, x.q.b⟩, S.q⟩, ⟨⟨S13, s13, R13, t13⟩, (((rtq (S.m * S.n)) / ((S.m : Int) : Rat)) * S.r)⟩] : List PE).flatMap PR.cells) tbOk (by kernel_rfl) (fun b14 => ?_)
        refine W.cl [] (by kernel_rfl) (r_sum2 b14 ⟨x.q.n, x.q.a, x.q.m, x.q.b⟩ ⟨S13, s13, R13, t13⟩) ?_
        rintro _ _ ⟨S15, s15, R15, t15, rfl, rfl⟩
        exact W.r [] (tv ⟨x.d, x.u, x.e, x.v, ⟨S10, s10, R10, t10⟩, ⟨S15, s15, R15, t15⟩, ⟨S1, s1, R1, t1⟩, ⟨S1, s1, R1, t1⟩⟩) (by kernel_rfl) ⟨_, rfl, rfl⟩ (entT (x := ⟨x.d, x.u, x.e, x.v, ⟨S10, s10, R10, t10⟩, ⟨S15, s15, R15, t15⟩, ⟨S1, s1, R1, t1⟩, ⟨S1, s1, R1, t1⟩⟩) (L' := 20 * L + 400) (S := S.fold) (by rw [hF]) (by rw [hF]) (by rw [hF]) (by rw [hF] <;> rfl) (by rw [hF] <;> rfl) (by rw [hF] <;> rfl) (by omega))
      | false =>
        have hF := fold_fff h1 h2 h3
        refine W.cl [] (by kernel_rfl) (s_of 0 (by omega) (by omega)) ?_
        rintro _ _ ⟨S1, s1, R1, t1, rfl, rfl⟩   -- (0 : Rat)
        refine W.cl [] (by kernel_rfl) (r_square x.d x.u hm) ?_
        rintro _ _ ⟨S2, s2, R2, t2, rfl, rfl⟩   -- (rtq S.m)
        refine W.df [] 24 ((isSq S.m)) (by kernel_rfl) (h1) ?_
        refine W.cl [24] (by kernel_rfl) (r_square x.e x.v hn) ?_
        rintro _ _ ⟨S3, s3, R3, t3, rfl, rfl⟩   -- (rtq S.n)
        refine W.df [] 53 ((isSq S.n)) (by kernel_rfl) (h2) ?_
        refine W.cl [53] (by kernel_rfl) (r_square x.d x.u hm) ?_
        rintro _ _ ⟨S4, s4, R4, t4, rfl, rfl⟩   -- (rtq S.m)
        refine W.cl [] (by kernel_rfl) (r_square x.e x.v hn) ?_
        rintro _ _ ⟨S5, s5, R5, t5, rfl, rfl⟩   -- (rtq S.n)
        refine W.cl [] (by kernel_rfl) (p_ymul x.d x.u x.e x.v) ?_
        rintro _ _ ⟨S6, t6, rfl, rfl⟩   -- (S.m * S.n)
        refine W.cl [] (by kernel_rfl) (r_square S6 t6 (Int.mul_nonneg hm hn)) ?_
        rintro _ _ ⟨S7, s7, R7, t7, rfl, rfl⟩   -- (rtq (S.m * S.n))
        refine W.df [] 98 ((isSq (S.m * S.n))) (by kernel_rfl) (h3) ?_
        exact W.r [105, 102, 98] (tv x) (by kernel_rfl) ⟨_, rfl, rfl⟩ (entT' (by omega) hF.symm)
end
end Go.Proofs.YtabpaiboodllbaaGreat
