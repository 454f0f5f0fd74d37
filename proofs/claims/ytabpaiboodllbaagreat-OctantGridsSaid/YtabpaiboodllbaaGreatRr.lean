
/- The reference's square, fold, bounds, between, less. The reference's sign: it is the sign, where its search ends. Numbers out of texts: the reference's search for their signs ends. The reference's floor and nearest whole number: they are the program's. The reference's floor and nearest whole number, by bits. -/
import Derived.Test.YtabpaiboodllbaaGreatRk
import Derived.Test.YtabpaiboodllbaaGreatRefT
import Derived.Test.YtabpaiboodllbaaGreatRc
import Derived.Test.YtabpaiboodllbaaGreatSu
import Derived.Test.YtabpaiboodllbaaGreatSy
set_option linter.unusedSimpArgs false
set_option linter.unusedVariables false
namespace Go.Proofs.YtabpaiboodllbaaGreat
open Go.RowKit Go.IntWalk

theorem made1 (x : Nat) : ((x : Int)).natAbs = x ∧ (x ≠ 0 → (1 : Int) = (x : Int).sign) := by
  refine ⟨by omega, fun h => ?_⟩
  exact (Int.sign_eq_one_of_pos (by omega)).symm
theorem fold_tt {S : Sn} (h1 : isSq S.m = true) (h2 : isSq S.n = true) : S.fold = ⟨S.m, S.n, 0 + (0 + S.p + rtq S.m * S.q) + rtq S.n * (0 + S.r + rtq S.m * S.s), 0 + 0 + rtq S.n * 0, 0, 0⟩ := by
  unfold Sn.fold Sn.f1
  rw [if_pos h1]
  unfold Sn.f2
  rw [if_pos h2]
  unfold Sn.f3
  rw [if_neg (fun h => by rw [h1] at h; simp at h)]
theorem fold_tf {S : Sn} (h1 : isSq S.m = true) (h2 : isSq S.n = false) : S.fold = ⟨S.m, S.n, 0 + S.p + rtq S.m * S.q, 0, 0 + S.r + rtq S.m * S.s, 0⟩ := by
  unfold Sn.fold Sn.f1
  rw [if_pos h1]
  unfold Sn.f2
  rw [if_neg (by rw [h2]; simp)]
  unfold Sn.f3
  rw [if_neg (fun h => by rw [h1] at h; simp at h)]
theorem fold_ft {S : Sn} (h1 : isSq S.m = false) (h2 : isSq S.n = true) : S.fold = ⟨S.m, S.n, 0 + S.p + rtq S.n * S.r, 0 + S.q + rtq S.n * S.s, 0, 0⟩ := by
  unfold Sn.fold Sn.f1
  rw [if_neg (by rw [h1]; simp)]
  unfold Sn.f2
  rw [if_pos h2]
  unfold Sn.f3
  rw [if_neg (fun h => by have := h.2.2; simp only at this; rw [h2] at this; simp at this)]
theorem fold_fft {S : Sn} (h1 : isSq S.m = false) (h2 : isSq S.n = false) (h3 : isSq (S.m * S.n) = true) : S.fold = ⟨S.m, S.n, 0 + S.p + rtq (S.m * S.n) * S.s, 0 + S.q + rtq (S.m * S.n) / (S.m : Rat) * S.r, 0, 0⟩ := by
  unfold Sn.fold Sn.f1
  rw [if_neg (by rw [h1]; simp)]
  unfold Sn.f2
  rw [if_neg (by rw [h2]; simp)]
  unfold Sn.f3
  rw [if_pos ⟨h3, h1, h2⟩]
theorem fold_fff {S : Sn} (h1 : isSq S.m = false) (h2 : isSq S.n = false) (h3 : isSq (S.m * S.n) = false) : S.fold = S := by
  unfold Sn.fold Sn.f1
  rw [if_neg (by rw [h1]; simp)]
  unfold Sn.f2
  rw [if_neg (by rw [h2]; simp)]
  unfold Sn.f3
  rw [if_neg (fun h => by rw [h3] at h; simp at h)]
theorem sq_ne {m : Int} (h : isSq m = false) : (m : Rat) ≠ 0 := fun e => by
  have : m = 0 := Rat.intCast_inj.1 e
  rw [this, isSq_zero] at h
  simp at h
def Sn.lessr (S : Sn) (y : Rat) : Sn := ⟨S.m, S.n, S.p - y, S.q, S.r, S.s⟩
theorem psum2 (p q : Pw) (x y : Rat) : psum [(⟨p, x⟩ : PE), ⟨q, y⟩] = 0 + x + y := rfl

theorem YF.tight {S : Int} {s : Sl} {L b : Nat} {x : Int} {I : Blk} {w : World} (h : (YF S s (L, x)).p I w) (hx : x.natAbs ≤ 2 ^ b) : (YF S s (b / 13 + 1, x)).p I w := by
  obtain ⟨⟨⟨l, hi, hd, hn, hv⟩, h2, h3⟩, h4⟩ := h
  refine ⟨⟨⟨l, hi, hd, hn, hv⟩, h2, ?_⟩, h4⟩
  have hlt : x.natAbs < 10000 ^ (b / 13 + 1) := by
    have e1 : 2 ^ b < 2 ^ (13 * (b / 13 + 1)) := Nat.pow_lt_pow_right (by omega) (by omega)
    have e2 : 2 ^ (13 * (b / 13 + 1)) = (2 ^ 13) ^ (b / 13 + 1) := Nat.pow_mul 2 13 _
    have e3 : (2 ^ 13) ^ (b / 13 + 1) ≤ 10000 ^ (b / 13 + 1) := Nat.pow_le_pow_left (by decide) _
    omega
  have := hn.len_of_lt (B := 10000) (k := b / 13 + 1) (by decide) (by rw [hv]; exact hlt)
  have := hi.1
  simp only
  omega

section
variable {fin : VS → List Fact → Prop} {Γ : List Fact} {L M K : Nat}
theorem entTY {S : Int} {s : Sl} {z : Int} {k : Nat} [h : Has (YF S s) (L, z) Γ] (hq : z.natAbs ≤ 2 ^ k) {I : Blk} {w : World} (hh : Holds Γ I w) : (YF S s (k / 13 + 1, z)).p I w := YF.tight (h.p hh) hq
theorem W.pn {P : Program} {c : Cfg} (S : Int) (s : Sl) (R : Int) (t : Sl) {q : Rat} [h : Has (PF S s R t) (L, q) Γ] (hm : midOps c.k = false) (hk : S = q.num.sign → W tb P fin c Γ) : W tb P fin c Γ :=
  W.know _ hm (fun _ _ _ hh => by
    obtain ⟨n, d, h1, h2, hd, hq⟩ := h.p hh
    rw [h1.2]
    exact sign_of hd hq) hk
theorem r_sum2 (b : Nat) (p q : Pw) {x y : Rat} {L1 L2 : Nat} [hr : Has (RowF b) ([(⟨p, x⟩ : PE), ⟨q, y⟩].flatMap PR.cells) Γ] [hp : Has (PG p) (L1, x) Γ] [hq : Has (PG q) (L2, y) Γ] (hL : L1 ≤ 10000000 := by omega) (hM : L2 ≤ 10000000 := by omega) :
    PCalls tb Tryz.prog 141 [.slice (some ⟨b, 0, none⟩) 2 2] Γ (PPost (6 + 2 * (max L1 L2 + 1)) (0 + x + y)) := by
  have h := r_sumB (Γ := Γ) b [(⟨p, x⟩ : PE), ⟨q, y⟩] 2 (K := max L1 L2) rfl (by omega) (fun I w hd hh e he => by
    simp only [List.mem_cons, List.not_mem_nil, or_false] at he
    rcases he with rfl | rfl
    · exact PF.up2 (hp.p hh) (by omega)
    · exact PF.up2 (hq.p hh) (by omega)) (by omega)
  rw [psum2] at h
  exact h
theorem r_square (S : Int) (s : Sl) {n : Int} [Has (YF S s) (L, n) Γ] (hn : 0 ≤ n) (hL : L ≤ 1000000 := by omega) :
    PCalls tb Tryz.prog 140 [yv S s] Γ (fun v Δ => ∃ (S : Int) (s : Sl) (R : Int) (t : Sl), v = .tuple #[pv S s R t, .bool (isSq n)] ∧ Δ = [PF S s R t (max L 6, rtq n)]) := by
  refine PCalls.of_W tbOk Tryz.func140 rfl (by kernel_rfl) ?_
  refine W.yr S s rfl ?_
  intro hS hz
  refine W.cl [] (by kernel_rfl) (r_rootn s) ?_
  rintro _ _ ⟨u1, t1, rfl, rfl⟩
  refine W.code 999 ?_
  refine W.rz t1 (by kernel_rfl) (fun h0 => ?_)
  refine W.cl [] (by kernel_rfl) (p_ymade 1 ((isq n.natAbs : Nat) : Int) u1 (made1 _)) ?_
  rintro _ _ ⟨S2, t2, rfl, rfl⟩
  refine W.cl [] (by kernel_rfl) (r_whole S2 t2) ?_
  rintro _ _ ⟨S3, s3, R3, t3, rfl, rfl⟩
  have e : (((t1.n : Nat) : Int) == 0) = isSq n := by
    unfold isSq
    rw [Bool.eq_iff_iff, beq_iff_eq, beq_iff_eq]
    omega
  exact W.r [] (.tuple #[pv S3 s3 R3 t3, .bool (((t1.n : Nat) : Int) == 0)]) (by kernel_rfl) ⟨S3, s3, R3, t3, by rw [e], rfl⟩ (entP (by omega) rfl)

set_option maxHeartbeats 4000000 in
theorem r_bounds (N : Int) (a : Sl) (D : Int) (b : Sl) (S : Int) (s : Sl) (k : Nat) {x : Rat} {r : Int} [Has (PF N a D b) (L, x) Γ] [Has (YF S s) (M, r) Γ] (hk : k ≤ 9000) (hr : 0 ≤ r) (hL : L ≤ 20000000 := by omega) (hM : M ≤ 200000 := by omega) :
    PCalls tb Tryz.prog 134 [pv N a D b, yv S s, .int .i64 (k : Int)] Γ (fun v Δ => ∃ (S : Int) (s : Sl) (R : Int) (t : Sl) (V : Int) (v' : Sl) (W : Int) (w : Sl), v = .tuple #[pv S s R t, pv V v' W w] ∧ Δ = [PF S s R t (L + M + 2000, blo x r k), PF V v' W w (L + M + 2000, bhi x r k)]) := by
  have p2 : 0 < 2 ^ k := Nat.two_pow_pos k
  refine PCalls.of_W tbOk Tryz.func134 rfl (by kernel_rfl) ?_
  refine W.yr S s rfl ?_
  intro hS hz
  refine W.pn N a D b rfl ?_
  intro hN
  refine W.cl [] (by kernel_rfl) (r_two9 k hk) ?_
  rintro _ _ ⟨u1, rfl, rfl⟩
  refine W.cl [] (by kernel_rfl) (r_mul u1 u1) ?_
  rintro _ _ ⟨u2, rfl, rfl⟩
  refine W.cl [] (by kernel_rfl) (r_mul s u2) ?_
  rintro _ _ ⟨u3, rfl, rfl⟩
  refine W.cl [] (by kernel_rfl) (r_rootn u3) ?_
  rintro _ _ ⟨u4, t4, rfl, rfl⟩
  refine W.code 999 ?_
  refine W.rz t4 (by kernel_rfl) (fun h0 => ?_)
  refine W.cl [] (by kernel_rfl) (p_ymade 1 ((isq (r.natAbs * (2 ^ k * 2 ^ k)) : Nat) : Int) u4 (made1 _)) ?_
  rintro _ _ ⟨S5, t5, rfl, rfl⟩
  refine W.cl [] (by kernel_rfl) (p_ymade 1 ((2 ^ k : Nat) : Int) u1 (made1 _)) ?_
  rintro _ _ ⟨S6, t6, rfl, rfl⟩
  by_cases hz4 : t4.n = 0
  · have hrest : r.natAbs * (2 ^ k * 2 ^ k) - isq (r.natAbs * (2 ^ k * 2 ^ k)) * isq (r.natAbs * (2 ^ k * 2 ^ k)) = 0 := h0.2 hz4
    have hhi : rhi r k = rlo r k := by unfold rhi; rw [if_pos hrest]
    refine W.df [] 34 (decide (((t4.n : Nat) : Int) > 0)) (by kernel_rfl) (by rw [decide_eq_false_iff_not]; omega) ?_
    by_cases hx : N < 0
    · refine W.dt [34] 45 (decide (N < 0)) (by kernel_rfl) (by rw [decide_eq_true_iff]; exact hx) ?_
      refine W.cx [45] (by kernel_rfl) (entYP (S := S5) (s := t5) (R := S6) (t := t6) (L' := M + 1802) (q := rlo r k) (by omega) (by omega) (by omega) rfl) (s_mul N a D b S5 t5 S6 t6) ?_
      rintro _ _ ⟨S15, s15, R15, t15, rfl, rfl⟩
      refine W.cx [] (by kernel_rfl) (entYP (S := S5) (s := t5) (R := S6) (t := t6) (L' := M + 1802) (q := rlo r k) (by omega) (by omega) (by omega) rfl) (s_mul N a D b S5 t5 S6 t6) ?_
      rintro _ _ ⟨S16, s16, R16, t16, rfl, rfl⟩
      exact W.r [] (.tuple #[pv S15 s15 R15 t15, pv S16 s16 R16 t16]) (by kernel_rfl) ⟨_, _, _, _, _, _, _, _, rfl, rfl⟩ (entAll (Δ := [_]) (Δ' := [_]) (entP (by omega) (by unfold blo; rw [if_pos (by rw [← hN]; exact hx), hhi])) (entP (by omega) (by unfold bhi; rw [if_pos (by rw [← hN]; exact hx)])))
    · refine W.df [34] 45 (decide (N < 0)) (by kernel_rfl) (by rw [decide_eq_false_iff_not]; exact hx) ?_
      refine W.cx [45] (by kernel_rfl) (entYP (S := S5) (s := t5) (R := S6) (t := t6) (L' := M + 1802) (q := rlo r k) (by omega) (by omega) (by omega) rfl) (s_mul N a D b S5 t5 S6 t6) ?_
      rintro _ _ ⟨S15, s15, R15, t15, rfl, rfl⟩
      refine W.cx [] (by kernel_rfl) (entYP (S := S5) (s := t5) (R := S6) (t := t6) (L' := M + 1802) (q := rlo r k) (by omega) (by omega) (by omega) rfl) (s_mul N a D b S5 t5 S6 t6) ?_
      rintro _ _ ⟨S16, s16, R16, t16, rfl, rfl⟩
      exact W.r [] (.tuple #[pv S15 s15 R15 t15, pv S16 s16 R16 t16]) (by kernel_rfl) ⟨_, _, _, _, _, _, _, _, rfl, rfl⟩ (entAll (Δ := [_]) (Δ' := [_]) (entP (by omega) (by unfold blo; rw [if_neg (by rw [← hN]; exact hx)])) (entP (by omega) (by unfold bhi; rw [if_neg (by rw [← hN]; exact hx), hhi])))
  · have hrest : ¬ r.natAbs * (2 ^ k * 2 ^ k) - isq (r.natAbs * (2 ^ k * 2 ^ k)) * isq (r.natAbs * (2 ^ k * 2 ^ k)) = 0 := fun e => hz4 (h0.1 e)
    have hhi : rhi r k = Rat.divInt (((isq (r.natAbs * (2 ^ k * 2 ^ k)) + 1 : Nat)) : Int) ((2 ^ k : Nat) : Int) := by unfold rhi; rw [if_neg hrest]
    refine W.dt [] 34 (decide (((t4.n : Nat) : Int) > 0)) (by kernel_rfl) (by rw [decide_eq_true_iff]; omega) ?_
    refine W.cl [34] (by kernel_rfl) (r_of' 1 1 rfl (by omega)) ?_
    rintro _ _ ⟨u7, rfl, rfl⟩
    refine W.cl [] (by kernel_rfl) (r_add u4 u7) ?_
    rintro _ _ ⟨u8, rfl, rfl⟩
    refine W.cl [] (by kernel_rfl) (p_ymade 1 ((isq (r.natAbs * (2 ^ k * 2 ^ k)) + 1 : Nat) : Int) u8 (made1 _)) ?_
    rintro _ _ ⟨S9, t9, rfl, rfl⟩
    refine W.cl [] (by kernel_rfl) (p_ymade 1 ((2 ^ k : Nat) : Int) u1 (made1 _)) ?_
    rintro _ _ ⟨S10, t10, rfl, rfl⟩
    by_cases hx : N < 0
    · refine W.dt [] 45 (decide (N < 0)) (by kernel_rfl) (by rw [decide_eq_true_iff]; exact hx) ?_
      refine W.cx [45] (by kernel_rfl) (entYP (S := S9) (s := t9) (R := S10) (t := t10) (L' := M + 1810) (q := rhi r k) (by omega) (by omega) (by omega) hhi) (s_mul N a D b S9 t9 S10 t10) ?_
      rintro _ _ ⟨S11, s11, R11, t11, rfl, rfl⟩
      refine W.cx [] (by kernel_rfl) (entYP (S := S5) (s := t5) (R := S6) (t := t6) (L' := M + 1802) (q := rlo r k) (by omega) (by omega) (by omega) rfl) (s_mul N a D b S5 t5 S6 t6) ?_
      rintro _ _ ⟨S12, s12, R12, t12, rfl, rfl⟩
      exact W.r [] (.tuple #[pv S11 s11 R11 t11, pv S12 s12 R12 t12]) (by kernel_rfl) ⟨_, _, _, _, _, _, _, _, rfl, rfl⟩ (entAll (Δ := [_]) (Δ' := [_]) (entP (by omega) (by unfold blo; rw [if_pos (by rw [← hN]; exact hx)])) (entP (by omega) (by unfold bhi; rw [if_pos (by rw [← hN]; exact hx)])))
    · refine W.df [] 45 (decide (N < 0)) (by kernel_rfl) (by rw [decide_eq_false_iff_not]; exact hx) ?_
      refine W.cx [45] (by kernel_rfl) (entYP (S := S5) (s := t5) (R := S6) (t := t6) (L' := M + 1802) (q := rlo r k) (by omega) (by omega) (by omega) rfl) (s_mul N a D b S5 t5 S6 t6) ?_
      rintro _ _ ⟨S13, s13, R13, t13, rfl, rfl⟩
      refine W.cx [] (by kernel_rfl) (entYP (S := S9) (s := t9) (R := S10) (t := t10) (L' := M + 1810) (q := rhi r k) (by omega) (by omega) (by omega) hhi) (s_mul N a D b S9 t9 S10 t10) ?_
      rintro _ _ ⟨S14, s14, R14, t14, rfl, rfl⟩
      exact W.r [] (.tuple #[pv S13 s13 R13 t13, pv S14 s14 R14 t14]) (by kernel_rfl) ⟨_, _, _, _, _, _, _, _, rfl, rfl⟩ (entAll (Δ := [_]) (Δ' := [_]) (entP (by omega) (by unfold blo; rw [if_neg (by rw [← hN]; exact hx)])) (entP (by omega) (by unfold bhi; rw [if_neg (by rw [← hN]; exact hx)])))
set_option maxHeartbeats 4000000 in
theorem r_between (x : Tw) {S : Sn} [Has (TF x) (L, S) Γ] (k : Nat) (hk : k ≤ 9000) (hm : 0 ≤ S.m) (hn : 0 ≤ S.n) (cm : S.m.natAbs ≤ 2 ^ 63) (cn : S.n.natAbs ≤ 2 ^ 63) (hL : L ≤ 2000000 := by omega) :
    PCalls tb Tryz.prog 73 [tv x, .int .i64 (k : Int)] Γ (fun v Δ => ∃ (S' : Int) (s : Sl) (R : Int) (t : Sl) (V : Int) (v' : Sl) (W : Int) (w : Sl), v = .tuple #[pv S' s R t, pv V v' W w] ∧ Δ = [PF S' s R t (10 * L + 9000, S.lo k), PF V v' W w (10 * L + 9000, S.hi k)]) := by
  refine PCalls.of_W tbOk Tryz.func73 rfl (by kernel_rfl) ?_
  refine W.tf x rfl ?_
  refine W.more rfl (fun I w _ hh => Holds.cons (entTY (S := x.d) (s := x.u) (z := S.m) cm hh) (holds1 (entTY (S := x.e) (s := x.v) (z := S.n) cn hh))) ?_
  refine W.cl [] (by kernel_rfl) (p_yof 1 (by omega) (by omega)) ?_
  rintro _ _ ⟨S1, t1, rfl, rfl⟩   -- 1
  refine W.cl [] (by kernel_rfl) (p_ymul x.d x.u x.e x.v) ?_
  rintro _ _ ⟨S2, t2, rfl, rfl⟩   -- (S.m * S.n)
  refine W.cl [] (by kernel_rfl) (s_of 0 (by omega) (by omega)) ?_
  rintro _ _ ⟨S3, s3, R3, t3, rfl, rfl⟩   -- (0 : Rat)
  refine W.cl [] (by kernel_rfl) (s_of 0 (by omega) (by omega)) ?_
  rintro _ _ ⟨S4, s4, R4, t4, rfl, rfl⟩   -- (0 : Rat)
  refine W.unr [] 6 (by kernel_rfl) ?_
  refine W.cl [26] (by kernel_rfl) (r_bounds x.p.n x.p.a x.p.m x.p.b S1 t1 k hk (by decide)) ?_
  rintro _ _ ⟨S5, s5, R5, t5, V5, v5, W5, w5, rfl, rfl⟩   -- (blo S.p 1 k) (bhi S.p 1 k)
  refine W.cl [] (by kernel_rfl) (s_add S3 s3 R3 t3 S5 s5 R5 t5) ?_
  rintro _ _ ⟨S6, s6, R6, t6, rfl, rfl⟩   -- ((0 : Rat) + (blo S.p 1 k))
  refine W.cl [] (by kernel_rfl) (s_add S4 s4 R4 t4 V5 v5 W5 w5) ?_
  rintro _ _ ⟨S7, s7, R7, t7, rfl, rfl⟩   -- ((0 : Rat) + ?v5)
  refine W.cl [26] (by kernel_rfl) (r_bounds x.q.n x.q.a x.q.m x.q.b x.d x.u k hk hm) ?_
  rintro _ _ ⟨S8, s8, R8, t8, V8, v8, W8, w8, rfl, rfl⟩   -- (blo S.q S.m k) (bhi S.q S.m k)
  refine W.cl [] (by kernel_rfl) (s_add S6 s6 R6 t6 S8 s8 R8 t8) ?_
  rintro _ _ ⟨S9, s9, R9, t9, rfl, rfl⟩   -- (((0 : Rat) + (blo S.p 1 k)) + (blo S.q S.m k))
  refine W.cl [] (by kernel_rfl) (s_add S7 s7 R7 t7 V8 v8 W8 w8) ?_
  rintro _ _ ⟨S10, s10, R10, t10, rfl, rfl⟩   -- (((0 : Rat) + ?v5) + ?v8)
  refine W.cl [26] (by kernel_rfl) (r_bounds x.r.n x.r.a x.r.m x.r.b x.e x.v k hk hn) ?_
  rintro _ _ ⟨S11, s11, R11, t11, V11, v11, W11, w11, rfl, rfl⟩   -- (blo S.r S.n k) (bhi S.r S.n k)
  refine W.cl [] (by kernel_rfl) (s_add S9 s9 R9 t9 S11 s11 R11 t11) ?_
  rintro _ _ ⟨S12, s12, R12, t12, rfl, rfl⟩   -- ((((0 : Rat) + (blo S.p 1 k)) + (blo S.q S.m k)) + (blo S.r S.n k))
  refine W.cl [] (by kernel_rfl) (s_add S10 s10 R10 t10 V11 v11 W11 w11) ?_
  rintro _ _ ⟨S13, s13, R13, t13, rfl, rfl⟩   -- ((((0 : Rat) + ?v5) + ?v8) + ?v11)
  refine W.cl [26] (by kernel_rfl) (r_bounds x.s.n x.s.a x.s.m x.s.b S2 t2 k hk (Int.mul_nonneg hm hn)) ?_
  rintro _ _ ⟨S14, s14, R14, t14, V14, v14, W14, w14, rfl, rfl⟩   -- (blo S.s (S.m * S.n) k) (bhi S.s (S.m * S.n) k)
  refine W.cl [] (by kernel_rfl) (s_add S12 s12 R12 t12 S14 s14 R14 t14) ?_
  rintro _ _ ⟨S15, s15, R15, t15, rfl, rfl⟩   -- (((((0 : Rat) + (blo S.p 1 k)) + (blo S.q S.m k)) + (blo S.r S.n k)) + (blo S.s (S.m * S.n) k))
  refine W.cl [] (by kernel_rfl) (s_add S13 s13 R13 t13 V14 v14 W14 w14) ?_
  rintro _ _ ⟨S16, s16, R16, t16, rfl, rfl⟩   -- (((((0 : Rat) + ?v5) + ?v8) + ?v11) + ?v14)
  exact W.r [26] (.tuple #[pv S15 s15 R15 t15, pv S16 s16 R16 t16]) (by kernel_rfl) ⟨_, _, _, _, _, _, _, _, rfl, rfl⟩ (entAll (Δ := [_]) (Δ' := [_]) (entP (by omega) rfl) (entP (by omega) rfl))
theorem r_lessx (x : Tw) {S : Sn} [Has (TF x) (L, S) Γ] (N : Int) (a : Sl) (D : Int) (b : Sl) {y : Rat} [Has (PF N a D b) (M, y) Γ] (hL : L ≤ 1000000 := by omega) (hM : M ≤ 1000000 := by omega) :
    PCalls tb Tryz.prog 78 [tv x, pv N a D b] Γ (TPost (L + M + 1) (S.lessr y)) := by
  refine PCalls.of_W tbOk Tryz.func78 rfl (by kernel_rfl) ?_
  refine W.tf x rfl ?_
  refine W.cl [] (by kernel_rfl) (s_sub x.p.n x.p.a x.p.m x.p.b N a D b) ?_
  rintro _ _ ⟨S1, s1, R1, t1, rfl, rfl⟩   -- (S.p - ?a)
  exact W.r [] (tv ⟨x.d, x.u, x.e, x.v, ⟨S1, s1, R1, t1⟩, x.q, x.r, x.s⟩) (by kernel_rfl) ⟨_, rfl, rfl⟩ (entT (x := ⟨x.d, x.u, x.e, x.v, ⟨S1, s1, R1, t1⟩, x.q, x.r, x.s⟩) (L' := L + M + 1) (S := S.lessr y) rfl rfl rfl rfl rfl rfl (by omega))
set_option maxHeartbeats 16000000 in
theorem r_fold (x : Tw) {S : Sn} [Has (TF x) (L, S) Γ] (hm : 0 ≤ S.m) (hn : 0 ≤ S.n) (hL : L ≤ 50000 := by omega) :
    PCalls tb Tryz.prog 86 [tv x] Γ (TPost (20 * L + 400) S.fold) := by
  refine PCalls.of_W tbOk Tryz.func86 rfl (by kernel_rfl) ?_
  refine W.tf x rfl ?_
  cases h1 : isSq S.m with
  | true =>
    cases h2 : isSq S.n with
    | true =>
      have hF := fold_tt h1 h2
      cases h3 : isSq (S.m * S.n) with
      | true =>
        refine W.cl [] (by kernel_rfl) (s_of 0 (by omega) (by omega)) ?_
        rintro _ _ ⟨S1, s1, R1, t1, rfl, rfl⟩   -- (0 : Rat)
        refine W.cl [] (by kernel_rfl) (r_square x.d x.u hm) ?_
        rintro _ _ ⟨S2, s2, R2, t2, rfl, rfl⟩   -- (rtq S.m)
        refine W.dt [] 24 ((isSq S.m)) (by kernel_rfl) (h1) ?_
        refine W.cl [24] (by kernel_rfl) (s_mul S2 s2 R2 t2 x.q.n x.q.a x.q.m x.q.b) ?_
        rintro _ _ ⟨S3, s3, R3, t3, rfl, rfl⟩   -- ((rtq S.m) * S.q)
        refine W.bs [] 2 (([⟨⟨x.p.n, x.p.a, x.p.m, x.p.b⟩, S.p⟩, ⟨⟨S3, s3, R3, t3⟩, ((rtq S.m) * S.q)⟩] : List PE).flatMap PR.cells) tbOk (by kernel_rfl) (fun b4 => ?_)
        refine W.cl [] (by kernel_rfl) (r_sum2 b4 ⟨x.p.n, x.p.a, x.p.m, x.p.b⟩ ⟨S3, s3, R3, t3⟩) ?_
        rintro _ _ ⟨S5, s5, R5, t5, rfl, rfl⟩
        refine W.cl [] (by kernel_rfl) (s_mul S2 s2 R2 t2 x.s.n x.s.a x.s.m x.s.b) ?_
        rintro _ _ ⟨S6, s6, R6, t6, rfl, rfl⟩   -- ((rtq S.m) * S.s)
        refine W.bs [] 2 (([⟨⟨x.r.n, x.r.a, x.r.m, x.r.b⟩, S.r⟩, ⟨⟨S6, s6, R6, t6⟩, ((rtq S.m) * S.s)⟩] : List PE).flatMap PR.cells) tbOk (by kernel_rfl) (fun b7 => ?_)
        refine W.cl [] (by kernel_rfl) (r_sum2 b7 ⟨x.r.n, x.r.a, x.r.m, x.r.b⟩ ⟨S6, s6, R6, t6⟩) ?_
        rintro _ _ ⟨S8, s8, R8, t8, rfl, rfl⟩
        refine W.cl [] (by kernel_rfl) (r_square x.e x.v hn) ?_
        rintro _ _ ⟨S9, s9, R9, t9, rfl, rfl⟩   -- (rtq S.n)
        refine W.dt [] 53 ((isSq S.n)) (by kernel_rfl) (h2) ?_
        refine W.cl [53] (by kernel_rfl) (s_mul S9 s9 R9 t9 S8 s8 R8 t8) ?_
        rintro _ _ ⟨S10, s10, R10, t10, rfl, rfl⟩   -- ((rtq S.n) * (0 + S.r + ((rtq S.m) * S.s)))
        refine W.bs [] 2 (([⟨⟨S5, s5, R5, t5⟩, (0 + S.p + ((rtq S.m) * S.q))⟩, ⟨⟨S10, s10, R10, t10⟩, ((rtq S.n) * (0 + S.r + ((rtq S.m) * S.s)))⟩] : List PE).flatMap PR.cells) tbOk (by kernel_rfl) (fun b11 => ?_)
        refine W.cl [] (by kernel_rfl) (r_sum2 b11 ⟨S5, s5, R5, t5⟩ ⟨S10, s10, R10, t10⟩) ?_
        rintro _ _ ⟨S12, s12, R12, t12, rfl, rfl⟩
        refine W.cl [] (by kernel_rfl) (s_mul S9 s9 R9 t9 S1 s1 R1 t1) ?_
        rintro _ _ ⟨S13, s13, R13, t13, rfl, rfl⟩   -- ((rtq S.n) * (0 : Rat))
        refine W.bs [] 2 (([⟨⟨S1, s1, R1, t1⟩, (0 : Rat)⟩, ⟨⟨S13, s13, R13, t13⟩, ((rtq S.n) * (0 : Rat))⟩] : List PE).flatMap PR.cells) tbOk (by kernel_rfl) (fun b14 => ?_)
        refine W.cl [] (by kernel_rfl) (r_sum2 b14 ⟨S1, s1, R1, t1⟩ ⟨S13, s13, R13, t13⟩) ?_
        rintro _ _ ⟨S15, s15, R15, t15, rfl, rfl⟩
        refine W.cl [] (by kernel_rfl) (r_square x.d x.u hm) ?_
        rintro _ _ ⟨S16, s16, R16, t16, rfl, rfl⟩   -- (rtq S.m)
        refine W.cl [] (by kernel_rfl) (r_square x.e x.v hn) ?_
        rintro _ _ ⟨S17, s17, R17, t17, rfl, rfl⟩   -- (rtq S.n)
        refine W.cl [] (by kernel_rfl) (p_ymul x.d x.u x.e x.v) ?_
        rintro _ _ ⟨S18, t18, rfl, rfl⟩   -- (S.m * S.n)
        refine W.cl [] (by kernel_rfl) (r_square S18 t18 (Int.mul_nonneg hm hn)) ?_
        rintro _ _ ⟨S19, s19, R19, t19, rfl, rfl⟩   -- (rtq (S.m * S.n))
        refine W.dt [] 98 ((isSq (S.m * S.n))) (by kernel_rfl) (h3) ?_
        refine W.df [98] 102 (!(isSq S.m)) (by kernel_rfl) (by rw [h1]; rfl) ?_
        exact W.r [105, 102] (tv ⟨x.d, x.u, x.e, x.v, ⟨S12, s12, R12, t12⟩, ⟨S15, s15, R15, t15⟩, ⟨S1, s1, R1, t1⟩, ⟨S1, s1, R1, t1⟩⟩) (by kernel_rfl) ⟨_, rfl, rfl⟩ (entT (x := ⟨x.d, x.u, x.e, x.v, ⟨S12, s12, R12, t12⟩, ⟨S15, s15, R15, t15⟩, ⟨S1, s1, R1, t1⟩, ⟨S1, s1, R1, t1⟩⟩) (L' := 20 * L + 400) (S := S.fold) (by rw [hF]) (by rw [hF]) (by rw [hF]) (by rw [hF] <;> rfl) (by rw [hF] <;> rfl) (by rw [hF] <;> rfl) (by omega))
      | false =>
        refine W.cl [] (by kernel_rfl) (s_of 0 (by omega) (by omega)) ?_
        rintro _ _ ⟨S1, s1, R1, t1, rfl, rfl⟩   -- (0 : Rat)
        refine W.cl [] (by kernel_rfl) (r_square x.d x.u hm) ?_
        rintro _ _ ⟨S2, s2, R2, t2, rfl, rfl⟩   -- (rtq S.m)
        refine W.dt [] 24 ((isSq S.m)) (by kernel_rfl) (h1) ?_
        refine W.cl [24] (by kernel_rfl) (s_mul S2 s2 R2 t2 x.q.n x.q.a x.q.m x.q.b) ?_
        rintro _ _ ⟨S3, s3, R3, t3, rfl, rfl⟩   -- ((rtq S.m) * S.q)
        refine W.bs [] 2 (([⟨⟨x.p.n, x.p.a, x.p.m, x.p.b⟩, S.p⟩, ⟨⟨S3, s3, R3, t3⟩, ((rtq S.m) * S.q)⟩] : List PE).flatMap PR.cells) tbOk (by kernel_rfl) (fun b4 => ?_)
        refine W.cl [] (by kernel_rfl) (r_sum2 b4 ⟨x.p.n, x.p.a, x.p.m, x.p.b⟩ ⟨S3, s3, R3, t3⟩) ?_
        rintro _ _ ⟨S5, s5, R5, t5, rfl, rfl⟩
        refine W.cl [] (by kernel_rfl) (s_mul S2 s2 R2 t2 x.s.n x.s.a x.s.m x.s.b) ?_
        rintro _ _ ⟨S6, s6, R6, t6, rfl, rfl⟩   -- ((rtq S.m) * S.s)
        refine W.bs [] 2 (([⟨⟨x.r.n, x.r.a, x.r.m, x.r.b⟩, S.r⟩, ⟨⟨S6, s6, R6, t6⟩, ((rtq S.m) * S.s)⟩] : List PE).flatMap PR.cells) tbOk (by kernel_rfl) (fun b7 => ?_)
        refine W.cl [] (by kernel_rfl) (r_sum2 b7 ⟨x.r.n, x.r.a, x.r.m, x.r.b⟩ ⟨S6, s6, R6, t6⟩) ?_
        rintro _ _ ⟨S8, s8, R8, t8, rfl, rfl⟩
        refine W.cl [] (by kernel_rfl) (r_square x.e x.v hn) ?_
        rintro _ _ ⟨S9, s9, R9, t9, rfl, rfl⟩   -- (rtq S.n)
        refine W.dt [] 53 ((isSq S.n)) (by kernel_rfl) (h2) ?_
        refine W.cl [53] (by kernel_rfl) (s_mul S9 s9 R9 t9 S8 s8 R8 t8) ?_
        rintro _ _ ⟨S10, s10, R10, t10, rfl, rfl⟩   -- ((rtq S.n) * (0 + S.r + ((rtq S.m) * S.s)))
        refine W.bs [] 2 (([⟨⟨S5, s5, R5, t5⟩, (0 + S.p + ((rtq S.m) * S.q))⟩, ⟨⟨S10, s10, R10, t10⟩, ((rtq S.n) * (0 + S.r + ((rtq S.m) * S.s)))⟩] : List PE).flatMap PR.cells) tbOk (by kernel_rfl) (fun b11 => ?_)
        refine W.cl [] (by kernel_rfl) (r_sum2 b11 ⟨S5, s5, R5, t5⟩ ⟨S10, s10, R10, t10⟩) ?_
        rintro _ _ ⟨S12, s12, R12, t12, rfl, rfl⟩
        refine W.cl [] (by kernel_rfl) (s_mul S9 s9 R9 t9 S1 s1 R1 t1) ?_
        rintro _ _ ⟨S13, s13, R13, t13, rfl, rfl⟩   -- ((rtq S.n) * (0 : Rat))
        refine W.bs [] 2 (([⟨⟨S1, s1, R1, t1⟩, (0 : Rat)⟩, ⟨⟨S13, s13, R13, t13⟩, ((rtq S.n) * (0 : Rat))⟩] : List PE).flatMap PR.cells) tbOk (by kernel_rfl) (fun b14 => ?_)
        refine W.cl [] (by kernel_rfl) (r_sum2 b14 ⟨S1, s1, R1, t1⟩ ⟨S13, s13, R13, t13⟩) ?_
        rintro _ _ ⟨S15, s15, R15, t15, rfl, rfl⟩
        refine W.cl [] (by kernel_rfl) (r_square x.d x.u hm) ?_
        rintro _ _ ⟨S16, s16, R16, t16, rfl, rfl⟩   -- (rtq S.m)
        refine W.cl [] (by kernel_rfl) (r_square x.e x.v hn) ?_
        rintro _ _ ⟨S17, s17, R17, t17, rfl, rfl⟩   -- (rtq S.n)
        refine W.cl [] (by kernel_rfl) (p_ymul x.d x.u x.e x.v) ?_
        rintro _ _ ⟨S18, t18, rfl, rfl⟩   -- (S.m * S.n)
        refine W.cl [] (by kernel_rfl) (r_square S18 t18 (Int.mul_nonneg hm hn)) ?_
        rintro _ _ ⟨S19, s19, R19, t19, rfl, rfl⟩   -- (rtq (S.m * S.n))
        refine W.df [] 98 ((isSq (S.m * S.n))) (by kernel_rfl) (h3) ?_
        exact W.r [105, 102, 98] (tv ⟨x.d, x.u, x.e, x.v, ⟨S12, s12, R12, t12⟩, ⟨S15, s15, R15, t15⟩, ⟨S1, s1, R1, t1⟩, ⟨S1, s1, R1, t1⟩⟩) (by kernel_rfl) ⟨_, rfl, rfl⟩ (entT (x := ⟨x.d, x.u, x.e, x.v, ⟨S12, s12, R12, t12⟩, ⟨S15, s15, R15, t15⟩, ⟨S1, s1, R1, t1⟩, ⟨S1, s1, R1, t1⟩⟩) (L' := 20 * L + 400) (S := S.fold) (by rw [hF]) (by rw [hF]) (by rw [hF]) (by rw [hF] <;> rfl) (by rw [hF] <;> rfl) (by rw [hF] <;> rfl) (by omega))
    | false =>
      have hF := fold_tf h1 h2
      cases h3 : isSq (S.m * S.n) with
      | true =>
        refine W.cl [] (by kernel_rfl) (s_of 0 (by omega) (by omega)) ?_
        rintro _ _ ⟨S1, s1, R1, t1, rfl, rfl⟩   -- (0 : Rat)
        refine W.cl [] (by kernel_rfl) (r_square x.d x.u hm) ?_
        rintro _ _ ⟨S2, s2, R2, t2, rfl, rfl⟩   -- (rtq S.m)
        refine W.dt [] 24 ((isSq S.m)) (by kernel_rfl) (h1) ?_
        refine W.cl [24] (by kernel_rfl) (s_mul S2 s2 R2 t2 x.q.n x.q.a x.q.m x.q.b) ?_
        rintro _ _ ⟨S3, s3, R3, t3, rfl, rfl⟩   -- ((rtq S.m) * S.q)
        refine W.bs [] 2 (([⟨⟨x.p.n, x.p.a, x.p.m, x.p.b⟩, S.p⟩, ⟨⟨S3, s3, R3, t3⟩, ((rtq S.m) * S.q)⟩] : List PE).flatMap PR.cells) tbOk (by kernel_rfl) (fun b4 => ?_)
        refine W.cl [] (by kernel_rfl) (r_sum2 b4 ⟨x.p.n, x.p.a, x.p.m, x.p.b⟩ ⟨S3, s3, R3, t3⟩) ?_
        rintro _ _ ⟨S5, s5, R5, t5, rfl, rfl⟩
        refine W.cl [] (by kernel_rfl) (s_mul S2 s2 R2 t2 x.s.n x.s.a x.s.m x.s.b) ?_
        rintro _ _ ⟨S6, s6, R6, t6, rfl, rfl⟩   -- ((rtq S.m) * S.s)
        refine W.bs [] 2 (([⟨⟨x.r.n, x.r.a, x.r.m, x.r.b⟩, S.r⟩, ⟨⟨S6, s6, R6, t6⟩, ((rtq S.m) * S.s)⟩] : List PE).flatMap PR.cells) tbOk (by kernel_rfl) (fun b7 => ?_)
        refine W.cl [] (by kernel_rfl) (r_sum2 b7 ⟨x.r.n, x.r.a, x.r.m, x.r.b⟩ ⟨S6, s6, R6, t6⟩) ?_
        rintro _ _ ⟨S8, s8, R8, t8, rfl, rfl⟩
        refine W.cl [] (by kernel_rfl) (r_square x.e x.v hn) ?_
        rintro _ _ ⟨S9, s9, R9, t9, rfl, rfl⟩   -- (rtq S.n)
        refine W.df [] 53 ((isSq S.n)) (by kernel_rfl) (h2) ?_
        refine W.cl [53] (by kernel_rfl) (r_square x.d x.u hm) ?_
        rintro _ _ ⟨S10, s10, R10, t10, rfl, rfl⟩   -- (rtq S.m)
        refine W.cl [] (by kernel_rfl) (r_square x.e x.v hn) ?_
        rintro _ _ ⟨S11, s11, R11, t11, rfl, rfl⟩   -- (rtq S.n)
        refine W.cl [] (by kernel_rfl) (p_ymul x.d x.u x.e x.v) ?_
        rintro _ _ ⟨S12, t12, rfl, rfl⟩   -- (S.m * S.n)
        refine W.cl [] (by kernel_rfl) (r_square S12 t12 (Int.mul_nonneg hm hn)) ?_
        rintro _ _ ⟨S13, s13, R13, t13, rfl, rfl⟩   -- (rtq (S.m * S.n))
        refine W.dt [] 98 ((isSq (S.m * S.n))) (by kernel_rfl) (h3) ?_
        refine W.df [98] 102 (!(isSq S.m)) (by kernel_rfl) (by rw [h1]; rfl) ?_
        exact W.r [105, 102] (tv ⟨x.d, x.u, x.e, x.v, ⟨S5, s5, R5, t5⟩, ⟨S1, s1, R1, t1⟩, ⟨S8, s8, R8, t8⟩, ⟨S1, s1, R1, t1⟩⟩) (by kernel_rfl) ⟨_, rfl, rfl⟩ (entT (x := ⟨x.d, x.u, x.e, x.v, ⟨S5, s5, R5, t5⟩, ⟨S1, s1, R1, t1⟩, ⟨S8, s8, R8, t8⟩, ⟨S1, s1, R1, t1⟩⟩) (L' := 20 * L + 400) (S := S.fold) (by rw [hF]) (by rw [hF]) (by rw [hF]) (by rw [hF] <;> rfl) (by rw [hF] <;> rfl) (by rw [hF] <;> rfl) (by omega))
      | false =>
        refine W.cl [] (by kernel_rfl) (s_of 0 (by omega) (by omega)) ?_
        rintro _ _ ⟨S1, s1, R1, t1, rfl, rfl⟩   -- (0 : Rat)
        refine W.cl [] (by kernel_rfl) (r_square x.d x.u hm) ?_
        rintro _ _ ⟨S2, s2, R2, t2, rfl, rfl⟩   -- (rtq S.m)
        refine W.dt [] 24 ((isSq S.m)) (by kernel_rfl) (h1) ?_
        refine W.cl [24] (by kernel_rfl) (s_mul S2 s2 R2 t2 x.q.n x.q.a x.q.m x.q.b) ?_
        rintro _ _ ⟨S3, s3, R3, t3, rfl, rfl⟩   -- ((rtq S.m) * S.q)
        refine W.bs [] 2 (([⟨⟨x.p.n, x.p.a, x.p.m, x.p.b⟩, S.p⟩, ⟨⟨S3, s3, R3, t3⟩, ((rtq S.m) * S.q)⟩] : List PE).flatMap PR.cells) tbOk (by kernel_rfl) (fun b4 => ?_)
        refine W.cl [] (by kernel_rfl) (r_sum2 b4 ⟨x.p.n, x.p.a, x.p.m, x.p.b⟩ ⟨S3, s3, R3, t3⟩) ?_
        rintro _ _ ⟨S5, s5, R5, t5, rfl, rfl⟩
        refine W.cl [] (by kernel_rfl) (s_mul S2 s2 R2 t2 x.s.n x.s.a x.s.m x.s.b) ?_
        rintro _ _ ⟨S6, s6, R6, t6, rfl, rfl⟩   -- ((rtq S.m) * S.s)
        refine W.bs [] 2 (([⟨⟨x.r.n, x.r.a, x.r.m, x.r.b⟩, S.r⟩, ⟨⟨S6, s6, R6, t6⟩, ((rtq S.m) * S.s)⟩] : List PE).flatMap PR.cells) tbOk (by kernel_rfl) (fun b7 => ?_)
        refine W.cl [] (by kernel_rfl) (r_sum2 b7 ⟨x.r.n, x.r.a, x.r.m, x.r.b⟩ ⟨S6, s6, R6, t6⟩) ?_
        rintro _ _ ⟨S8, s8, R8, t8, rfl, rfl⟩
        refine W.cl [] (by kernel_rfl) (r_square x.e x.v hn) ?_
        rintro _ _ ⟨S9, s9, R9, t9, rfl, rfl⟩   -- (rtq S.n)
        refine W.df [] 53 ((isSq S.n)) (by kernel_rfl) (h2) ?_
        refine W.cl [53] (by kernel_rfl) (r_square x.d x.u hm) ?_
        rintro _ _ ⟨S10, s10, R10, t10, rfl, rfl⟩   -- (rtq S.m)
        refine W.cl [] (by kernel_rfl) (r_square x.e x.v hn) ?_
        rintro _ _ ⟨S11, s11, R11, t11, rfl, rfl⟩   -- (rtq S.n)
        refine W.cl [] (by kernel_rfl) (p_ymul x.d x.u x.e x.v) ?_
        rintro _ _ ⟨S12, t12, rfl, rfl⟩   -- (S.m * S.n)
        refine W.cl [] (by kernel_rfl) (r_square S12 t12 (Int.mul_nonneg hm hn)) ?_
        rintro _ _ ⟨S13, s13, R13, t13, rfl, rfl⟩   -- (rtq (S.m * S.n))
        refine W.df [] 98 ((isSq (S.m * S.n))) (by kernel_rfl) (h3) ?_
        exact W.r [105, 102, 98] (tv ⟨x.d, x.u, x.e, x.v, ⟨S5, s5, R5, t5⟩, ⟨S1, s1, R1, t1⟩, ⟨S8, s8, R8, t8⟩, ⟨S1, s1, R1, t1⟩⟩) (by kernel_rfl) ⟨_, rfl, rfl⟩ (entT (x := ⟨x.d, x.u, x.e, x.v, ⟨S5, s5, R5, t5⟩, ⟨S1, s1, R1, t1⟩, ⟨S8, s8, R8, t8⟩, ⟨S1, s1, R1, t1⟩⟩) (L' := 20 * L + 400) (S := S.fold) (by rw [hF]) (by rw [hF]) (by rw [hF]) (by rw [hF] <;> rfl) (by rw [hF] <;> rfl) (by rw [hF] <;> rfl) (by omega))
  | false =>
    cases h2 : isSq S.n with
    | true =>
      have hF := fold_ft h1 h2
      cases h3 : isSq (S.m * S.n) with
      | true =>
        refine W.cl [] (by kernel_rfl) (s_of 0 (by omega) (by omega)) ?_
        rintro _ _ ⟨S1, s1, R1, t1, rfl, rfl⟩   -- (0 : Rat)
        refine W.cl [] (by kernel_rfl) (r_square x.d x.u hm) ?_
        rintro _ _ ⟨S2, s2, R2, t2, rfl, rfl⟩   -- (rtq S.m)
        refine W.df [] 24 ((isSq S.m)) (by kernel_rfl) (h1) ?_
        refine W.cl [24] (by kernel_rfl) (r_square x.e x.v hn) ?_
        rintro _ _ ⟨S3, s3, R3, t3, rfl, rfl⟩   -- (rtq S.n)
        refine W.dt [] 53 ((isSq S.n)) (by kernel_rfl) (h2) ?_
        refine W.cl [53] (by kernel_rfl) (s_mul S3 s3 R3 t3 x.r.n x.r.a x.r.m x.r.b) ?_
        rintro _ _ ⟨S4, s4, R4, t4, rfl, rfl⟩   -- ((rtq S.n) * S.r)
        refine W.bs [] 2 (([⟨⟨x.p.n, x.p.a, x.p.m, x.p.b⟩, S.p⟩, ⟨⟨S4, s4, R4, t4⟩, ((rtq S.n) * S.r)⟩] : List PE).flatMap PR.cells) tbOk (by kernel_rfl) (fun b5 => ?_)
        refine W.cl [] (by kernel_rfl) (r_sum2 b5 ⟨x.p.n, x.p.a, x.p.m, x.p.b⟩ ⟨S4, s4, R4, t4⟩) ?_
        rintro _ _ ⟨S6, s6, R6, t6, rfl, rfl⟩
        refine W.cl [] (by kernel_rfl) (s_mul S3 s3 R3 t3 x.s.n x.s.a x.s.m x.s.b) ?_
        rintro _ _ ⟨S7, s7, R7, t7, rfl, rfl⟩   -- ((rtq S.n) * S.s)
        refine W.bs [] 2 (([⟨⟨x.q.n, x.q.a, x.q.m, x.q.b⟩, S.q⟩, ⟨⟨S7, s7, R7, t7⟩, ((rtq S.n) * S.s)⟩] : List PE).flatMap PR.cells) tbOk (by kernel_rfl) (fun b8 => ?_)
        refine W.cl [] (by kernel_rfl) (r_sum2 b8 ⟨x.q.n, x.q.a, x.q.m, x.q.b⟩ ⟨S7, s7, R7, t7⟩) ?_
        rintro _ _ ⟨S9, s9, R9, t9, rfl, rfl⟩
        refine W.cl [] (by kernel_rfl) (r_square x.d x.u hm) ?_
        rintro _ _ ⟨S10, s10, R10, t10, rfl, rfl⟩   -- (rtq S.m)
        refine W.cl [] (by kernel_rfl) (r_square x.e x.v hn) ?_
        rintro _ _ ⟨S11, s11, R11, t11, rfl, rfl⟩   -- (rtq S.n)
        refine W.cl [] (by kernel_rfl) (p_ymul x.d x.u x.e x.v) ?_
        rintro _ _ ⟨S12, t12, rfl, rfl⟩   -- (S.m * S.n)
        refine W.cl [] (by kernel_rfl) (r_square S12 t12 (Int.mul_nonneg hm hn)) ?_
        rintro _ _ ⟨S13, s13, R13, t13, rfl, rfl⟩   -- (rtq (S.m * S.n))
        refine W.dt [] 98 ((isSq (S.m * S.n))) (by kernel_rfl) (h3) ?_
        refine W.dt [98] 102 (!(isSq S.m)) (by kernel_rfl) (by rw [h1]; rfl) ?_
        refine W.df [102] 105 (!(isSq S.n)) (by kernel_rfl) (by rw [h2]; rfl) ?_
        exact W.r [105] (tv ⟨x.d, x.u, x.e, x.v, ⟨S6, s6, R6, t6⟩, ⟨S9, s9, R9, t9⟩, ⟨S1, s1, R1, t1⟩, ⟨S1, s1, R1, t1⟩⟩) (by kernel_rfl) ⟨_, rfl, rfl⟩ (entT (x := ⟨x.d, x.u, x.e, x.v, ⟨S6, s6, R6, t6⟩, ⟨S9, s9, R9, t9⟩, ⟨S1, s1, R1, t1⟩, ⟨S1, s1, R1, t1⟩⟩) (L' := 20 * L + 400) (S := S.fold) (by rw [hF]) (by rw [hF]) (by rw [hF]) (by rw [hF] <;> rfl) (by rw [hF] <;> rfl) (by rw [hF] <;> rfl) (by omega))
      | false =>
        refine W.cl [] (by kernel_rfl) (s_of 0 (by omega) (by omega)) ?_
        rintro _ _ ⟨S1, s1, R1, t1, rfl, rfl⟩   -- (0 : Rat)
        refine W.cl [] (by kernel_rfl) (r_square x.d x.u hm) ?_
        rintro _ _ ⟨S2, s2, R2, t2, rfl, rfl⟩   -- (rtq S.m)
        refine W.df [] 24 ((isSq S.m)) (by kernel_rfl) (h1) ?_
        refine W.cl [24] (by kernel_rfl) (r_square x.e x.v hn) ?_
        rintro _ _ ⟨S3, s3, R3, t3, rfl, rfl⟩   -- (rtq S.n)
        refine W.dt [] 53 ((isSq S.n)) (by kernel_rfl) (h2) ?_
        refine W.cl [53] (by kernel_rfl) (s_mul S3 s3 R3 t3 x.r.n x.r.a x.r.m x.r.b) ?_
        rintro _ _ ⟨S4, s4, R4, t4, rfl, rfl⟩   -- ((rtq S.n) * S.r)
        refine W.bs [] 2 (([⟨⟨x.p.n, x.p.a, x.p.m, x.p.b⟩, S.p⟩, ⟨⟨S4, s4, R4, t4⟩, ((rtq S.n) * S.r)⟩] : List PE).flatMap PR.cells) tbOk (by kernel_rfl) (fun b5 => ?_)
        refine W.cl [] (by kernel_rfl) (r_sum2 b5 ⟨x.p.n, x.p.a, x.p.m, x.p.b⟩ ⟨S4, s4, R4, t4⟩) ?_
        rintro _ _ ⟨S6, s6, R6, t6, rfl, rfl⟩
        refine W.cl [] (by kernel_rfl) (s_mul S3 s3 R3 t3 x.s.n x.s.a x.s.m x.s.b) ?_
        rintro _ _ ⟨S7, s7, R7, t7, rfl, rfl⟩   -- ((rtq S.n) * S.s)
        refine W.bs [] 2 (([⟨⟨x.q.n, x.q.a, x.q.m, x.q.b⟩, S.q⟩, ⟨⟨S7, s7, R7, t7⟩, ((rtq S.n) * S.s)⟩] : List PE).flatMap PR.cells) tbOk (by kernel_rfl) (fun b8 => ?_)
        refine W.cl [] (by kernel_rfl) (r_sum2 b8 ⟨x.q.n, x.q.a, x.q.m, x.q.b⟩ ⟨S7, s7, R7, t7⟩) ?_
        rintro _ _ ⟨S9, s9, R9, t9, rfl, rfl⟩
        refine W.cl [] (by kernel_rfl) (r_square x.d x.u hm) ?_
        rintro _ _ ⟨S10, s10, R10, t10, rfl, rfl⟩   -- (rtq S.m)
        refine W.cl [] (by kernel_rfl) (r_square x.e x.v hn) ?_
        rintro _ _ ⟨S11, s11, R11, t11, rfl, rfl⟩   -- (rtq S.n)
        refine W.cl [] (by kernel_rfl) (p_ymul x.d x.u x.e x.v) ?_
        rintro _ _ ⟨S12, t12, rfl, rfl⟩   -- (S.m * S.n)
        refine W.cl [] (by kernel_rfl) (r_square S12 t12 (Int.mul_nonneg hm hn)) ?_
        rintro _ _ ⟨S13, s13, R13, t13, rfl, rfl⟩   -- (rtq (S.m * S.n))
        refine W.df [] 98 ((isSq (S.m * S.n))) (by kernel_rfl) (h3) ?_
        exact W.r [105, 102, 98] (tv ⟨x.d, x.u, x.e, x.v, ⟨S6, s6, R6, t6⟩, ⟨S9, s9, R9, t9⟩, ⟨S1, s1, R1, t1⟩, ⟨S1, s1, R1, t1⟩⟩) (by kernel_rfl) ⟨_, rfl, rfl⟩ (entT (x := ⟨x.d, x.u, x.e, x.v, ⟨S6, s6, R6, t6⟩, ⟨S9, s9, R9, t9⟩, ⟨S1, s1, R1, t1⟩, ⟨S1, s1, R1, t1⟩⟩) (L' := 20 * L + 400) (S := S.fold) (by rw [hF]) (by rw [hF]) (by rw [hF]) (by rw [hF] <;> rfl) (by rw [hF] <;> rfl) (by rw [hF] <;> rfl) (by omega))
    | false =>
      cases h3 : isSq (S.m * S.n) with
      | true =>
        have hF := fold_fft h1 h2 h3
        have hmq := sq_ne h1
        refine W.cl [] (by kernel_rfl) (s_of 0 (by omega) (by omega)) ?_
        rintro _ _ ⟨S1, s1, R1, t1, rfl, rfl⟩   -- (0 : Rat)
        refine W.cl [] (by kernel_rfl) (r_square x.d x.u hm) ?_
        rintro _ _ ⟨S2, s2, R2, t2, rfl, rfl⟩   -- (rtq S.m)
        refine W.df [] 24 ((isSq S.m)) (by kernel_rfl) (h1) ?_
        refine W.cl [24] (by kernel_rfl) (r_square x.e x.v hn) ?_
        rintro _ _ ⟨S3, s3, R3, t3, rfl, rfl⟩   -- (rtq S.n)
        refine W.df [] 53 ((isSq S.n)) (by kernel_rfl) (h2) ?_
        refine W.cl [53] (by kernel_rfl) (r_square x.d x.u hm) ?_
        rintro _ _ ⟨S4, s4, R4, t4, rfl, rfl⟩   -- (rtq S.m)
        refine W.cl [] (by kernel_rfl) (r_square x.e x.v hn) ?_
        rintro _ _ ⟨S5, s5, R5, t5, rfl, rfl⟩   -- (rtq S.n)
        refine W.cl [] (by kernel_rfl) (p_ymul x.d x.u x.e x.v) ?_
        rintro _ _ ⟨S6, t6, rfl, rfl⟩   -- (S.m * S.n)
        refine W.cl [] (by kernel_rfl) (r_square S6 t6 (Int.mul_nonneg hm hn)) ?_
        rintro _ _ ⟨S7, s7, R7, t7, rfl, rfl⟩   -- (rtq (S.m * S.n))
        refine W.dt [] 98 ((isSq (S.m * S.n))) (by kernel_rfl) (h3) ?_
        refine W.dt [98] 102 (!(isSq S.m)) (by kernel_rfl) (by rw [h1]; rfl) ?_
        refine W.dt [102] 105 (!(isSq S.n)) (by kernel_rfl) (by rw [h2]; rfl) ?_
        refine W.cl [105] (by kernel_rfl) (s_mul S7 s7 R7 t7 x.s.n x.s.a x.s.m x.s.b) ?_
        rintro _ _ ⟨S8, s8, R8, t8, rfl, rfl⟩   -- ((rtq (S.m * S.n)) * S.s)
        refine W.bs [] 2 (([⟨⟨x.p.n, x.p.a, x.p.m, x.p.b⟩, S.p⟩, ⟨⟨S8, s8, R8, t8⟩, ((rtq (S.m * S.n)) * S.s)⟩] : List PE).flatMap PR.cells) tbOk (by kernel_rfl) (fun b9 => ?_)
        refine W.cl [] (by kernel_rfl) (r_sum2 b9 ⟨x.p.n, x.p.a, x.p.m, x.p.b⟩ ⟨S8, s8, R8, t8⟩) ?_
        rintro _ _ ⟨S10, s10, R10, t10, rfl, rfl⟩
        refine W.cl [] (by kernel_rfl) (r_whole x.d x.u) ?_
        rintro _ _ ⟨S11, s11, R11, t11, rfl, rfl⟩   -- ((S.m : Int) : Rat)
        refine W.cl [] (by kernel_rfl) (s_div S7 s7 R7 t7 S11 s11 R11 t11 hmq) ?_
        rintro _ _ ⟨S12, s12, R12, t12, rfl, rfl⟩   -- ((rtq (S.m * S.n)) / ((S.m : Int) : Rat))
        refine W.cl [] (by kernel_rfl) (s_mul S12 s12 R12 t12 x.r.n x.r.a x.r.m x.r.b) ?_
        rintro _ _ ⟨S13, s13, R13, t13, rfl, rfl⟩   -- (((rtq (S.m * S.n)) / ((S.m : Int) : Rat)) * S.r)
        refine W.bs [] 2 (([⟨⟨x.q.n, x.q.a, x.q.m, x.q.b⟩, S.q⟩, ⟨⟨S13, s13, R13, t13⟩, (((rtq (S.m * S.n)) / ((S.m : Int) : Rat)) * S.r)⟩] : List PE).flatMap PR.cells) tbOk (by kernel_rfl) (fun b14 => ?_)
        refine W.cl [] (by kernel_rfl) (r_sum2 b14 ⟨x.q.n, x.q.a, x.q.m, x.q.b⟩ ⟨S13, s13, R13, t13⟩) ?_
        rintro _ _ ⟨S15, s15, R15, t15, rfl, rfl⟩
        exact W.r [] (tv ⟨x.d, x.u, x.e, x.v, ⟨S10, s10, R10, t10⟩, ⟨S15, s15, R15, t15⟩, ⟨S1, s1, R1, t1⟩, ⟨S1, s1, R1, t1⟩⟩) (by kernel_rfl) ⟨_, rfl, rfl⟩ (entT (x := ⟨x.d, x.u, x.e, x.v, ⟨S10, s10, R10, t10⟩, ⟨S15, s15, R15, t15⟩, ⟨S1, s1, R1, t1⟩, ⟨S1, s1, R1, t1⟩⟩) (L' := 20 * L + 400) (S := S.fold) (by rw [hF]) (by rw [hF]) (by rw [hF]) (by rw [hF] <;> rfl) (by rw [hF] <;> rfl) (by rw [hF] <;> rfl) (by omega))
      | false =>
        have hF := fold_fff h1 h2 h3
        refine W.cl [] (by kernel_rfl) (s_of 0 (by omega) (by omega)) ?_
        rintro _ _ ⟨S1, s1, R1, t1, rfl, rfl⟩   -- (0 : Rat)
        refine W.cl [] (by kernel_rfl) (r_square x.d x.u hm) ?_
        rintro _ _ ⟨S2, s2, R2, t2, rfl, rfl⟩   -- (rtq S.m)
        refine W.df [] 24 ((isSq S.m)) (by kernel_rfl) (h1) ?_
        refine W.cl [24] (by kernel_rfl) (r_square x.e x.v hn) ?_
        rintro _ _ ⟨S3, s3, R3, t3, rfl, rfl⟩   -- (rtq S.n)
        refine W.df [] 53 ((isSq S.n)) (by kernel_rfl) (h2) ?_
        refine W.cl [53] (by kernel_rfl) (r_square x.d x.u hm) ?_
        rintro _ _ ⟨S4, s4, R4, t4, rfl, rfl⟩   -- (rtq S.m)
        refine W.cl [] (by kernel_rfl) (r_square x.e x.v hn) ?_
        rintro _ _ ⟨S5, s5, R5, t5, rfl, rfl⟩   -- (rtq S.n)
        refine W.cl [] (by kernel_rfl) (p_ymul x.d x.u x.e x.v) ?_
        rintro _ _ ⟨S6, t6, rfl, rfl⟩   -- (S.m * S.n)
        refine W.cl [] (by kernel_rfl) (r_square S6 t6 (Int.mul_nonneg hm hn)) ?_
        rintro _ _ ⟨S7, s7, R7, t7, rfl, rfl⟩   -- (rtq (S.m * S.n))
        refine W.df [] 98 ((isSq (S.m * S.n))) (by kernel_rfl) (h3) ?_
        exact W.r [105, 102, 98] (tv x) (by kernel_rfl) ⟨_, rfl, rfl⟩ (entT' (by omega) hF.symm)
end
end Go.Proofs.YtabpaiboodllbaaGreat

set_option linter.unusedSimpArgs false
set_option linter.unusedVariables false
namespace Go.Proofs.YtabpaiboodllbaaGreat
open Go.RowKit Go.IntWalk

theorem sign_nz {q : Rat} : (q.num.sign == 0) = true ↔ q = 0 := by rw [beq_iff_eq, sign_eq0]
theorem sgn_lo {q : Rat} : q.num.sign > 0 ↔ 0 < q := by
  constructor
  · intro h
    by_cases h0 : q = 0
    · rw [sign_eq0.2 h0] at h; simp at h
    · by_cases h1 : q < 0
      · have := sign_lt0.2 h1; omega
      · grind
  · intro h
    exact sign_pos_q h
where
  sign_pos_q {q : Rat} (h : 0 < q) : q.num.sign > 0 := by
    have h1 : ¬ q.num.sign < 0 := fun e => by rw [sign_lt0] at e; grind
    have h2 : ¬ q.num.sign = 0 := fun e => by rw [sign_eq0] at e; grind
    omega
section
variable {fin : VS → List Fact → Prop} {Γ : List Fact} {L M K : Nat}
set_option maxHeartbeats 8000000 in
theorem r_sgn (x : Tw) {S : Sn} [Has (TF x) (L, S) Γ] (hm : 0 ≤ S.m) (hn : 0 ≤ S.n) (cm : S.m.natAbs ≤ 2 ^ 63) (cn : S.n.natAbs ≤ 2 ^ 63) (hsep : ¬ S.fold.nil → 0 < S.fold.lo 8192 ∨ S.fold.hi 8192 < 0) (hL : L ≤ 40000 := by omega) :
    PCalls tb Tryz.prog 22 [tv x] Γ (IsV (.int .i64 S.sg)) := by
  have fm := fold_mn S
  have fs := fold_sg S hm hn
  refine PCalls.of_W tbOk Tryz.func22 rfl (by kernel_rfl) ?_
  refine W.cl [] (by kernel_rfl) (r_fold x hm hn) ?_
  rintro _ _ ⟨Y1, rfl, rfl⟩
  obtain ⟨F, hF⟩ : ∃ F, F = S.fold := ⟨_, rfl⟩
  rw [← hF] at fm fs hsep ⊢
  have cm' : F.m.natAbs ≤ 2 ^ 63 := by rw [fm.1]; exact cm
  have cn' : F.n.natAbs ≤ 2 ^ 63 := by rw [fm.2]; exact cn
  have fm0 : 0 ≤ F.m := by omega
  have fn0 : 0 ≤ F.n := by omega
  refine W.code 999 ?_
  refine W.tf Y1 (by kernel_rfl) ?_
  refine W.pn Y1.p.n Y1.p.a Y1.p.m Y1.p.b (by kernel_rfl) (fun hp => ?_)
  refine W.pn Y1.q.n Y1.q.a Y1.q.m Y1.q.b (by kernel_rfl) (fun hq => ?_)
  refine W.pn Y1.r.n Y1.r.a Y1.r.m Y1.r.b (by kernel_rfl) (fun hr => ?_)
  refine W.pn Y1.s.n Y1.s.a Y1.s.m Y1.s.b (by kernel_rfl) (fun hs => ?_)
  refine W.lp [] [4, 5] (fun a : Nat × Bool => [(4, .bool a.2), (5, .int .i64 (a.1 : Int))]) (fun _ => []) (fun _ => [TF Y1 (20 * L + 400, F)]) (fun a => a.1 ≤ 4 ∧ (a.2 = true ↔ ((0 < a.1 → F.p = 0) ∧ (1 < a.1 → F.q = 0) ∧ (2 < a.1 → F.r = 0) ∧ (3 < a.1 → F.s = 0)))) (fun a => 4 - a.1) (0, true) (by kernel_rfl) (by kernel_rfl) ⟨by decide, by simp⟩ (fun I w hd hh => holds1 (Has.p (k := TF Y1) (a := (20 * L + 400, F)) inferInstance hh)) ?_
  rintro ⟨i, z⟩ R ⟨hi, hz⟩ close
  simp only at hi hz
  by_cases h4 : i < 4
  · refine W.dt [] 12 (decide ((i : Int) < 4)) (by kernel_rfl) (by rw [decide_eq_true_iff]; omega) ?_
    have hcase : i = 0 ∨ i = 1 ∨ i = 2 ∨ i = 3 := by omega
    by_cases hzt : z = true
    · have hz1 := hz.1 hzt
      rcases hcase with rfl | rfl | rfl | rfl
      · refine W.dt [12] 16 z (by kernel_rfl) hzt ?_
        refine close [16] _ _ (1, Y1.p.n == 0) (by kernel_rfl) (by kernel_rfl) ⟨by simp only; omega, ?_⟩ (by simp only; omega) (fun I w hd hh => holds1 (Has.p (k := TF Y1) (a := (20 * L + 400, F)) inferInstance hh))
        simp only
        rw [hp, sign_nz]
        exact ⟨fun e => ⟨fun _ => e, fun h => absurd h (by omega), fun h => absurd h (by omega), fun h => absurd h (by omega)⟩, fun h => h.1 (by omega)⟩
      · refine W.dt [12] 16 z (by kernel_rfl) hzt ?_
        refine close [16] _ _ (2, Y1.q.n == 0) (by kernel_rfl) (by kernel_rfl) ⟨by simp only; omega, ?_⟩ (by simp only; omega) (fun I w hd hh => holds1 (Has.p (k := TF Y1) (a := (20 * L + 400, F)) inferInstance hh))
        simp only
        rw [hq, sign_nz]
        exact ⟨fun e => ⟨fun _ => hz1.1 (by omega), fun h => e, fun h => absurd h (by omega), fun h => absurd h (by omega)⟩, fun h => h.2.1 (by omega)⟩
      · refine W.dt [12] 16 z (by kernel_rfl) hzt ?_
        refine close [16] _ _ (3, Y1.r.n == 0) (by kernel_rfl) (by kernel_rfl) ⟨by simp only; omega, ?_⟩ (by simp only; omega) (fun I w hd hh => holds1 (Has.p (k := TF Y1) (a := (20 * L + 400, F)) inferInstance hh))
        simp only
        rw [hr, sign_nz]
        exact ⟨fun e => ⟨fun _ => hz1.1 (by omega), fun h => hz1.2.1 (by omega), fun h => e, fun h => absurd h (by omega)⟩, fun h => h.2.2.1 (by omega)⟩
      · refine W.dt [12] 16 z (by kernel_rfl) hzt ?_
        refine close [16] _ _ (4, Y1.s.n == 0) (by kernel_rfl) (by kernel_rfl) ⟨by simp only; omega, ?_⟩ (by simp only; omega) (fun I w hd hh => holds1 (Has.p (k := TF Y1) (a := (20 * L + 400, F)) inferInstance hh))
        simp only
        rw [hs, sign_nz]
        exact ⟨fun e => ⟨fun _ => hz1.1 (by omega), fun h => hz1.2.1 (by omega), fun h => hz1.2.2.1 (by omega), fun h => e⟩, fun h => h.2.2.2 (by omega)⟩
    · rcases hcase with rfl | rfl | rfl | rfl
      · refine W.df [12] 16 z (by kernel_rfl) (by simpa using hzt) ?_
        refine close [16] _ _ (1, false) (by kernel_rfl) (by kernel_rfl) ⟨by simp only; omega, ?_⟩ (by simp only; omega) (fun I w hd hh => holds1 (Has.p (k := TF Y1) (a := (20 * L + 400, F)) inferInstance hh))
        simp only
        exact ⟨fun e => by simp at e, fun h => absurd (hz.2 ⟨fun g => absurd g (by omega), fun g => absurd g (by omega), fun g => absurd g (by omega), fun g => absurd g (by omega)⟩) hzt⟩
      · refine W.df [12] 16 z (by kernel_rfl) (by simpa using hzt) ?_
        refine close [16] _ _ (2, false) (by kernel_rfl) (by kernel_rfl) ⟨by simp only; omega, ?_⟩ (by simp only; omega) (fun I w hd hh => holds1 (Has.p (k := TF Y1) (a := (20 * L + 400, F)) inferInstance hh))
        simp only
        exact ⟨fun e => by simp at e, fun h => absurd (hz.2 ⟨fun g => h.1 (by omega), fun g => absurd g (by omega), fun g => absurd g (by omega), fun g => absurd g (by omega)⟩) hzt⟩
      · refine W.df [12] 16 z (by kernel_rfl) (by simpa using hzt) ?_
        refine close [16] _ _ (3, false) (by kernel_rfl) (by kernel_rfl) ⟨by simp only; omega, ?_⟩ (by simp only; omega) (fun I w hd hh => holds1 (Has.p (k := TF Y1) (a := (20 * L + 400, F)) inferInstance hh))
        simp only
        exact ⟨fun e => by simp at e, fun h => absurd (hz.2 ⟨fun g => h.1 (by omega), fun g => h.2.1 (by omega), fun g => absurd g (by omega), fun g => absurd g (by omega)⟩) hzt⟩
      · refine W.df [12] 16 z (by kernel_rfl) (by simpa using hzt) ?_
        refine close [16] _ _ (4, false) (by kernel_rfl) (by kernel_rfl) ⟨by simp only; omega, ?_⟩ (by simp only; omega) (fun I w hd hh => holds1 (Has.p (k := TF Y1) (a := (20 * L + 400, F)) inferInstance hh))
        simp only
        exact ⟨fun e => by simp at e, fun h => absurd (hz.2 ⟨fun g => h.1 (by omega), fun g => h.2.1 (by omega), fun g => h.2.2.1 (by omega), fun g => absurd g (by omega)⟩) hzt⟩
  · obtain rfl : i = 4 := by omega
    refine W.df [] 12 (decide (((4 : Nat) : Int) < 4)) (by kernel_rfl) (by decide) ?_
    by_cases hzt : z = true
    · refine W.dt [12] 25 z (by kernel_rfl) hzt ?_
      have h0 := hz.1 hzt
      exact W.r [25] (.int .i64 0) (by kernel_rfl) ⟨congrArg _ (by rw [← fs]; exact (Sn.sg_zero (h0.1 (by omega)) (h0.2.1 (by omega)) (h0.2.2.1 (by omega)) (h0.2.2.2 (by omega))).symm), rfl⟩ ent0
    · have hnil : ¬ F.nil := fun h => hzt (hz.2 ⟨fun _ => h.1, fun _ => h.2.1, fun _ => h.2.2.1, fun _ => h.2.2.2⟩)
      have hs8 := hsep hnil
      refine W.df [12] 25 z (by kernel_rfl) (by simpa using hzt) ?_
      refine W.lp [25] [2, 6] (fun k : Nat => [(2, .int .i64 0), (6, .int .i64 ((8 * 2 ^ k : Nat) : Int))]) (fun _ => []) (fun _ => [TF Y1 (20 * L + 400, F)]) (fun k => k ≤ 10 ∨ (k = 11 ∧ ¬ 0 < F.lo 8192 ∧ ¬ F.hi 8192 < 0)) (fun k => 11 - k) 0 (by kernel_rfl) (by kernel_rfl) (.inl (by omega)) (fun I w hd hh => holds1 (Has.p (k := TF Y1) (a := (20 * L + 400, F)) inferInstance hh)) ?_
      rintro k R' hk close'
      by_cases hk10 : k ≤ 10
      · have hpow : 8 * 2 ^ k ≤ 8192 := by
          have := Nat.pow_le_pow_right (show 0 < 2 by decide) hk10
          omega
        refine W.dt [] 27 (decide (((8 * 2 ^ k : Nat) : Int) < 10000)) (by kernel_rfl) (by rw [decide_eq_true_iff]; omega) ?_
        refine W.cl [27] (by kernel_rfl) (r_between Y1 (8 * 2 ^ k) (by omega) fm0 fn0 cm' cn') ?_
        rintro _ _ ⟨S4, s4, R4, t4, V4, v4, W4, w4, rfl, rfl⟩
        refine W.code 999 ?_
        refine W.pn S4 s4 R4 t4 (by kernel_rfl) (fun hlo => ?_)
        refine W.pn V4 v4 W4 w4 (by kernel_rfl) (fun hhi => ?_)
        by_cases h1 : 0 < F.lo (8 * 2 ^ k)
        · refine W.dt [] 39 (decide (S4 > 0)) (by kernel_rfl) (by rw [decide_eq_true_iff, hlo]; exact sgn_lo.2 h1) ?_
          exact W.r [39] (.int .i64 1) (by kernel_rfl) ⟨congrArg _ (by rw [← fs]; exact (lo_pos F fm0 fn0 h1).symm), rfl⟩ ent0
        refine W.df [] 39 (decide (S4 > 0)) (by kernel_rfl) (by rw [decide_eq_false_iff_not, hlo]; exact fun h => h1 (sgn_lo.1 h)) ?_
        by_cases h2 : F.hi (8 * 2 ^ k) < 0
        · refine W.dt [39] 43 (decide (V4 < 0)) (by kernel_rfl) (by rw [decide_eq_true_iff, hhi]; exact sign_lt0.2 h2) ?_
          exact W.r [43] (.int .i64 (-1)) (by kernel_rfl) ⟨congrArg _ (by rw [← fs]; exact (hi_neg F fm0 fn0 h2).symm), rfl⟩ ent0
        refine W.df [39] 43 (decide (V4 < 0)) (by kernel_rfl) (by rw [decide_eq_false_iff_not, hhi]; exact fun h => h2 (sign_lt0.1 h)) ?_
        have hw : IntKind.i64.wrap (2 * ((8 * 2 ^ k : Nat) : Int)) = ((8 * 2 ^ (k + 1) : Nat) : Int) := by
          rw [i64_in _ (by omega), Nat.pow_succ]
          omega
        refine close' [43] _ _ (k + 1) (by kernel_rfl) (by rw [← hw]; kernel_rfl) ?_ (by omega) (fun I w hd hh => holds1 (Has.p (k := TF Y1) (a := (20 * L + 400, F)) inferInstance hh))
        by_cases e : k = 10
        · subst e
          exact .inr ⟨rfl, h1, h2⟩
        · exact .inl (by omega)
      · rcases hk with h | ⟨_, h1, h2⟩
        · exact absurd h hk10
        · rcases hs8 with h | h <;> contradiction
end
end Go.Proofs.YtabpaiboodllbaaGreat

set_option linter.unusedSimpArgs false
set_option linter.unusedVariables false
namespace Go.Proofs.YtabpaiboodllbaaGreat
open Go.RowKit Go.IntWalk

theorem madeOk_pos {M N : Int} {ss : List ByteArray} (h : madeOk M N ss = true) : 0 ≤ M ∧ 0 ≤ N := by
  unfold madeOk at h
  simp only [Bool.and_eq_true, decide_eq_true_eq] at h
  exact ⟨h.2.2.1, h.2.2.2⟩
theorem pAt_bits {M N : Int} {ss : List ByteArray} (h : madeOk M N ss = true) (i : Nat) : md 84 84 (pAt ss i) := by
  have hk : 10 ^ 25 < 2 ^ 84 := by decide +kernel
  unfold madeOk at h
  rw [Bool.and_eq_true, Bool.and_eq_true] at h
  have h2 := h.2.1
  unfold pAt
  cases hi : ss[i]? with
  | none => exact md.zero _ _
  | some s =>
    have := List.all_eq_true.1 h2 s (List.mem_of_getElem? hi)
    unfold pgood at this
    rw [Bool.and_eq_true] at this
    exact (bq_qval (of_decide_eq_true this.1) hk).md
theorem int_pow {z : Int} (h : -9223372036854775808 ≤ z ∧ z < 9223372036854775808) : z.natAbs ≤ 2 ^ 63 := by
  have : (2 : Nat) ^ 63 = 9223372036854775808 := by decide +kernel
  omega
/-- A number of four parts so great. -/
def mdS (A D : Nat) (S : Sn) : Prop := md A D S.p ∧ md A D S.q ∧ md A D S.r ∧ md A D S.s
theorem mdS.sub {A D B E : Nat} {S T : Sn} (h : mdS A D S) (g : mdS B E T) : mdS (max A B + 1) (D + E) (S.sub T) :=
  ⟨h.1.sub g.1, h.2.1.sub g.2.1, h.2.2.1.sub g.2.2.1, h.2.2.2.sub g.2.2.2⟩
theorem snOf_bits {M N : Int} {ss : List ByteArray} (h : madeOk M N ss = true) : mdS 84 84 (snOf M N ss) := ⟨pAt_bits h 0, pAt_bits h 1, pAt_bits h 2, pAt_bits h 3⟩
theorem sepS {S : Sn} {A D : Nat} (h : mdS A D S) (hm : 0 ≤ S.m) (hn : 0 ≤ S.n) (cm : S.m.natAbs ≤ 2 ^ 63) (cn : S.n.natAbs ≤ 2 ^ 63) (hE : 24 * D + 9 * 63 + 4 * A + 40 < 8192) : ¬ S.fold.nil → 0 < S.fold.lo 8192 ∨ S.fold.hi 8192 < 0 :=
  sep_all S hm hn cm cn h.1 h.2.1 h.2.2.1 h.2.2.2 hE
end Go.Proofs.YtabpaiboodllbaaGreat

set_option linter.unusedSimpArgs false
set_option linter.unusedVariables false
namespace Go.Proofs.YtabpaiboodllbaaGreat
open Go.RowKit Go.IntWalk

/-- The search for its sign ends. -/
def Sn.sep (S : Sn) : Prop := ¬ S.fold.nil → 0 < S.fold.lo 8192 ∨ S.fold.hi 8192 < 0
theorem lessr_v (S : Sn) (y : Rat) (k : Nat) : (S.lessr y).v k = S.v k - y := by
  unfold Sn.v v1 Sn.lessr
  grind
theorem lessr_q (S : Sn) (q : Int) : S.lessr (q : Rat) = S.lessq q := rfl
theorem sg_lo (S : Sn) (hm : 0 ≤ S.m) (hn : 0 ≤ S.n) {k : Nat} {y : Rat} (h : y ≤ S.lo k) : 0 ≤ (S.lessr y).sg := by
  have s1 := sig2 (S.lessr y) hm hn
  rcases s1 with ⟨e, _⟩ | ⟨e, _⟩ | ⟨e, e1, he1, K1, p1⟩
  · omega
  · omega
  · exfalso
    obtain ⟨g1, g2⟩ := half_pos he1
    obtain ⟨K2, p2⟩ := w_v S hm hn _ g1
    have a1 : e1 ≤ -(S.lessr y).v (max k (max K1 K2)) := p1 (max k (max K1 K2)) (by omega)
    have a2 := p2 (max k (max K1 K2)) (by omega)
    have a3 := (lo_w S hm hn (show k ≤ max k (max K1 K2) by omega)).1
    rw [lessr_v] at a1
    grind
theorem sg_hi (S : Sn) (hm : 0 ≤ S.m) (hn : 0 ≤ S.n) {k : Nat} {y : Rat} (h : S.hi k < y) : (S.lessr y).sg = -1 := by
  obtain ⟨g1, g2⟩ := half_pos (show 0 < y - S.hi k by grind)
  obtain ⟨K2, p2⟩ := w_v S hm hn _ g1
  refine (sig2 (S.lessr y) hm hn).unique (.inr (.inr ⟨rfl, _, g1, max k K2, fun j hj => ?_⟩))
  have a2 := p2 j (by omega)
  have a3 := (lo_w S hm hn (show k ≤ j by omega)).2
  show _ ≤ -(S.lessr y).v j
  rw [lessr_v]
  grind
theorem fl_ge (S : Sn) (hm : 0 ≤ S.m) (hn : 0 ≤ S.n) (k : Nat) : qfl (S.lo k) ≤ S.fl := by
  have h1 := sg_lo S hm hn (qfl_le (S.lo k))
  rw [lessr_q] at h1
  have h2 := S.fl_spec hm hn
  by_cases h : qfl (S.lo k) ≤ S.fl
  · exact h
  · have := lessq_mono S hm hn (show S.fl + 1 ≤ qfl (S.lo k) by omega)
    omega
theorem fl_le (S : Sn) (hm : 0 ≤ S.m) (hn : 0 ≤ S.n) (k : Nat) : S.fl ≤ qfl (S.hi k) := by
  have h2 := S.fl_spec hm hn
  by_cases h : S.fl ≤ qfl (S.hi k)
  · exact h
  · have h3 := qfl_lt (S.hi k)
    have h4 : ((qfl (S.hi k) + 1 : Int) : Rat) ≤ ((S.fl : Int) : Rat) := Rat.intCast_le_intCast.2 (by omega)
    rw [Rat.intCast_add] at h4
    have c1 : ((1 : Int) : Rat) = 1 := rfl
    rw [c1] at h4
    have h5 := sg_hi S hm hn (k := k) (y := ((S.fl : Int) : Rat)) (by grind)
    rw [lessr_q] at h5
    omega
theorem sg_more {S : Sn} (hm : 0 ≤ S.m) (hn : 0 ≤ S.n) {e : Rat} (he : 0 < e) (h : 0 ≤ S.sg) : (S.up e).sg = 1 := by
  have hv : ∀ k, (S.up e).v k = S.v k + e := fun k => by
    unfold Sn.v v1 Sn.up
    grind
  refine (sig2 (S.up e) hm hn).unique (.inl ⟨rfl, ?_⟩)
  have hc : Pos (fun _ => e) := ⟨e, he, 0, fun _ _ => Rat.le_refl⟩
  rcases sig2 S hm hn with ⟨_, p⟩ | ⟨_, p⟩ | ⟨e1, _⟩
  · exact (p.add hc).congr (fun k => (hv k).symm)
  · exact (hc.add_nul p).congr (fun k => by rw [hv]; grind)
  · omega
/-- The nearest whole number by the floor, as the document has it. -/
theorem nr_fl (S : Sn) (hm : 0 ≤ S.m) (hn : 0 ≤ S.n) : S.nr = if ((S.lessr (S.fl : Rat)).lessr (Rat.divInt 1 2)).sg < 0 ∨ (((S.lessr (S.fl : Rat)).lessr (Rat.divInt 1 2)).sg = 0 ∧ S.fl % 2 = 0) then S.fl else S.fl + 1 := by
  obtain ⟨f1, f2⟩ := S.fl_spec hm hn
  have hh : Rat.divInt 1 2 + Rat.divInt 1 2 = 1 := by decide +kernel
  have hp : 0 < Rat.divInt 1 2 := by decide +kernel
  have c1 : ((1 : Int) : Rat) = 1 := rfl
  have c2 : ((2 : Int) : Rat) = 2 := rfl
  have eT : (S.lessr (S.fl : Rat)).lessr (Rat.divInt 1 2) = S.half.lessq (S.fl + 1) := by
    refine Sn.ext' rfl rfl ?_ rfl rfl rfl
    simp only [Sn.lessr, Sn.half, Sn.up, Sn.lessq, Rat.intCast_add, c1]
    grind
  have e0 : S.half.lessq S.fl = (S.lessq S.fl).up (Rat.divInt 1 2) := by
    refine Sn.ext' rfl rfl ?_ rfl rfl rfl
    simp only [Sn.half, Sn.up, Sn.lessq]
    grind
  have h0 : (S.half.lessq S.fl).sg = 1 := by rw [e0]; exact sg_more (S := S.lessq S.fl) hm hn hp f1
  have h2 : (S.half.lessq (S.fl + 2)).sg < 0 := by
    have := sg_mono (S := S.half.lessq (S.fl + 2)) (T := S.lessq (S.fl + 1)) hm hn rfl rfl ⟨0, fun k _ => by
      rw [Sn.lessq_v, Sn.lessq_v, Rat.intCast_add, Rat.intCast_add, c1, c2]
      have : S.half.v k = S.v k + Rat.divInt 1 2 := by
        unfold Sn.v v1 Sn.half Sn.up
        grind
      rw [this]
      grind⟩
    omega
  rw [eT]
  unfold Sn.nr
  by_cases h1 : (S.half.lessq (S.fl + 1)).sg < 0
  · have hf : S.half.fl = S.fl := Sn.fl_unique S.half hm hn (by omega) h1
    rw [hf, if_neg (fun h => by omega), if_pos (.inl h1)]
  · have hf : S.half.fl = S.fl + 1 := Sn.fl_unique S.half hm hn (by omega) (by rw [show S.fl + 1 + 1 = S.fl + 2 by omega]; exact h2)
    rw [hf]
    by_cases h3 : (S.half.lessq (S.fl + 1)).sg = 0
    · by_cases h4 : S.fl % 2 = 0
      · rw [if_pos ⟨h3, fun e => by rw [show (S.fl + 1) % 2 = 1 by omega] at e; simp at e⟩, if_pos (.inr ⟨h3, h4⟩)]
        omega
      · rw [if_neg (fun h => h.2 (by rw [show (S.fl + 1) % 2 = 0 by omega]; rfl)), if_neg (fun h => by rcases h with h | h; omega; exact h4 h.2)]
    · rw [if_neg (fun h => h3 h.1), if_neg (fun h => by rcases h with h | h; omega; exact h3 h.1)]

section
variable {fin : VS → List Fact → Prop} {Γ : List Fact} {L M K : Nat}
set_option maxHeartbeats 8000000 in
theorem r_floorx (x : Tw) {S : Sn} [Has (TF x) (L, S) Γ] (B : Nat) (hm : 0 ≤ S.m) (hn : 0 ≤ S.n) (cm : S.m.natAbs ≤ 2 ^ 63) (cn : S.n.natAbs ≤ 2 ^ 63) (hlo : -(2 ^ B : Nat) ≤ qfl (S.lo 8)) (hhi : qfl (S.hi 8) ≤ (2 ^ B : Nat)) (hB : B + 1 < 2000) (hsep : ∀ q : Int, q.natAbs ≤ 2 ^ B → (S.lessr (q : Rat)).sep) (hL : L ≤ 30000 := by omega) :
    PCalls tb Tryz.prog 16 [tv x] Γ (YPost (B / 13 + 1) S.fl) := by
  obtain ⟨N, hN⟩ : ∃ N : Nat, N = 2000 := ⟨_, rfl⟩
  have hBN : B + 1 < N := by omega
  have f1 := fl_ge S hm hn 8
  have f2 := fl_le S hm hn 8
  refine PCalls.of_W tbOk Tryz.func16 rfl (by kernel_rfl) ?_
  refine W.cl [] (by kernel_rfl) (r_between x 8 (by omega) hm hn cm cn) ?_
  rintro _ _ ⟨S1, s1, R1, t1, V1, v1, W1, w1, rfl, rfl⟩
  refine W.cl [] (by kernel_rfl) (s_floor S1 s1 R1 t1) ?_
  rintro _ _ ⟨S2, t2, rfl, rfl⟩
  refine W.cl [] (by kernel_rfl) (s_floor V1 v1 W1 w1) ?_
  rintro _ _ ⟨S3, t3, rfl, rfl⟩
  refine W.lp [] [7] (fun a : Nat × (Int × Sl × Int) × (Int × Sl × Int) => [(7, .int .i64 (a.1 : Int))]) (fun a => [(6, [.int .i64 a.2.2.1, .slice a.2.2.2.1.ao a.2.2.2.1.n a.2.2.2.1.c]), (5, [.int .i64 a.2.1.1, .slice a.2.1.2.1.ao a.2.1.2.1.n a.2.1.2.1.c])])
    (fun a => [TF x (L, S), YF a.2.1.1 a.2.1.2.1 (B / 13 + 1, a.2.1.2.2), YF a.2.2.1 a.2.2.2.1 (B / 13 + 1, a.2.2.2.2)]) (fun a => a.1 ≤ N ∧ -(2 ^ B : Nat) ≤ a.2.1.2.2 ∧ a.2.1.2.2 ≤ S.fl ∧ S.fl ≤ a.2.2.2.2 ∧ a.2.2.2.2 ≤ (2 ^ B : Nat) ∧ (a.2.2.2.2 - a.2.1.2.2).toNat < 2 ^ (N - a.1)) (fun a => N - a.1)
    (0, (S2, t2, qfl (S.lo 8)), (S3, t3, qfl (S.hi 8))) (by kernel_rfl) (by kernel_rfl) ⟨by simp only; omega, hlo, f1, f2, hhi, by
      simp only
      have e1 : 2 ^ (B + 1) ≤ 2 ^ (N - 0) := Nat.pow_le_pow_right (by omega) (by omega)
      have e2 : 2 ^ (B + 1) = 2 * 2 ^ B := by rw [Nat.pow_succ, Nat.mul_comm]
      have e3 : 2 ^ (B + 1) < 2 ^ (N - 0) := Nat.pow_lt_pow_right (by omega) (by omega)
      omega⟩ (fun I w hd hh => Holds.cons (Has.p (k := TF x) (a := (L, S)) inferInstance hh) (Holds.cons (entTY (S := S2) (s := t2) (z := qfl (S.lo 8)) (by omega) hh) (holds1 (entTY (S := S3) (s := t3) (z := qfl (S.hi 8)) (by omega) hh)))) ?_
  rintro ⟨i, ⟨Sa, ta, f⟩, ⟨Sb, u, t⟩⟩ R ⟨hi, i1, i2, i3, i4, i5⟩ close
  simp only at hi i1 i2 i3 i4 i5
  by_cases hlt : i < N
  · refine W.dt [] 21 (decide ((i : Int) < 2000)) (by kernel_rfl) (by rw [decide_eq_true_iff]; omega) ?_
    refine W.cl [21] (by kernel_rfl) (p_ycmp Sa ta Sb u) ?_
    rintro _ _ ⟨rfl, rfl⟩
    by_cases hft : f < t
    · have hpow : 2 ^ (N - i) = 2 * 2 ^ (N - (i + 1)) := by rw [show N - i = N - (i + 1) + 1 by omega, Nat.pow_succ, Nat.mul_comm]
      rw [hpow] at i5
      have m1 : f + 1 ≤ (f + t + 1) / 2 := by omega
      have m2 : (f + t + 1) / 2 ≤ t := by omega
      have hmid : ((f + t + 1) / 2).natAbs ≤ 2 ^ B := by omega
      refine W.dt [21] 26 (decide (cmpZ f t < 0)) (by kernel_rfl) (by rw [decide_eq_true_iff]; unfold cmpZ; rw [if_pos hft]; decide) ?_
      refine W.cl [26] (by kernel_rfl) (p_yadd Sa ta Sb u) ?_
      rintro _ _ ⟨S6, t6, rfl, rfl⟩
      refine W.cl [] (by kernel_rfl) (p_yof 1 (by omega) (by omega)) ?_
      rintro _ _ ⟨S7, t7, rfl, rfl⟩
      refine W.cl [] (by kernel_rfl) (p_yadd S6 t6 S7 t7) ?_
      rintro _ _ ⟨S8, t8, rfl, rfl⟩
      refine W.cl [] (by kernel_rfl) (p_yof 2 (by omega) (by omega)) ?_
      rintro _ _ ⟨S9, t9, rfl, rfl⟩
      refine W.cl [] (by kernel_rfl) (p_yfloor S8 t8 S9 t9 (by omega)) ?_
      rintro _ _ ⟨S10, t10, R10, r10, rfl, rfl⟩
      refine W.cl [] (by kernel_rfl) (r_whole S10 t10) ?_
      rintro _ _ ⟨S11, s11, R11, t11, rfl, rfl⟩
      refine W.cl [] (by kernel_rfl) (r_lessx x S11 s11 R11 t11) ?_
      rintro _ _ ⟨Y12, rfl, rfl⟩
      refine W.cl [] (by kernel_rfl) (r_sgn (S := S.lessr (((f + t + 1) / 2 : Int) : Rat)) Y12 hm hn cm cn (hsep _ hmid)) ?_
      rintro _ _ ⟨rfl, rfl⟩
      rw [lessr_q]
      by_cases hs : (S.lessq ((f + t + 1) / 2)).sg < 0
      · have hfl : S.fl ≤ (f + t + 1) / 2 - 1 := by
          by_cases h : S.fl ≤ (f + t + 1) / 2 - 1
          · exact h
          · have := lessq_mono S hm hn (show (f + t + 1) / 2 ≤ S.fl by omega)
            have := (S.fl_spec hm hn).1
            omega
        refine W.dt [] 44 (decide ((S.lessq ((f + t + 1) / 2)).sg < 0)) (by kernel_rfl) (by rw [decide_eq_true_iff]; exact hs) ?_
        refine W.cl [44] (by kernel_rfl) (p_yof 1 (by omega) (by omega)) ?_
        rintro _ _ ⟨S14, t14, rfl, rfl⟩
        refine W.cl [] (by kernel_rfl) (p_ysub S10 t10 S14 t14) ?_
        rintro _ _ ⟨S15, t15, rfl, rfl⟩
        have hw : IntKind.i64.wrap ((i : Int) + 1) = ((i + 1 : Nat) : Int) := by
          rw [i64_in _ (by omega)]
          omega
        refine close [] _ _ (i + 1, (Sa, ta, f), (S15, t15, (f + t + 1) / 2 - 1)) (by kernel_rfl) (by simp only; rw [← hw]; kernel_rfl) ⟨by simp only; omega, i1, i2, hfl, by simp only; omega, by simp only; omega⟩ (by simp only; omega) (fun I w hd hh => ?_)
        exact Holds.cons (Has.p (k := TF x) (a := (L, S)) inferInstance hh) (Holds.cons (Has.p (k := YF Sa ta) (a := (B / 13 + 1, f)) inferInstance hh) (holds1 (entTY (S := S15) (s := t15) (z := (f + t + 1) / 2 - 1) (by omega) hh)))
      · have hfl : (f + t + 1) / 2 ≤ S.fl := by
          by_cases h : (f + t + 1) / 2 ≤ S.fl
          · exact h
          · have := lessq_mono S hm hn (show S.fl + 1 ≤ (f + t + 1) / 2 by omega)
            have := (S.fl_spec hm hn).2
            omega
        refine W.df [] 44 (decide ((S.lessq ((f + t + 1) / 2)).sg < 0)) (by kernel_rfl) (by rw [decide_eq_false_iff_not]; exact hs) ?_
        have hw : IntKind.i64.wrap ((i : Int) + 1) = ((i + 1 : Nat) : Int) := by
          rw [i64_in _ (by omega)]
          omega
        refine close [44] _ _ (i + 1, (S10, t10, (f + t + 1) / 2), (Sb, u, t)) (by kernel_rfl) (by simp only; rw [← hw]; kernel_rfl) ⟨by simp only; omega, by simp only; omega, hfl, i3, i4, by simp only; omega⟩ (by simp only; omega) (fun I w hd hh => ?_)
        exact Holds.cons (Has.p (k := TF x) (a := (L, S)) inferInstance hh) (Holds.cons (entTY (S := S10) (s := t10) (z := (f + t + 1) / 2) hmid hh) (holds1 (Has.p (k := YF Sb u) (a := (B / 13 + 1, t)) inferInstance hh)))
    · refine W.df [21] 26 (decide (cmpZ f t < 0)) (by kernel_rfl) (by rw [decide_eq_false_iff_not]; unfold cmpZ; rw [if_neg hft]; split <;> omega) ?_
      exact W.r [26] (yv Sa ta) (by kernel_rfl) ⟨_, _, rfl, rfl⟩ (entY (x := f) (by omega) (by omega))
  · have hiN : i = N := by omega
    rw [show N - i = 0 by omega, Nat.pow_zero] at i5
    have hi2 : i = 2000 := by omega
    clear hN hiN
    subst hi2
    refine W.df [] 21 (decide (((2000 : Nat) : Int) < 2000)) (by kernel_rfl) (by decide) ?_
    exact W.r [26, 21] (yv Sa ta) (by kernel_rfl) ⟨_, _, rfl, rfl⟩ (entY (x := f) (by omega) (by omega))
set_option maxHeartbeats 4000000 in
theorem r_nearx (x : Tw) {S : Sn} [Has (TF x) (L, S) Γ] (B : Nat) (hm : 0 ≤ S.m) (hn : 0 ≤ S.n) (cm : S.m.natAbs ≤ 2 ^ 63) (cn : S.n.natAbs ≤ 2 ^ 63) (hlo : -(2 ^ B : Nat) ≤ qfl (S.lo 8)) (hhi : qfl (S.hi 8) ≤ (2 ^ B : Nat)) (hB : B + 1 < 2000) (hsep : ∀ q : Int, q.natAbs ≤ 2 ^ B → (S.lessr (q : Rat)).sep)
    (hsep2 : ((S.lessr (S.fl : Rat)).lessr (Rat.divInt 1 2)).sep) (hL : L ≤ 30000 := by omega) :
    PCalls tb Tryz.prog 18 [tv x] Γ (YPost (B / 13 + 8) S.nr) := by
  have hnr := nr_fl S hm hn
  refine PCalls.of_W tbOk Tryz.func18 rfl (by kernel_rfl) ?_
  refine W.cl [] (by kernel_rfl) (r_floorx x B hm hn cm cn hlo hhi hB hsep) ?_
  rintro _ _ ⟨S1, t1, rfl, rfl⟩   -- (S.fl)
  refine W.cl [] (by kernel_rfl) (r_whole S1 t1) ?_
  rintro _ _ ⟨S2, s2, R2, t2, rfl, rfl⟩
  refine W.cl [] (by kernel_rfl) (r_lessx x S2 s2 R2 t2) ?_
  rintro _ _ ⟨Y3, rfl, rfl⟩
  refine W.cl [] (by kernel_rfl) (s_frac 1 2 (by omega) (by omega) (by omega) (by omega)) ?_
  rintro _ _ ⟨S4, s4, R4, t4, rfl, rfl⟩
  refine W.cl [] (by kernel_rfl) (r_lessx Y3 S4 s4 R4 t4) ?_
  rintro _ _ ⟨Y5, rfl, rfl⟩
  refine W.cl [] (by kernel_rfl) (r_sgn (S := (S.lessr (S.fl : Rat)).lessr (Rat.divInt 1 2)) Y5 hm hn cm cn hsep2) ?_
  rintro _ _ ⟨rfl, rfl⟩
  refine W.cl [] (by kernel_rfl) (p_yof 2 (by omega) (by omega)) ?_
  rintro _ _ ⟨S7, t7, rfl, rfl⟩
  refine W.cl [] (by kernel_rfl) (p_yfloor S1 t1 S7 t7 (by omega)) ?_
  rintro _ _ ⟨S8, t8, R8, r8, rfl, rfl⟩
  refine W.code 999 ?_
  refine W.yr R8 r8 (by kernel_rfl) ?_
  intro hR _
  by_cases h1 : ((S.lessr (S.fl : Rat)).lessr (Rat.divInt 1 2)).sg < 0
  · refine W.dt [] 24 (decide (((S.lessr (S.fl : Rat)).lessr (Rat.divInt 1 2)).sg < 0)) (by kernel_rfl) (by rw [decide_eq_true_iff]; exact h1) ?_
    exact W.r [32, 27, 24] (yv S1 t1) (by kernel_rfl) ⟨_, _, rfl, rfl⟩ (entY (by omega) (by rw [hnr, if_pos (.inl h1)]))
  refine W.df [] 24 (decide (((S.lessr (S.fl : Rat)).lessr (Rat.divInt 1 2)).sg < 0)) (by kernel_rfl) (by rw [decide_eq_false_iff_not]; exact h1) ?_
  by_cases h2 : ((S.lessr (S.fl : Rat)).lessr (Rat.divInt 1 2)).sg = 0
  · refine W.dt [24] 27 (((S.lessr (S.fl : Rat)).lessr (Rat.divInt 1 2)).sg == 0) (by kernel_rfl) (by rw [h2]; rfl) ?_
    by_cases h3 : S.fl % 2 = 0
    · refine W.dt [24, 27] 32 (R8 == 0) (by kernel_rfl) (by rw [hR, h3]; rfl) ?_
      exact W.r [32] (yv S1 t1) (by kernel_rfl) ⟨_, _, rfl, rfl⟩ (entY (by omega) (by rw [hnr, if_pos (.inr ⟨h2, h3⟩)]))
    · refine W.df [24, 27] 32 (R8 == 0) (by kernel_rfl) (by rw [hR, show S.fl % 2 = 1 by omega]; rfl) ?_
      refine W.cl [32, 24, 27] (by kernel_rfl) (p_yof 1 (by omega) (by omega)) ?_
      rintro _ _ ⟨S9, t9, rfl, rfl⟩
      refine W.cl [] (by kernel_rfl) (p_yadd S1 t1 S9 t9) ?_
      rintro _ _ ⟨S10, t10, rfl, rfl⟩
      exact W.r [] (yv S10 t10) (by kernel_rfl) ⟨_, _, rfl, rfl⟩ (entY (by omega) (by rw [hnr, if_neg (fun h => by rcases h with h | h; exact h1 h; exact h3 h.2)]))
  · refine W.df [24] 27 (((S.lessr (S.fl : Rat)).lessr (Rat.divInt 1 2)).sg == 0) (by kernel_rfl) (by rw [beq_eq_false_iff_ne]; exact h2) ?_
    refine W.cl [32, 24, 27] (by kernel_rfl) (p_yof 1 (by omega) (by omega)) ?_
    rintro _ _ ⟨S9, t9, rfl, rfl⟩
    refine W.cl [] (by kernel_rfl) (p_yadd S1 t1 S9 t9) ?_
    rintro _ _ ⟨S10, t10, rfl, rfl⟩
    exact W.r [] (yv S10 t10) (by kernel_rfl) ⟨_, _, rfl, rfl⟩ (entY (by omega) (by rw [hnr, if_neg (fun h => by rcases h with h | h; exact h1 h; exact h2 h.1)]))
end
end Go.Proofs.YtabpaiboodllbaaGreat

set_option linter.unusedSimpArgs false
set_option linter.unusedVariables false
namespace Go.Proofs.YtabpaiboodllbaaGreat
open Go.RowKit Go.IntWalk

theorem mul_b {A F : Nat} {x y : Rat} (h1 : -(tw A) ≤ x) (h2 : x ≤ tw A) (h3 : 0 ≤ y) (h4 : y ≤ tw F) : -(tw (A + F)) ≤ x * y ∧ x * y ≤ tw (A + F) := by
  have p1 := tw_pos A
  rw [tw_add]
  have q1 := Rat.mul_nonneg (show 0 ≤ tw A - x by grind) h3
  have q2 := Rat.mul_nonneg (show 0 ≤ tw A + x by grind) h3
  have q3 := Rat.mul_nonneg (Rat.le_of_lt p1) (show 0 ≤ tw F - y by grind)
  constructor <;> grind
theorem bounds_b {A c : Nat} {x : Rat} {r : Int} (hr : 0 ≤ r) (hc : r.natAbs ≤ 2 ^ c) (h1 : -(tw A) ≤ x) (h2 : x ≤ tw A) (k : Nat) : -(tw (A + (c + 2))) ≤ blo x r k ∧ bhi x r k ≤ tw (A + (c + 2)) := by
  obtain ⟨a1, a2⟩ := apx_le hr hc k
  obtain ⟨g1, g2⟩ := rhi_le r k
  have t1 := tk_le1 k
  have b1 := mul_b h1 h2 (show 0 ≤ rhi r k by grind) (show rhi r k ≤ tw (c + 2) by grind)
  have b2 := mul_b h1 h2 (show 0 ≤ rlo r k by rw [rlo_apx]; exact a1) (show rlo r k ≤ tw (c + 2) by rw [rlo_apx]; grind)
  unfold blo bhi
  split <;> exact ⟨by first | exact b1.1 | exact b2.1, by first | exact b2.2 | exact b1.2⟩
theorem qfl_b {y : Rat} {B : Nat} (h1 : -(tw B) ≤ y) : -(2 ^ B : Nat) ≤ qfl y := by
  by_cases h : -(2 ^ B : Nat) ≤ qfl y
  · exact h
  · have h2 := qfl_lt y
    have h3 : ((qfl y + 1 : Int) : Rat) ≤ ((-(2 ^ B : Nat) : Int) : Rat) := Rat.intCast_le_intCast.2 (by omega)
    rw [Rat.intCast_add, Rat.intCast_neg] at h3
    have c1 : ((1 : Int) : Rat) = 1 := rfl
    rw [c1] at h3
    unfold tw at h1
    grind
theorem qfl_t {y : Rat} {B : Nat} (h1 : y ≤ tw B) : qfl y ≤ (2 ^ B : Nat) := by
  by_cases h : qfl y ≤ (2 ^ B : Nat)
  · exact h
  · have h2 := qfl_le y
    have h3 : (((2 ^ B : Nat) + 1 : Int) : Rat) ≤ ((qfl y : Int) : Rat) := Rat.intCast_le_intCast.2 (by omega)
    rw [Rat.intCast_add] at h3
    have c1 : ((1 : Int) : Rat) = 1 := rfl
    rw [c1] at h3
    unfold tw at h1
    grind
/-- How far the search for the floor goes. -/
theorem flo_b {S : Sn} {A c : Nat} (hm : 0 ≤ S.m) (hn : 0 ≤ S.n) (cm : S.m.natAbs ≤ 2 ^ c) (cn : S.n.natAbs ≤ 2 ^ c) (h : (-(tw A) ≤ S.p ∧ S.p ≤ tw A) ∧ (-(tw A) ≤ S.q ∧ S.q ≤ tw A) ∧ (-(tw A) ≤ S.r ∧ S.r ≤ tw A) ∧ (-(tw A) ≤ S.s ∧ S.s ≤ tw A)) (k : Nat) {B : Nat} (hB : A + 2 * c + 4 = B) :
    -(2 ^ B : Nat) ≤ qfl (S.lo k) ∧ qfl (S.hi k) ≤ (2 ^ B : Nat) := by
  subst hB
  have b0 := bounds_b (c := 0) (r := 1) (by decide) (by decide) h.1.1 h.1.2 k
  have b1 := bounds_b hm cm h.2.1.1 h.2.1.2 k
  have b2 := bounds_b hn cn h.2.2.1.1 h.2.2.1.2 k
  have b3 := bounds_b (Int.mul_nonneg hm hn) (mul_bits cm cn) h.2.2.2.1 h.2.2.2.2 k
  have m0 := tw_mono (show A + (0 + 2) ≤ A + 2 * c + 2 by omega)
  have m1 := tw_mono (show A + (c + 2) ≤ A + 2 * c + 2 by omega)
  have m3 := tw_mono (show A + (2 * c + 2) ≤ A + 2 * c + 2 by omega)
  have e : tw (A + 2 * c + 4) = tw (A + 2 * c + 2) * 4 := by rw [show A + 2 * c + 4 = A + 2 * c + 2 + 2 by omega, tw_add]; rfl
  have c0 : ((0 : Int) : Rat) = 0 := rfl
  refine ⟨qfl_b ?_, qfl_t ?_⟩
  · rw [e]
    unfold Sn.lo
    rw [c0]
    grind
  · rw [e]
    unfold Sn.hi
    rw [c0]
    grind
theorem half_md : md 0 1 (Rat.divInt 1 2) := by
  have h1 : tw 0 = 1 := rfl
  refine ⟨?_, ?_, ?_⟩
  · rw [h1]; decide +kernel
  · rw [h1]; decide +kernel
  · decide +kernel
theorem fl_b {S : Sn} (hm : 0 ≤ S.m) (hn : 0 ≤ S.n) {B : Nat} (h1 : -(2 ^ B : Nat) ≤ qfl (S.lo 8)) (h2 : qfl (S.hi 8) ≤ (2 ^ B : Nat)) : S.fl.natAbs ≤ 2 ^ B := by
  have := fl_ge S hm hn 8
  have := fl_le S hm hn 8
  omega
section
variable {fin : VS → List Fact → Prop} {Γ : List Fact} {L M K : Nat}
theorem r_floorE (x : Tw) {S : Sn} {A D : Nat} [Has (TF x) (L, S) Γ] (h : mdS A D S) (hm : 0 ≤ S.m) (hn : 0 ≤ S.n) (cm : S.m.natAbs ≤ 2 ^ 63) (cn : S.n.natAbs ≤ 2 ^ 63) (hE : 24 * D + 4 * A + 1300 < 8192) (hA : A ≤ 1800) (hL : L ≤ 30000 := by omega) :
    PCalls tb Tryz.prog 16 [tv x] Γ (YPost ((A + 130) / 13 + 1) S.fl) := by
  have o0 : A + 2 * 63 + 4 = A + 130 := by omega
  have o1 : max A (A + 130) + 1 ≤ A + 131 := by omega
  have o2 : D + 0 ≤ D := by omega
  have o3 : A ≤ A + 131 := by omega
  have o4 : 24 * D + 9 * 63 + 4 * (A + 131) + 40 < 8192 := Nat.lt_of_le_of_lt (by omega) hE
  have o5 : A + 130 + 1 < 2000 := by omega
  obtain ⟨b1, b2⟩ := flo_b hm hn cm cn ⟨h.1.b, h.2.1.b, h.2.2.1.b, h.2.2.2.b⟩ 8 o0
  refine r_floorx x (A + 130) hm hn cm cn b1 b2 o5 (fun q hq => ?_) hL
  have k1 : md (A + 131) D (S.lessr (q : Rat)).p := (h.1.sub (md.int hq)).mono o1 o2
  have k2 : mdS (A + 131) D (S.lessr (q : Rat)) := ⟨k1, h.2.1.mono o3 o2, h.2.2.1.mono o3 o2, h.2.2.2.mono o3 o2⟩
  have k3 := sepS (S := S.lessr (q : Rat)) k2 hm hn cm cn o4
  exact k3
theorem r_nearE (x : Tw) {S : Sn} {A D : Nat} [Has (TF x) (L, S) Γ] (h : mdS A D S) (hm : 0 ≤ S.m) (hn : 0 ≤ S.n) (cm : S.m.natAbs ≤ 2 ^ 63) (cn : S.n.natAbs ≤ 2 ^ 63) (hE : 24 * D + 4 * A + 1300 < 8192) (hA : A ≤ 1800) (hL : L ≤ 30000 := by omega) :
    PCalls tb Tryz.prog 18 [tv x] Γ (YPost ((A + 130) / 13 + 8) S.nr) := by
  have o0 : A + 2 * 63 + 4 = A + 130 := by omega
  have o1 : max A (A + 130) + 1 ≤ A + 131 := by omega
  have o2 : D + 0 ≤ D := by omega
  have o3 : A ≤ A + 131 := by omega
  have o4 : 24 * D + 9 * 63 + 4 * (A + 131) + 40 < 8192 := Nat.lt_of_le_of_lt (by omega) hE
  have o5 : A + 130 + 1 < 2000 := by omega
  have o6 : max (A + 131) 0 + 1 ≤ A + 132 := by omega
  have o7 : A + 131 ≤ A + 132 := by omega
  have o8 : D ≤ D + 1 := by omega
  have o9 : 24 * (D + 1) + 9 * 63 + 4 * (A + 132) + 40 < 8192 := Nat.lt_of_le_of_lt (by omega) hE
  obtain ⟨b1, b2⟩ := flo_b hm hn cm cn ⟨h.1.b, h.2.1.b, h.2.2.1.b, h.2.2.2.b⟩ 8 o0
  have hq : ∀ q : Int, q.natAbs ≤ 2 ^ (A + 130) → mdS (A + 131) D (S.lessr (q : Rat)) := fun q hq => ⟨(h.1.sub (md.int hq)).mono o1 o2, h.2.1.mono o3 o2, h.2.2.1.mono o3 o2, h.2.2.2.mono o3 o2⟩
  refine r_nearx x (A + 130) hm hn cm cn b1 b2 o5 (fun q hq' => sepS (S := S.lessr (q : Rat)) (hq q hq') hm hn cm cn o4) ?_ hL
  have g := hq S.fl (fl_b hm hn b1 b2)
  exact sepS (S := (S.lessr (S.fl : Rat)).lessr (Rat.divInt 1 2)) (A := A + 132) (D := D + 1) ⟨(g.1.sub half_md).mono o6 (Nat.le_refl _), g.2.1.mono o7 o8, g.2.2.1.mono o7 o8, g.2.2.2.mono o7 o8⟩ hm hn cm cn o9
theorem sep_r2' {x y : Rat} {A D : Nat} (hx : md A D x) (hy : md A D y) (hE : 4 * D + 2 * A + 10 < 8192) : (r2F x y).sep := by
  unfold Sn.sep
  rw [fold_r2]
  exact sep_r2 hx hy hE
theorem r_nearR (x : Tw) {p q : Rat} {A D : Nat} [Has (TF x) (L, r2F p q) Γ] (hp : md A D p) (hq : md A D q) (hE : 4 * D + 2 * A + 60 < 8192) (hA : A ≤ 1800) (hL : L ≤ 30000 := by omega) :
    PCalls tb Tryz.prog 18 [tv x] Γ (YPost ((A + 6) / 13 + 8) (r2F p q).nr) := by
  have hm : 0 ≤ (r2F p q).m := by show (0 : Int) ≤ 2; decide
  have hn : 0 ≤ (r2F p q).n := by show (0 : Int) ≤ 0; decide
  obtain ⟨b1, b2⟩ := flo_b (S := r2F p q) (A := A) (c := 1) hm hn (by show (2 : Int).natAbs ≤ 2 ^ 1; decide) (by show (0 : Int).natAbs ≤ 2 ^ 1; decide) ⟨hp.b, hq.b, (md.zero A 0).b, (md.zero A 0).b⟩ 8 (B := A + 6) (by omega)
  have hz : ∀ z : Int, z.natAbs ≤ 2 ^ (A + 6) → md (A + 7) D (p - (z : Rat)) := fun z hz => (hp.sub (md.int hz)).mono (by omega) (by omega)
  refine r_nearx x (A + 6) hm hn (by show (2 : Int).natAbs ≤ 2 ^ 63; decide) (by show (0 : Int).natAbs ≤ 2 ^ 63; decide) b1 b2 (by omega) (fun z hz' => sep_r2' (x := p - (z : Rat)) (y := q) (hz z hz') (hq.mono (by omega) (Nat.le_refl _)) (by omega)) ?_ hL
  exact sep_r2' (x := p - ((r2F p q).fl : Rat) - Rat.divInt 1 2) (y := q) (A := A + 8) (D := D + 1) (((hz _ (fl_b hm hn b1 b2)).sub half_md).mono (by omega) (by omega)) (hq.mono (by omega) (by omega)) (by omega)
end
end Go.Proofs.YtabpaiboodllbaaGreat
