/- The reference's square, fold, bounds, between, less. The reference's sign: it is the sign, where its search ends. Numbers out of texts: the reference's search for their signs ends. The reference's floor and nearest whole number: they are the program's. The reference's floor and nearest whole number, by bits. -/
import Derived.Test.YtaafmafdnnjmdaaGreatRk
import Derived.Test.YtaafmafdnnjmdaaGreatRefT
import Derived.Test.YtaafmafdnnjmdaaGreatRc
import Derived.Test.YtaafmafdnnjmdaaGreatSu
import Derived.Test.YtaafmafdnnjmdaaGreatSy
set_option linter.unusedSimpArgs false
set_option linter.unusedVariables false
namespace Go.Proofs.YtaafmafdnnjmdaaGreat
open Go.RowKit Go.IntWalk

theorem made1 (x : Nat) : ((x : Int)).natAbs = x ∧ (x ≠ 0 → (1 : Int) = (x : Int).sign) := by
  refine ⟨by omega, fun h => ?_⟩
  exact (Int.sign_eq_one_of_pos (by omega)).symm
theorem fold_tt {S : Sn} (h1 : isSq S.m = true) (h2 : isSq S.n = true) : S.fold = ⟨S.m, S.n, 0 + (0 + S.p + rtq S.m * S.q) + rtq S.n * (0 + S.r + rtq S.m * S.s), 0 + 0 + rtq S.n * 0, 0, 0⟩ := by
  unfold Sn.fold Sn.f1
  rw [if_pos h1]
  unfold Sn.f2
  rw [if_pos h2]
  unfold Sn.f3
  rw [if_neg (fun h => by rw [h1] at h; simp at h)]
theorem fold_tf {S : Sn} (h1 : isSq S.m = true) (h2 : isSq S.n = false) : S.fold = ⟨S.m, S.n, 0 + S.p + rtq S.m * S.q, 0, 0 + S.r + rtq S.m * S.s, 0⟩ := by
  unfold Sn.fold Sn.f1
  rw [if_pos h1]
  unfold Sn.f2
  rw [if_neg (by rw [h2]; simp)]
  unfold Sn.f3
  rw [if_neg (fun h => by rw [h1] at h; simp at h)]
theorem fold_ft {S : Sn} (h1 : isSq S.m = false) (h2 : isSq S.n = true) : S.fold = ⟨S.m, S.n, 0 + S.p + rtq S.n * S.r, 0 + S.q + rtq S.n * S.s, 0, 0⟩ := by
  unfold Sn.fold Sn.f1
  rw [if_neg (by rw [h1]; simp)]
  unfold Sn.f2
  rw [if_pos h2]
  unfold Sn.f3
  rw [if_neg (fun h => by have := h.2.2; simp only at this; rw [h2] at this; simp at this)]
theorem fold_fft {S : Sn} (h1 : isSq S.m = false) (h2 : isSq S.n = false) (h3 : isSq (S.m * S.n) = true) : S.fold = ⟨S.m, S.n, 0 + S.p + rtq (S.m * S.n) * S.s, 0 + S.q + rtq (S.m * S.n) / (S.m : Rat) * S.r, 0, 0⟩ := by
  unfold Sn.fold Sn.f1
  rw [if_neg (by rw [h1]; simp)]
  unfold Sn.f2
  rw [if_neg (by rw [h2]; simp)]
  unfold Sn.f3
  rw [if_pos ⟨h3, h1, h2⟩]
theorem fold_fff {S : Sn} (h1 : isSq S.m = false) (h2 : isSq S.n = false) (h3 : isSq (S.m * S.n) = false) : S.fold = S := by
  unfold Sn.fold Sn.f1
  rw [if_neg (by rw [h1]; simp)]
  unfold Sn.f2
  rw [if_neg (by rw [h2]; simp)]
  unfold Sn.f3
  rw [if_neg (fun h => by rw [h3] at h; simp at h)]
theorem sq_ne {m : Int} (h : isSq m = false) : (m : Rat) ≠ 0 := fun e => by
  have : m = 0 := Rat.intCast_inj.1 e
  rw [this, isSq_zero] at h
  simp at h
theorem psum2 (p q : Pw) (x y : Rat) : psum [(⟨p, x⟩ : PE), ⟨q, y⟩] = 0 + x + y := rfl

section
variable {fin : VS → List Fact → Prop} {Γ : List Fact} {L M K : Nat}
theorem W.pn {P : Program} {c : Cfg} (S : Int) (s : Sl) (R : Int) (t : Sl) {q : Rat} [h : Has (PF S s R t) (L, q) Γ] (hm : midOps c.k = false) (hk : S = q.num.sign → W tb P fin c Γ) : W tb P fin c Γ :=
  W.know _ hm (fun _ _ _ hh => by
    obtain ⟨n, d, h1, h2, hd, hq⟩ := h.p hh
    rw [h1.2]
    exact sign_of hd hq) hk
theorem r_sum2 (b : Nat) (p q : Pw) {x y : Rat} {L1 L2 : Nat} [hr : Has (RowF b) ([(⟨p, x⟩ : PE), ⟨q, y⟩].flatMap PR.cells) Γ] [hp : Has (PG p) (L1, x) Γ] [hq : Has (PG q) (L2, y) Γ] (hL : L1 ≤ 10000000 := by omega) (hM : L2 ≤ 10000000 := by omega) :
    PCalls tb Tryz.prog 79 [.slice (some ⟨b, 0, none⟩) 2 2] Γ (PPost (6 + 2 * (max L1 L2 + 1)) (0 + x + y)) := by
  have h := r_sumB (Γ := Γ) b [(⟨p, x⟩ : PE), ⟨q, y⟩] 2 (K := max L1 L2) rfl (by omega) (fun I w hd hh e he => by
    simp only [List.mem_cons, List.not_mem_nil, or_false] at he
    rcases he with rfl | rfl
    · exact PF.up2 (hp.p hh) (by omega)
    · exact PF.up2 (hq.p hh) (by omega)) (by omega)
  rw [psum2] at h
  exact h
theorem r_square (S : Int) (s : Sl) {n : Int} [Has (YF S s) (L, n) Γ] (hn : 0 ≤ n) (hL : L ≤ 1000000 := by omega) :
    PCalls tb Tryz.prog 107 [yv S s] Γ (fun v Δ => ∃ (S : Int) (s : Sl) (R : Int) (t : Sl), v = .tuple #[pv S s R t, .bool (isSq n)] ∧ Δ = [PF S s R t (max L 6, rtq n)]) := by
  refine PCalls.of_W tbOk Tryz.func107 rfl (by kernel_rfl) ?_
  refine W.yr S s rfl ?_
  intro hS hz
  refine W.cl [] (by kernel_rfl) (r_rootn s) ?_
  rintro _ _ ⟨u1, t1, rfl, rfl⟩
  refine W.code 999 ?_
  refine W.rz t1 (by kernel_rfl) (fun h0 => ?_)
  refine W.cl [] (by kernel_rfl) (p_ymade 1 ((isq n.natAbs : Nat) : Int) u1 (made1 _)) ?_
  rintro _ _ ⟨S2, t2, rfl, rfl⟩
  refine W.cl [] (by kernel_rfl) (r_whole S2 t2) ?_
  rintro _ _ ⟨S3, s3, R3, t3, rfl, rfl⟩
  have e : (((t1.n : Nat) : Int) == 0) = isSq n := by
    unfold isSq
    rw [Bool.eq_iff_iff, beq_iff_eq, beq_iff_eq]
    omega
  exact W.r [] (.tuple #[pv S3 s3 R3 t3, .bool (((t1.n : Nat) : Int) == 0)]) (by kernel_rfl) ⟨S3, s3, R3, t3, by rw [e], rfl⟩ (entP (by omega) rfl)

set_option maxHeartbeats 16000000 in
theorem r_fold (x : Tw) {S : Sn} [Has (TF x) (L, S) Γ] (hm : 0 ≤ S.m) (hn : 0 ≤ S.n) (hL : L ≤ 50000 := by omega) :
    PCalls tb Tryz.prog 81 [tv x] Γ (TPost (20 * L + 400) S.fold) := by
  refine PCalls.of_W tbOk Tryz.func81 rfl (by kernel_rfl) ?_
  refine W.tf x rfl ?_
  cases h1 : isSq S.m with
  | true =>
    cases h2 : isSq S.n with
    | true =>
      have hF := fold_tt h1 h2
      cases h3 : isSq (S.m * S.n) with
      | true =>
        refine W.cl [] (by kernel_rfl) (s_of 0 (by omega) (by omega)) ?_
        rintro _ _ ⟨S1, s1, R1, t1, rfl, rfl⟩   -- (0 : Rat)
        refine W.cl [] (by kernel_rfl) (r_square x.d x.u hm) ?_
        rintro _ _ ⟨S2, s2, R2, t2, rfl, rfl⟩   -- (rtq S.m)
        refine W.dt [] 24 ((isSq S.m)) (by kernel_rfl) (h1) ?_
        refine W.cl [24] (by kernel_rfl) (s_mul S2 s2 R2 t2 x.q.n x.q.a x.q.m x.q.b) ?_
        rintro _ _ ⟨S3, s3, R3, t3, rfl, rfl⟩   -- ((rtq S.m) * S.q)
        refine W.bs [] 2 (([⟨⟨x.p.n, x.p.a, x.p.m, x.p.b⟩, S.p⟩, ⟨⟨S3, s3, R3, t3⟩, ((rtq S.m) * S.q)⟩] : List PE).flatMap PR.cells) tbOk (by kernel_rfl) (fun b4 => ?_)
        refine W.cl [] (by kernel_rfl) (r_sum2 b4 ⟨x.p.n, x.p.a, x.p.m, x.p.b⟩ ⟨S3, s3, R3, t3⟩) ?_
        rintro _ _ ⟨S5, s5, R5, t5, rfl, rfl⟩
        refine W.cl [] (by kernel_rfl) (s_mul S2 s2 R2 t2 x.s.n x.s.a x.s.m x.s.b) ?_
        rintro _ _ ⟨S6, s6, R6, t6, rfl, rfl⟩   -- ((rtq S.m) * S.s)
        refine W.bs [] 2 (([⟨⟨x.r.n, x.r.a, x.r.m, x.r.b⟩, S.r⟩, ⟨⟨S6, s6, R6, t6⟩, ((rtq S.m) * S.s)⟩] : List PE).flatMap PR.cells) tbOk (by kernel_rfl) (fun b7 => ?_)
        refine W.cl [] (by kernel_rfl) (r_sum2 b7 ⟨x.r.n, x.r.a, x.r.m, x.r.b⟩ ⟨S6, s6, R6, t6⟩) ?_
        rintro _ _ ⟨S8, s8, R8, t8, rfl, rfl⟩
        refine W.cl [] (by kernel_rfl) (r_square x.e x.v hn) ?_
        rintro _ _ ⟨S9, s9, R9, t9, rfl, rfl⟩   -- (rtq S.n)
        refine W.dt [] 53 ((isSq S.n)) (by kernel_rfl) (h2) ?_
        refine W.cl [53] (by kernel_rfl) (s_mul S9 s9 R9 t9 S8 s8 R8 t8) ?_
        rintro _ _ ⟨S10, s10, R10, t10, rfl, rfl⟩   -- ((rtq S.n) * (0 + S.r + ((rtq S.m) * S.s)))
        refine W.bs [] 2 (([⟨⟨S5, s5, R5, t5⟩, (0 + S.p + ((rtq S.m) * S.q))⟩, ⟨⟨S10, s10, R10, t10⟩, ((rtq S.n) * (0 + S.r + ((rtq S.m) * S.s)))⟩] : List PE).flatMap PR.cells) tbOk (by kernel_rfl) (fun b11 => ?_)
        refine W.cl [] (by kernel_rfl) (r_sum2 b11 ⟨S5, s5, R5, t5⟩ ⟨S10, s10, R10, t10⟩) ?_
        rintro _ _ ⟨S12, s12, R12, t12, rfl, rfl⟩
        refine W.cl [] (by kernel_rfl) (s_mul S9 s9 R9 t9 S1 s1 R1 t1) ?_
        rintro _ _ ⟨S13, s13, R13, t13, rfl, rfl⟩   -- ((rtq S.n) * (0 : Rat))
        refine W.bs [] 2 (([⟨⟨S1, s1, R1, t1⟩, (0 : Rat)⟩, ⟨⟨S13, s13, R13, t13⟩, ((rtq S.n) * (0 : Rat))⟩] : List PE).flatMap PR.cells) tbOk (by kernel_rfl) (fun b14 => ?_)
        refine W.cl [] (by kernel_rfl) (r_sum2 b14 ⟨S1, s1, R1, t1⟩ ⟨S13, s13, R13, t13⟩) ?_
        rintro _ _ ⟨S15, s15, R15, t15, rfl, rfl⟩
        refine W.cl [] (by kernel_rfl) (r_square x.d x.u hm) ?_
        rintro _ _ ⟨S16, s16, R16, t16, rfl, rfl⟩   -- (rtq S.m)
        refine W.cl [] (by kernel_rfl) (r_square x.e x.v hn) ?_
        rintro _ _ ⟨S17, s17, R17, t17, rfl, rfl⟩   -- (rtq S.n)
        refine W.cl [] (by kernel_rfl) (p_ymul x.d x.u x.e x.v) ?_
        rintro _ _ ⟨S18, t18, rfl, rfl⟩   -- (S.m * S.n)
        refine W.cl [] (by kernel_rfl) (r_square S18 t18 (Int.mul_nonneg hm hn)) ?_
        rintro _ _ ⟨S19, s19, R19, t19, rfl, rfl⟩   -- (rtq (S.m * S.n))
        refine W.dt [] 98 ((isSq (S.m * S.n))) (by kernel_rfl) (h3) ?_
        refine W.df [98] 102 (!(isSq S.m)) (by kernel_rfl) (by rw [h1]; rfl) ?_
        exact W.r [105, 102] (tv ⟨x.d, x.u, x.e, x.v, ⟨S12, s12, R12, t12⟩, ⟨S15, s15, R15, t15⟩, ⟨S1, s1, R1, t1⟩, ⟨S1, s1, R1, t1⟩⟩) (by kernel_rfl) ⟨_, rfl, rfl⟩ (entT (x := ⟨x.d, x.u, x.e, x.v, ⟨S12, s12, R12, t12⟩, ⟨S15, s15, R15, t15⟩, ⟨S1, s1, R1, t1⟩, ⟨S1, s1, R1, t1⟩⟩) (L' := 20 * L + 400) (S := S.fold) (by rw [hF]) (by rw [hF]) (by rw [hF]) (by rw [hF] <;> rfl) (by rw [hF] <;> rfl) (by rw [hF] <;> rfl) (by omega))
      | false =>
        refine W.cl [] (by kernel_rfl) (s_of 0 (by omega) (by omega)) ?_
        rintro _ _ ⟨S1, s1, R1, t1, rfl, rfl⟩   -- (0 : Rat)
        refine W.cl [] (by kernel_rfl) (r_square x.d x.u hm) ?_
        rintro _ _ ⟨S2, s2, R2, t2, rfl, rfl⟩   -- (rtq S.m)
        refine W.dt [] 24 ((isSq S.m)) (by kernel_rfl) (h1) ?_
        refine W.cl [24] (by kernel_rfl) (s_mul S2 s2 R2 t2 x.q.n x.q.a x.q.m x.q.b) ?_
        rintro _ _ ⟨S3, s3, R3, t3, rfl, rfl⟩   -- ((rtq S.m) * S.q)
        refine W.bs [] 2 (([⟨⟨x.p.n, x.p.a, x.p.m, x.p.b⟩, S.p⟩, ⟨⟨S3, s3, R3, t3⟩, ((rtq S.m) * S.q)⟩] : List PE).flatMap PR.cells) tbOk (by kernel_rfl) (fun b4 => ?_)
        refine W.cl [] (by kernel_rfl) (r_sum2 b4 ⟨x.p.n, x.p.a, x.p.m, x.p.b⟩ ⟨S3, s3, R3, t3⟩) ?_
        rintro _ _ ⟨S5, s5, R5, t5, rfl, rfl⟩
        refine W.cl [] (by kernel_rfl) (s_mul S2 s2 R2 t2 x.s.n x.s.a x.s.m x.s.b) ?_
        rintro _ _ ⟨S6, s6, R6, t6, rfl, rfl⟩   -- ((rtq S.m) * S.s)
        refine W.bs [] 2 (([⟨⟨x.r.n, x.r.a, x.r.m, x.r.b⟩, S.r⟩, ⟨⟨S6, s6, R6, t6⟩, ((rtq S.m) * S.s)⟩] : List PE).flatMap PR.cells) tbOk (by kernel_rfl) (fun b7 => ?_)
        refine W.cl [] (by kernel_rfl) (r_sum2 b7 ⟨x.r.n, x.r.a, x.r.m, x.r.b⟩ ⟨S6, s6, R6, t6⟩) ?_
        rintro _ _ ⟨S8, s8, R8, t8, rfl, rfl⟩
        refine W.cl [] (by kernel_rfl) (r_square x.e x.v hn) ?_
        rintro _ _ ⟨S9, s9, R9, t9, rfl, rfl⟩   -- (rtq S.n)
        refine W.dt [] 53 ((isSq S.n)) (by kernel_rfl) (h2) ?_
        refine W.cl [53] (by kernel_rfl) (s_mul S9 s9 R9 t9 S8 s8 R8 t8) ?_
        rintro _ _ ⟨S10, s10, R10, t10, rfl, rfl⟩   -- ((rtq S.n) * (0 + S.r + ((rtq S.m) * S.s)))
        refine W.bs [] 2 (([⟨⟨S5, s5, R5, t5⟩, (0 + S.p + ((rtq S.m) * S.q))⟩, ⟨⟨S10, s10, R10, t10⟩, ((rtq S.n) * (0 + S.r + ((rtq S.m) * S.s)))⟩] : List PE).flatMap PR.cells) tbOk (by kernel_rfl) (fun b11 => ?_)
        refine W.cl [] (by kernel_rfl) (r_sum2 b11 ⟨S5, s5, R5, t5⟩ ⟨S10, s10, R10, t10⟩) ?_
        rintro _ _ ⟨S12, s12, R12, t12, rfl, rfl⟩
        refine W.cl [] (by kernel_rfl) (s_mul S9 s9 R9 t9 S1 s1 R1 t1) ?_
        rintro _ _ ⟨S13, s13, R13, t13, rfl, rfl⟩   -- ((rtq S.n) * (0 : Rat))
        refine W.bs [] 2 (([⟨⟨S1, s1, R1, t1⟩, (0 : Rat)⟩, ⟨⟨S13, s13, R13, t13⟩, ((rtq S.n) * (0 : Rat))⟩] : List PE).flatMap PR.cells) tbOk (by kernel_rfl) (fun b14 => ?_)
        refine W.cl [] (by kernel_rfl) (r_sum2 b14 ⟨S1, s1, R1, t1⟩ ⟨S13, s13, R13, t13⟩) ?_
        rintro _ _ ⟨S15, s15, R15, t15, rfl, rfl⟩
        refine W.cl [] (by kernel_rfl) (r_square x.d x.u hm) ?_
        rintro _ _ ⟨S16, s16, R16, t16, rfl, rfl⟩   -- (rtq S.m)
        refine W.cl [] (by kernel_rfl) (r_square x.e x.v hn) ?_
        rintro _ _ ⟨S17, s17, R17, t17, rfl, rfl⟩   -- (rtq S.n)
        refine W.cl [] (by kernel_rfl) (p_ymul x.d x.u x.e x.v) ?_
        rintro _ _ ⟨S18, t18, rfl, rfl⟩   -- (S.m * S.n)
        refine W.cl [] (by kernel_rfl) (r_square S18 t18 (Int.mul_nonneg hm hn)) ?_
        rintro _ _ ⟨S19, s19, R19, t19, rfl, rfl⟩   -- (rtq (S.m * S.n))
        refine W.df [] 98 ((isSq (S.m * S.n))) (by kernel_rfl) (h3) ?_
        exact W.r [105, 102, 98] (tv ⟨x.d, x.u, x.e, x.v, ⟨S12, s12, R12, t12⟩, ⟨S15, s15, R15, t15⟩, ⟨S1, s1, R1, t1⟩, ⟨S1, s1, R1, t1⟩⟩) (by kernel_rfl) ⟨_, rfl, rfl⟩ (entT (x := ⟨x.d, x.u, x.e, x.v, ⟨S12, s12, R12, t12⟩, ⟨S15, s15, R15, t15⟩, ⟨S1, s1, R1, t1⟩, ⟨S1, s1, R1, t1⟩⟩) (L' := 20 * L + 400) (S := S.fold) (by rw [hF]) (by rw [hF]) (by rw [hF]) (by rw [hF] <;> rfl) (by rw [hF] <;> rfl) (by rw [hF] <;> rfl) (by omega))
    | false =>
      have hF := fold_tf h1 h2
      cases h3 : isSq (S.m * S.n) with
      | true =>
        refine W.cl [] (by kernel_rfl) (s_of 0 (by omega) (by omega)) ?_
        rintro _ _ ⟨S1, s1, R1, t1, rfl, rfl⟩   -- (0 : Rat)
        refine W.cl [] (by kernel_rfl) (r_square x.d x.u hm) ?_
        rintro _ _ ⟨S2, s2, R2, t2, rfl, rfl⟩   -- (rtq S.m)
        refine W.dt [] 24 ((isSq S.m)) (by kernel_rfl) (h1) ?_
        refine W.cl [24] (by kernel_rfl) (s_mul S2 s2 R2 t2 x.q.n x.q.a x.q.m x.q.b) ?_
        rintro _ _ ⟨S3, s3, R3, t3, rfl, rfl⟩   -- ((rtq S.m) * S.q)
        refine W.bs [] 2 (([⟨⟨x.p.n, x.p.a, x.p.m, x.p.b⟩, S.p⟩, ⟨⟨S3, s3, R3, t3⟩, ((rtq S.m) * S.q)⟩] : List PE).flatMap PR.cells) tbOk (by kernel_rfl) (fun b4 => ?_)
        refine W.cl [] (by kernel_rfl) (r_sum2 b4 ⟨x.p.n, x.p.a, x.p.m, x.p.b⟩ ⟨S3, s3, R3, t3⟩) ?_
        rintro _ _ ⟨S5, s5, R5, t5, rfl, rfl⟩
        refine W.cl [] (by kernel_rfl) (s_mul S2 s2 R2 t2 x.s.n x.s.a x.s.m x.s.b) ?_
        rintro _ _ ⟨S6, s6, R6, t6, rfl, rfl⟩   -- ((rtq S.m) * S.s)
        refine W.bs [] 2 (([⟨⟨x.r.n, x.r.a, x.r.m, x.r.b⟩, S.r⟩, ⟨⟨S6, s6, R6, t6⟩, ((rtq S.m) * S.s)⟩] : List PE).flatMap PR.cells) tbOk (by kernel_rfl) (fun b7 => ?_)
        refine W.cl [] (by kernel_rfl) (r_sum2 b7 ⟨x.r.n, x.r.a, x.r.m, x.r.b⟩ ⟨S6, s6, R6, t6⟩) ?_
        rintro _ _ ⟨S8, s8, R8, t8, rfl, rfl⟩
        refine W.cl [] (by kernel_rfl) (r_square x.e x.v hn) ?_
        rintro _ _ ⟨S9, s9, R9, t9, rfl, rfl⟩   -- (rtq S.n)
        refine W.df [] 53 ((isSq S.n)) (by kernel_rfl) (h2) ?_
        refine W.cl [53] (by kernel_rfl) (r_square x.d x.u hm) ?_
        rintro _ _ ⟨S10, s10, R10, t10, rfl, rfl⟩   -- (rtq S.m)
        refine W.cl [] (by kernel_rfl) (r_square x.e x.v hn) ?_
        rintro _ _ ⟨S11, s11, R11, t11, rfl, rfl⟩   -- (rtq S.n)
        refine W.cl [] (by kernel_rfl) (p_ymul x.d x.u x.e x.v) ?_
        rintro _ _ ⟨S12, t12, rfl, rfl⟩   -- (S.m * S.n)
        refine W.cl [] (by kernel_rfl) (r_square S12 t12 (Int.mul_nonneg hm hn)) ?_
        rintro _ _ ⟨S13, s13, R13, t13, rfl, rfl⟩   -- (rtq (S.m * S.n))
        refine W.dt [] 98 ((isSq (S.m * S.n))) (by kernel_rfl) (h3) ?_
        refine W.df [98] 102 (!(isSq S.m)) (by kernel_rfl) (by rw [h1]; rfl) ?_
        exact W.r [105, 102] (tv ⟨x.d, x.u, x.e, x.v, ⟨S5, s5, R5, t5⟩, ⟨S1, s1, R1, t1⟩, ⟨S8, s8, R8, t8⟩, ⟨S1, s1, R1, t1⟩⟩) (by kernel_rfl) ⟨_, rfl, rfl⟩ (entT (x := ⟨x.d, x.u, x.e, x.v, ⟨S5, s5, R5, t5⟩, ⟨S1, s1, R1, t1⟩, ⟨S8, s8, R8, t8⟩, ⟨S1, s1, R1, t1⟩⟩) (L' := 20 * L + 400) (S := S.fold) (by rw [hF]) (by rw [hF]) (by rw [hF]) (by rw [hF] <;> rfl) (by rw [hF] <;> rfl) (by rw [hF] <;> rfl) (by omega))
      | false =>
        refine W.cl [] (by kernel_rfl) (s_of 0 (by omega) (by omega)) ?_
        rintro _ _ ⟨S1, s1, R1, t1, rfl, rfl⟩   -- (0 : Rat)
        refine W.cl [] (by kernel_rfl) (r_square x.d x.u hm) ?_
        rintro _ _ ⟨S2, s2, R2, t2, rfl, rfl⟩   -- (rtq S.m)
        refine W.dt [] 24 ((isSq S.m)) (by kernel_rfl) (h1) ?_
        refine W.cl [24] (by kernel_rfl) (s_mul S2 s2 R2 t2 x.q.n x.q.a x.q.m x.q.b) ?_
        rintro _ _ ⟨S3, s3, R3, t3, rfl, rfl⟩   -- ((rtq S.m) * S.q)
        refine W.bs [] 2 (([⟨⟨x.p.n, x.p.a, x.p.m, x.p.b⟩, S.p⟩, ⟨⟨S3, s3, R3, t3⟩, ((rtq S.m) * S.q)⟩] : List PE).flatMap PR.cells) tbOk (by kernel_rfl) (fun b4 => ?_)
        refine W.cl [] (by kernel_rfl) (r_sum2 b4 ⟨x.p.n, x.p.a, x.p.m, x.p.b⟩ ⟨S3, s3, R3, t3⟩) ?_
        rintro _ _ ⟨S5, s5, R5, t5, rfl, rfl⟩
        refine W.cl [] (by kernel_rfl) (s_mul S2 s2 R2 t2 x.s.n x.s.a x.s.m x.s.b) ?_
        rintro _ _ ⟨S6, s6, R6, t6, rfl, rfl⟩   -- ((rtq S.m) * S.s)
        refine W.bs [] 2 (([⟨⟨x.r.n, x.r.a, x.r.m, x.r.b⟩, S.r⟩, ⟨⟨S6, s6, R6, t6⟩, ((rtq S.m) * S.s)⟩] : List PE).flatMap PR.cells) tbOk (by kernel_rfl) (fun b7 => ?_)
        refine W.cl [] (by kernel_rfl) (r_sum2 b7 ⟨x.r.n, x.r.a, x.r.m, x.r.b⟩ ⟨S6, s6, R6, t6⟩) ?_
        rintro _ _ ⟨S8, s8, R8, t8, rfl, rfl⟩
        refine W.cl [] (by kernel_rfl) (r_square x.e x.v hn) ?_
        rintro _ _ ⟨S9, s9, R9, t9, rfl, rfl⟩   -- (rtq S.n)
        refine W.df [] 53 ((isSq S.n)) (by kernel_rfl) (h2) ?_
        refine W.cl [53] (by kernel_rfl) (r_square x.d x.u hm) ?_
        rintro _ _ ⟨S10, s10, R10, t10, rfl, rfl⟩   -- (rtq S.m)
        refine W.cl [] (by kernel_rfl) (r_square x.e x.v hn) ?_
        rintro _ _ ⟨S11, s11, R11, t11, rfl, rfl⟩   -- (rtq S.n)
        refine W.cl [] (by kernel_rfl) (p_ymul x.d x.u x.e x.v) ?_
        rintro _ _ ⟨S12, t12, rfl, rfl⟩   -- (S.m * S.n)
        refine W.cl [] (by kernel_rfl) (r_square S12 t12 (Int.mul_nonneg hm hn)) ?_
        rintro _ _ ⟨S13, s13, R13, t13, rfl, rfl⟩   -- (rtq (S.m * S.n))
        refine W.df [] 98 ((isSq (S.m * S.n))) (by kernel_rfl) (h3) ?_
        exact W.r [105, 102, 98] (tv ⟨x.d, x.u, x.e, x.v, ⟨S5, s5, R5, t5⟩, ⟨S1, s1, R1, t1⟩, ⟨S8, s8, R8, t8⟩, ⟨S1, s1, R1, t1⟩⟩) (by kernel_rfl) ⟨_, rfl, rfl⟩ (entT (x := ⟨x.d, x.u, x.e, x.v, ⟨S5, s5, R5, t5⟩, ⟨S1, s1, R1, t1⟩, ⟨S8, s8, R8, t8⟩, ⟨S1, s1, R1, t1⟩⟩) (L' := 20 * L + 400) (S := S.fold) (by rw [hF]) (by rw [hF]) (by rw [hF]) (by rw [hF] <;> rfl) (by rw [hF] <;> rfl) (by rw [hF] <;> rfl) (by omega))
  | false =>
    cases h2 : isSq S.n with
    | true =>
      have hF := fold_ft h1 h2
      cases h3 : isSq (S.m * S.n) with
      | true =>
        refine W.cl [] (by kernel_rfl) (s_of 0 (by omega) (by omega)) ?_
        rintro _ _ ⟨S1, s1, R1, t1, rfl, rfl⟩   -- (0 : Rat)
        refine W.cl [] (by kernel_rfl) (r_square x.d x.u hm) ?_
        rintro _ _ ⟨S2, s2, R2, t2, rfl, rfl⟩   -- (rtq S.m)
        refine W.df [] 24 ((isSq S.m)) (by kernel_rfl) (h1) ?_
        refine W.cl [24] (by kernel_rfl) (r_square x.e x.v hn) ?_
        rintro _ _ ⟨S3, s3, R3, t3, rfl, rfl⟩   -- (rtq S.n)
        refine W.dt [] 53 ((isSq S.n)) (by kernel_rfl) (h2) ?_
        refine W.cl [53] (by kernel_rfl) (s_mul S3 s3 R3 t3 x.r.n x.r.a x.r.m x.r.b) ?_
        rintro _ _ ⟨S4, s4, R4, t4, rfl, rfl⟩   -- ((rtq S.n) * S.r)
        refine W.bs [] 2 (([⟨⟨x.p.n, x.p.a, x.p.m, x.p.b⟩, S.p⟩, ⟨⟨S4, s4, R4, t4⟩, ((rtq S.n) * S.r)⟩] : List PE).flatMap PR.cells) tbOk (by kernel_rfl) (fun b5 => ?_)
        refine W.cl [] (by kernel_rfl) (r_sum2 b5 ⟨x.p.n, x.p.a, x.p.m, x.p.b⟩ ⟨S4, s4, R4, t4⟩) ?_
        rintro _ _ ⟨S6, s6, R6, t6, rfl, rfl⟩
        refine W.cl [] (by kernel_rfl) (s_mul S3 s3 R3 t3 x.s.n x.s.a x.s.m x.s.b) ?_
        rintro _ _ ⟨S7, s7, R7, t7, rfl, rfl⟩   -- ((rtq S.n) * S.s)
        refine W.bs [] 2 (([⟨⟨x.q.n, x.q.a, x.q.m, x.q.b⟩, S.q⟩, ⟨⟨S7, s7, R7, t7⟩, ((rtq S.n) * S.s)⟩] : List PE).flatMap PR.cells) tbOk (by kernel_rfl) (fun b8 => ?_)
        refine W.cl [] (by kernel_rfl) (r_sum2 b8 ⟨x.q.n, x.q.a, x.q.m, x.q.b⟩ ⟨S7, s7, R7, t7⟩) ?_
        rintro _ _ ⟨S9, s9, R9, t9, rfl, rfl⟩
        refine W.cl [] (by kernel_rfl) (r_square x.d x.u hm) ?_
        rintro _ _ ⟨S10, s10, R10, t10, rfl, rfl⟩   -- (rtq S.m)
        refine W.cl [] (by kernel_rfl) (r_square x.e x.v hn) ?_
        rintro _ _ ⟨S11, s11, R11, t11, rfl, rfl⟩   -- (rtq S.n)
        refine W.cl [] (by kernel_rfl) (p_ymul x.d x.u x.e x.v) ?_
        rintro _ _ ⟨S12, t12, rfl, rfl⟩   -- (S.m * S.n)
        refine W.cl [] (by kernel_rfl) (r_square S12 t12 (Int.mul_nonneg hm hn)) ?_
        rintro _ _ ⟨S13, s13, R13, t13, rfl, rfl⟩   -- (rtq (S.m * S.n))
        refine W.dt [] 98 ((isSq (S.m * S.n))) (by kernel_rfl) (h3) ?_
        refine W.dt [98] 102 (!(isSq S.m)) (by kernel_rfl) (by rw [h1]; rfl) ?_
        refine W.df [102] 105 (!(isSq S.n)) (by kernel_rfl) (by rw [h2]; rfl) ?_
        exact W.r [105] (tv ⟨x.d, x.u, x.e, x.v, ⟨S6, s6, R6, t6⟩, ⟨S9, s9, R9, t9⟩, ⟨S1, s1, R1, t1⟩, ⟨S1, s1, R1, t1⟩⟩) (by kernel_rfl) ⟨_, rfl, rfl⟩ (entT (x := ⟨x.d, x.u, x.e, x.v, ⟨S6, s6, R6, t6⟩, ⟨S9, s9, R9, t9⟩, ⟨S1, s1, R1, t1⟩, ⟨S1, s1, R1, t1⟩⟩) (L' := 20 * L + 400) (S := S.fold) (by rw [hF]) (by rw [hF]) (by rw [hF]) (by rw [hF] <;> rfl) (by rw [hF] <;> rfl) (by rw [hF] <;> rfl) (by omega))
      | false =>
        refine W.cl [] (by kernel_rfl) (s_of 0 (by omega) (by omega)) ?_
        rintro _ _ ⟨S1, s1, R1, t1, rfl, rfl⟩   -- (0 : Rat)
        refine W.cl [] (by kernel_rfl) (r_square x.d x.u hm) ?_
        rintro _ _ ⟨S2, s2, R2, t2, rfl, rfl⟩   -- (rtq S.m)
        refine W.df [] 24 ((isSq S.m)) (by kernel_rfl) (h1) ?_
        refine W.cl [24] (by kernel_rfl) (r_square x.e x.v hn) ?_
        rintro _ _ ⟨S3, s3, R3, t3, rfl, rfl⟩   -- (rtq S.n)
        refine W.dt [] 53 ((isSq S.n)) (by kernel_rfl) (h2) ?_
        refine W.cl [53] (by kernel_rfl) (s_mul S3 s3 R3 t3 x.r.n x.r.a x.r.m x.r.b) ?_
        rintro _ _ ⟨S4, s4, R4, t4, rfl, rfl⟩   -- ((rtq S.n) * S.r)
        refine W.bs [] 2 (([⟨⟨x.p.n, x.p.a, x.p.m, x.p.b⟩, S.p⟩, ⟨⟨S4, s4, R4, t4⟩, ((rtq S.n) * S.r)⟩] : List PE).flatMap PR.cells) tbOk (by kernel_rfl) (fun b5 => ?_)
        refine W.cl [] (by kernel_rfl) (r_sum2 b5 ⟨x.p.n, x.p.a, x.p.m, x.p.b⟩ ⟨S4, s4, R4, t4⟩) ?_
        rintro _ _ ⟨S6, s6, R6, t6, rfl, rfl⟩
        refine W.cl [] (by kernel_rfl) (s_mul S3 s3 R3 t3 x.s.n x.s.a x.s.m x.s.b) ?_
        rintro _ _ ⟨S7, s7, R7, t7, rfl, rfl⟩   -- ((rtq S.n) * S.s)
        refine W.bs [] 2 (([⟨⟨x.q.n, x.q.a, x.q.m, x.q.b⟩, S.q⟩, ⟨⟨S7, s7, R7, t7⟩, ((rtq S.n) * S.s)⟩] : List PE).flatMap PR.cells) tbOk (by kernel_rfl) (fun b8 => ?_)
        refine W.cl [] (by kernel_rfl) (r_sum2 b8 ⟨x.q.n, x.q.a, x.q.m, x.q.b⟩ ⟨S7, s7, R7, t7⟩) ?_
        rintro _ _ ⟨S9, s9, R9, t9, rfl, rfl⟩
        refine W.cl [] (by kernel_rfl) (r_square x.d x.u hm) ?_
        rintro _ _ ⟨S10, s10, R10, t10, rfl, rfl⟩   -- (rtq S.m)
        refine W.cl [] (by kernel_rfl) (r_square x.e x.v hn) ?_
        rintro _ _ ⟨S11, s11, R11, t11, rfl, rfl⟩   -- (rtq S.n)
        refine W.cl [] (by kernel_rfl) (p_ymul x.d x.u x.e x.v) ?_
        rintro _ _ ⟨S12, t12, rfl, rfl⟩   -- (S.m * S.n)
        refine W.cl [] (by kernel_rfl) (r_square S12 t12 (Int.mul_nonneg hm hn)) ?_
        rintro _ _ ⟨S13, s13, R13, t13, rfl, rfl⟩   -- (rtq (S.m * S.n))
        refine W.df [] 98 ((isSq (S.m * S.n))) (by kernel_rfl) (h3) ?_
        exact W.r [105, 102, 98] (tv ⟨x.d, x.u, x.e, x.v, ⟨S6, s6, R6, t6⟩, ⟨S9, s9, R9, t9⟩, ⟨S1, s1, R1, t1⟩, ⟨S1, s1, R1, t1⟩⟩) (by kernel_rfl) ⟨_, rfl, rfl⟩ (entT (x := ⟨x.d, x.u, x.e, x.v, ⟨S6, s6, R6, t6⟩, ⟨S9, s9, R9, t9⟩, ⟨S1, s1, R1, t1⟩, ⟨S1, s1, R1, t1⟩⟩) (L' := 20 * L + 400) (S := S.fold) (by rw [hF]) (by rw [hF]) (by rw [hF]) (by rw [hF] <;> rfl) (by rw [hF] <;> rfl) (by rw [hF] <;> rfl) (by omega))
    | false =>
      cases h3 : isSq (S.m * S.n) with
      | true =>
        have hF := fold_fft h1 h2 h3
        have hmq := sq_ne h1
        refine W.cl [] (by kernel_rfl) (s_of 0 (by omega) (by omega)) ?_
        rintro _ _ ⟨S1, s1, R1, t1, rfl, rfl⟩   -- (0 : Rat)
        refine W.cl [] (by kernel_rfl) (r_square x.d x.u hm) ?_
        rintro _ _ ⟨S2, s2, R2, t2, rfl, rfl⟩   -- (rtq S.m)
        refine W.df [] 24 ((isSq S.m)) (by kernel_rfl) (h1) ?_
        refine W.cl [24] (by kernel_rfl) (r_square x.e x.v hn) ?_
        rintro _ _ ⟨S3, s3, R3, t3, rfl, rfl⟩   -- (rtq S.n)
        refine W.df [] 53 ((isSq S.n)) (by kernel_rfl) (h2) ?_
        refine W.cl [53] (by kernel_rfl) (r_square x.d x.u hm) ?_
        rintro _ _ ⟨S4, s4, R4, t4, rfl, rfl⟩   -- (rtq S.m)
        refine W.cl [] (by kernel_rfl) (r_square x.e x.v hn) ?_
        rintro _ _ ⟨S5, s5, R5, t5, rfl, rfl⟩   -- (rtq S.n)
        refine W.cl [] (by kernel_rfl) (p_ymul x.d x.u x.e x.v) ?_
        rintro _ _ ⟨S6, t6, rfl, rfl⟩   -- (S.m * S.n)
        refine W.cl [] (by kernel_rfl) (r_square S6 t6 (Int.mul_nonneg hm hn)) ?_
        rintro _ _ ⟨S7, s7, R7, t7, rfl, rfl⟩   -- (rtq (S.m * S.n))
        refine W.dt [] 98 ((isSq (S.m * S.n))) (by kernel_rfl) (h3) ?_
        refine W.dt [98] 102 (!(isSq S.m)) (by kernel_rfl) (by rw [h1]; rfl) ?_
        refine W.dt [102] 105 (!(isSq S.n)) (by kernel_rfl) (by rw [h2]; rfl) ?_
        refine W.cl [105] (by kernel_rfl) (s_mul S7 s7 R7 t7 x.s.n x.s.a x.s.m x.s.b) ?_
        rintro _ _ ⟨S8, s8, R8, t8, rfl, rfl⟩   -- ((rtq (S.m * S.n)) * S.s)
        refine W.bs [] 2 (([⟨⟨x.p.n, x.p.a, x.p.m, x.p.b⟩, S.p⟩, ⟨⟨S8, s8, R8, t8⟩, ((rtq (S.m * S.n)) * S.s)⟩] : List PE).flatMap PR.cells) tbOk (by kernel_rfl) (fun b9 => ?_)
        refine W.cl [] (by kernel_rfl) (r_sum2 b9 ⟨x.p.n, x.p.a, x.p.m, x.p.b⟩ ⟨S8, s8, R8, t8⟩) ?_
        rintro _ _ ⟨S10, s10, R10, t10, rfl, rfl⟩
        refine W.cl [] (by kernel_rfl) (r_whole x.d x.u) ?_
        rintro _ _ ⟨S11, s11, R11, t11, rfl, rfl⟩   -- ((S.m : Int) : Rat)
        refine W.cl [] (by kernel_rfl) (s_div S7 s7 R7 t7 S11 s11 R11 t11 hmq) ?_
        rintro _ _ ⟨S12, s12, R12, t12, rfl, rfl⟩   -- ((rtq (S.m * S.n)) / ((S.m : Int) : Rat))
        refine W.cl [] (by kernel_rfl) (s_mul S12 s12 R12 t12 x.r.n x.r.a x.r.m x.r.b) ?_
        rintro _ _ ⟨S13, s13, R13, t13, rfl, rfl⟩   -- (((rtq (S.m * S.n)) / ((S.m : Int) : Rat)) * S.r)
        refine W.bs [] 2 (([⟨⟨x.q.n, x.q.a, x.q.m, x.q.b⟩, S.q⟩, ⟨⟨S13, s13, R13, t13⟩, (((rtq (S.m * S.n)) / ((S.m : Int) : Rat)) * S.r)⟩] : List PE).flatMap PR.cells) tbOk (by kernel_rfl) (fun b14 => ?_)
        refine W.cl [] (by kernel_rfl) (r_sum2 b14 ⟨x.q.n, x.q.a, x.q.m, x.q.b⟩ ⟨S13, s13, R13, t13⟩) ?_
        rintro _ _ ⟨S15, s15, R15, t15, rfl, rfl⟩
        exact W.r [] (tv ⟨x.d, x.u, x.e, x.v, ⟨S10, s10, R10, t10⟩, ⟨S15, s15, R15, t15⟩, ⟨S1, s1, R1, t1⟩, ⟨S1, s1, R1, t1⟩⟩) (by kernel_rfl) ⟨_, rfl, rfl⟩ (entT (x := ⟨x.d, x.u, x.e, x.v, ⟨S10, s10, R10, t10⟩, ⟨S15, s15, R15, t15⟩, ⟨S1, s1, R1, t1⟩, ⟨S1, s1, R1, t1⟩⟩) (L' := 20 * L + 400) (S := S.fold) (by rw [hF]) (by rw [hF]) (by rw [hF]) (by rw [hF] <;> rfl) (by rw [hF] <;> rfl) (by rw [hF] <;> rfl) (by omega))
      | false =>
        have hF := fold_fff h1 h2 h3
        refine W.cl [] (by kernel_rfl) (s_of 0 (by omega) (by omega)) ?_
        rintro _ _ ⟨S1, s1, R1, t1, rfl, rfl⟩   -- (0 : Rat)
        refine W.cl [] (by kernel_rfl) (r_square x.d x.u hm) ?_
        rintro _ _ ⟨S2, s2, R2, t2, rfl, rfl⟩   -- (rtq S.m)
        refine W.df [] 24 ((isSq S.m)) (by kernel_rfl) (h1) ?_
        refine W.cl [24] (by kernel_rfl) (r_square x.e x.v hn) ?_
        rintro _ _ ⟨S3, s3, R3, t3, rfl, rfl⟩   -- (rtq S.n)
        refine W.df [] 53 ((isSq S.n)) (by kernel_rfl) (h2) ?_
        refine W.cl [53] (by kernel_rfl) (r_square x.d x.u hm) ?_
        rintro _ _ ⟨S4, s4, R4, t4, rfl, rfl⟩   -- (rtq S.m)
        refine W.cl [] (by kernel_rfl) (r_square x.e x.v hn) ?_
        rintro _ _ ⟨S5, s5, R5, t5, rfl, rfl⟩   -- (rtq S.n)
        refine W.cl [] (by kernel_rfl) (p_ymul x.d x.u x.e x.v) ?_
        rintro _ _ ⟨S6, t6, rfl, rfl⟩   -- (S.m * S.n)
        refine W.cl [] (by kernel_rfl) (r_square S6 t6 (Int.mul_nonneg hm hn)) ?_
        rintro _ _ ⟨S7, s7, R7, t7, rfl, rfl⟩   -- (rtq (S.m * S.n))
        refine W.df [] 98 ((isSq (S.m * S.n))) (by kernel_rfl) (h3) ?_
        exact W.r [105, 102, 98] (tv x) (by kernel_rfl) ⟨_, rfl, rfl⟩ (entT' (by omega) hF.symm)
end
end Go.Proofs.YtaafmafdnnjmdaaGreat

set_option linter.unusedSimpArgs false
set_option linter.unusedVariables false
namespace Go.Proofs.YtaafmafdnnjmdaaGreat
open Go.RowKit Go.IntWalk

theorem sign_nz {q : Rat} : (q.num.sign == 0) = true ↔ q = 0 := by rw [beq_iff_eq, sign_eq0]
section
variable {fin : VS → List Fact → Prop} {Γ : List Fact} {L M K : Nat}
end
end Go.Proofs.YtaafmafdnnjmdaaGreat

set_option linter.unusedSimpArgs false
set_option linter.unusedVariables false
namespace Go.Proofs.YtaafmafdnnjmdaaGreat
open Go.RowKit Go.IntWalk

/-- A number of four parts so great. -/
def mdS (A D : Nat) (S : Sn) : Prop := md A D S.p ∧ md A D S.q ∧ md A D S.r ∧ md A D S.s
theorem mdS.sub {A D B E : Nat} {S T : Sn} (h : mdS A D S) (g : mdS B E T) : mdS (max A B + 1) (D + E) (S.sub T) :=
  ⟨h.1.sub g.1, h.2.1.sub g.2.1, h.2.2.1.sub g.2.2.1, h.2.2.2.sub g.2.2.2⟩
end Go.Proofs.YtaafmafdnnjmdaaGreat

set_option linter.unusedSimpArgs false
set_option linter.unusedVariables false
namespace Go.Proofs.YtaafmafdnnjmdaaGreat
open Go.RowKit Go.IntWalk

/-- The search for its sign ends. -/
def Sn.sep (S : Sn) : Prop := ¬ S.fold.nil → 0 < S.fold.lo 8192 ∨ S.fold.hi 8192 < 0
section
variable {fin : VS → List Fact → Prop} {Γ : List Fact} {L M K : Nat}
end
end Go.Proofs.YtaafmafdnnjmdaaGreat

set_option linter.unusedSimpArgs false
set_option linter.unusedVariables false
namespace Go.Proofs.YtaafmafdnnjmdaaGreat
open Go.RowKit Go.IntWalk

section
variable {fin : VS → List Fact → Prop} {Γ : List Fact} {L M K : Nat}
end
end Go.Proofs.YtaafmafdnnjmdaaGreat
