/- The contracts of the reference's numbers with two roots. -/
import Derived.Test.YtaafmafdnnjmdaaGreatSu
set_option linter.unusedSimpArgs false
set_option linter.unusedVariables false
namespace Go.Proofs.YtaafmafdnnjmdaaGreat
open Go.RowKit Go.IntWalk

/-- Quotients of the reference in rows. -/
structure PE where
  x : Pw
  q : Rat
def PR : Rowed PE where
  z := 4
  cells e := [.int .i64 e.x.n, .slice e.x.a.ao e.x.a.n e.x.a.c, .int .i64 e.x.m, .slice e.x.b.ao e.x.b.n e.x.b.c]
  len _ := rfl
  fact L e := PG e.x (L, e.q)
def psum (l : List PE) : Rat := (l.map (·.q)).foldl (· + ·) 0
theorem psum_snoc (l : List PE) (e : PE) : psum (l ++ [e]) = psum l + e.q := by unfold psum; rw [List.map_append, List.foldl_append]; rfl
section
variable {fin : VS → List Fact → Prop} {Γ : List Fact} {L M K : Nat}
theorem entTz {Z : Tw} {p q r s : Pw} {L0 L1 L2 L3 L4 L' : Nat} {T S : Sn} {a b c d : Rat} [h0 : Has (TF Z) (L0, T) Γ] [h1 : Has (PG p) (L1, a) Γ] [h2 : Has (PG q) (L2, b) Γ] [h3 : Has (PG r) (L3, c) Γ] [h4 : Has (PG s) (L4, d) Γ]
    (em : T.m = S.m) (en : T.n = S.n) (ea : a = S.p) (eb : b = S.q) (ec : c = S.r) (ed : d = S.s) (hL : L0 ≤ L' ∧ L1 ≤ L' ∧ L2 ≤ L' ∧ L3 ≤ L' ∧ L4 ≤ L') : ∀ (I : Blk) (w : World), DataOK tb I w → Holds Γ I w → Holds [TF ⟨Z.d, Z.u, Z.e, Z.v, p, q, r, s⟩ (L', S)] I w := fun I w _ hh => by
  obtain ⟨g1, g2, _⟩ := h0.p hh
  subst ea eb ec ed
  have g1 : (YF Z.d Z.u (L0, T.m)).p I w := g1
  have g2 : (YF Z.e Z.v (L0, T.n)).p I w := g2
  rw [em] at g1
  rw [en] at g2
  exact holds1 ⟨YF.up2 g1 hL.1, YF.up2 g2 hL.1, PF.up2 (h1.p hh) hL.2.1, PF.up2 (h2.p hh) hL.2.2.1, PF.up2 (h3.p hh) hL.2.2.2.1, PF.up2 (h4.p hh) hL.2.2.2.2⟩
theorem r_sum (ao : Option Addr) (n c : Nat) {l : List PE} [h : Has (OL PR ao) (L, l) Γ] (hn : n = l.length) (hl : n ≤ 8) (hL : L ≤ 10000000 := by omega) :
    PCalls tb Tryz.prog 79 [.slice ao n c] Γ (PPost (6 + n * (L + 1)) (psum l)) := by
  refine PCalls.of_W tbOk Tryz.func79 rfl (by kernel_rfl) ?_
  refine W.cl [] (by kernel_rfl) (s_of 0 (by omega) (by omega)) ?_
  rintro _ _ ⟨S1, s1, R1, t1, rfl, rfl⟩
  refine W.lp [] [4] (fun a : Nat × Int × Pw => [(4, .int .i64 a.2.1)]) (fun a => [(3, PR.cells ⟨a.2.2, 0⟩)]) (fun a => [PG a.2.2 (6 + a.1 * (L + 1), psum (l.take a.1)), OL PR ao (L, l)]) (fun a => a.2.1 = a.1 ∧ a.1 ≤ n) (fun a => n - a.1) (0, 0, ⟨S1, s1, R1, t1⟩) (by kernel_rfl) (by kernel_rfl) ⟨rfl, Nat.zero_le _⟩ (fun I w _ hh => Holds.cons (PF.up2 (Has.p (k := PF S1 s1 R1 t1) (a := (6, ((0 : Int) : Rat))) inferInstance hh) (show 6 ≤ 6 + 0 * (L + 1) by omega)) (holds1 (Has.p (k := OL PR ao) (a := (L, l)) inferInstance hh))) ?_
  rintro ⟨k, z, Y⟩ R ⟨hz, hk⟩ close
  simp only at hz hk
  subst hz
  by_cases hks : k < n
  · have hkl : k < l.length := by omega
    refine W.el PR ao k hkl rfl (by decide) ?_
    rintro B off rfl
    refine W.dt [] 9 (decide ((k : Int) < (n : Nat))) (by kernel_rfl) (by rw [decide_eq_true_iff]; omega) ?_
    refine W.ia [9] 4 B off n c .i64 k (k : Int) rfl tbOk (by kernel_rfl) hks ?_
    refine W.lds [] B (off + k * 4) (PR.cells (l[k]'hkl)) tbOk (by kernel_rfl) (OL.told PR B off k hkl) ?_
    have hF : ∀ Γ', Has (PF (l[k]'hkl).x.n (l[k]'hkl).x.a (l[k]'hkl).x.m (l[k]'hkl).x.b) (L, (l[k]'hkl).q) (PR.fact L (l[k]'hkl) :: Γ') := fun _ => Has.head
    have hF0 := hF [PG Y (6 + k * (L + 1), psum (l.take k)), OL PR (some ⟨B, off, none⟩) (L, l)]
    have hkL : 6 + k * (L + 1) ≤ 90000000 := by
      have : k * (L + 1) ≤ 8 * 10000001 := Nat.mul_le_mul (by omega) (by omega)
      omega
    refine W.cl [] (by kernel_rfl) (s_add Y.n Y.a Y.m Y.b (l[k]'hkl).x.n (l[k]'hkl).x.a (l[k]'hkl).x.m (l[k]'hkl).x.b (hL := by show 6 + k * (L + 1) ≤ 100000000; omega)) ?_
    rintro _ _ ⟨S5, s5, R5, t5, rfl, rfl⟩
    refine close [] _ _ (k + 1, IntKind.i64.wrap ((k : Int) + 1), ⟨S5, s5, R5, t5⟩) (by kernel_rfl) (by kernel_rfl) ⟨by simp only; rw [i64_in _ (by omega)]; rfl, by simp only; omega⟩ (by simp only; omega) (fun I w hd hh => ?_)
    have f1 := Has.p (k := PF S5 s5 R5 t5) (a := (6 + k * (L + 1) + L + 1, psum (l.take k) + (l[k]'hkl).q)) inferInstance hh
    refine Holds.cons ?_ (holds1 (Has.p (k := OL PR (some ⟨B, off, none⟩)) (a := (L, l)) inferInstance hh))
    have e : psum (l.take (k + 1)) = psum (l.take k) + (l[k]'hkl).q := by rw [List.take_succ_eq_append_getElem hkl, psum_snoc]
    show (PF S5 s5 R5 t5 (6 + (k + 1) * (L + 1), psum (l.take (k + 1)))).p I w
    rw [e]
    exact PF.up2 f1 (by rw [Nat.add_mul]; omega)
  · obtain rfl : k = n := by omega
    refine W.df [] 9 (decide (((k : Nat) : Int) < (k : Nat))) (by kernel_rfl) (by rw [decide_eq_false_iff_not]; omega) ?_
    exact W.r [9] (pv Y.n Y.a Y.m Y.b) (by kernel_rfl) ⟨_, _, _, _, rfl, rfl⟩ (entP (Nat.le_refl _) (by rw [List.take_of_length_le (by omega)]))
theorem r_sumB (b : Nat) (l : List PE) (n : Nat) [hr : Has (RowF b) (l.flatMap PR.cells) Γ] (hn : n = l.length) (hl : n ≤ 8) (hf : ∀ (I : Blk) (w : World), DataOK tb I w → Holds Γ I w → ∀ e ∈ l, (PR.fact K e).p I w) (hK : K ≤ 10000000) :
    PCalls tb Tryz.prog 79 [.slice (some ⟨b, 0, none⟩) n n] Γ (PPost (6 + n * (K + 1)) (psum l)) :=
  (r_sum (Γ := OL PR (some ⟨b, 0, none⟩) (K, l) :: Γ) (some ⟨b, 0, none⟩) n n hn hl).weak (fun I w hd hh => Holds.cons ⟨hf I w hd hh, RA.of_row (hr.p hh) (fun _ _ h => h)⟩ hh) (fun _ _ h => h)
theorem r_whole (S : Int) (t : Sl) {m : Int} [Has (YF S t) (L, m) Γ] :
    PCalls tb Tryz.prog 78 [yv S t] Γ (PPost (max L 6) (m : Rat)) := by
  refine PCalls.of_W tbOk Tryz.func78 rfl (by kernel_rfl) ?_
  refine W.cl [] (by kernel_rfl) (p_yof 1 (by omega) (by omega)) ?_
  rintro _ _ ⟨S1, t1, rfl, rfl⟩   -- 1
  exact W.r [] (pv S t S1 t1) (by kernel_rfl) ⟨_, _, _, _, rfl, rfl⟩ (entYP (by omega) (by omega) (by omega) (q_divInt1 m).symm)
theorem r_xneg (x : Tw) {S : Sn} [Has (TF x) (L, S) Γ] (hL : L ≤ 100000 := by omega) :
    PCalls tb Tryz.prog 44 [tv x] Γ (TPost (max L 6) S.neg) := by
  refine PCalls.of_W tbOk Tryz.func44 rfl (by kernel_rfl) ?_
  refine W.tf x rfl ?_
  refine W.cl [] (by kernel_rfl) (s_zero x.d x.u x.e x.v) ?_
  rintro _ _ ⟨Y1, rfl, rfl⟩   -- (Sn.mk S.m S.n 0 0 0 0)
  refine W.unr [] 6 (by kernel_rfl) ?_
  refine W.cl [11] (by kernel_rfl) (s_neg x.p.n x.p.a x.p.m x.p.b) ?_
  rintro _ _ ⟨S2, s2, R2, t2, rfl, rfl⟩   -- (-S.p)
  refine W.cl [11] (by kernel_rfl) (s_neg x.q.n x.q.a x.q.m x.q.b) ?_
  rintro _ _ ⟨S3, s3, R3, t3, rfl, rfl⟩   -- (-S.q)
  refine W.cl [11] (by kernel_rfl) (s_neg x.r.n x.r.a x.r.m x.r.b) ?_
  rintro _ _ ⟨S4, s4, R4, t4, rfl, rfl⟩   -- (-S.r)
  refine W.cl [11] (by kernel_rfl) (s_neg x.s.n x.s.a x.s.m x.s.b) ?_
  rintro _ _ ⟨S5, s5, R5, t5, rfl, rfl⟩   -- (-S.s)
  exact W.r [11] (tv ⟨Y1.d, Y1.u, Y1.e, Y1.v, ⟨S2, s2, R2, t2⟩, ⟨S3, s3, R3, t3⟩, ⟨S4, s4, R4, t4⟩, ⟨S5, s5, R5, t5⟩⟩) (by kernel_rfl) ⟨_, rfl, rfl⟩ (entTz (p := ⟨S2, s2, R2, t2⟩) (q := ⟨S3, s3, R3, t3⟩) (r := ⟨S4, s4, R4, t4⟩) (s := ⟨S5, s5, R5, t5⟩) (by rfl) (by rfl) (by rfl) (by rfl) (by rfl) (by rfl) (by omega))
theorem r_xadd (x : Tw) {S : Sn} [Has (TF x) (L, S) Γ] (y : Tw) {T : Sn} [Has (TF y) (M, T) Γ] (hL : L ≤ 100000 := by omega) (hM : M ≤ 100000 := by omega) :
    PCalls tb Tryz.prog 41 [tv x, tv y] Γ (TPost (L + M + 7) (S.add T)) := by
  refine PCalls.of_W tbOk Tryz.func41 rfl (by kernel_rfl) ?_
  refine W.tf x rfl ?_
  refine W.tf y rfl ?_
  refine W.cl [] (by kernel_rfl) (s_zero x.d x.u x.e x.v) ?_
  rintro _ _ ⟨Y1, rfl, rfl⟩   -- (Sn.mk S.m S.n 0 0 0 0)
  refine W.unr [] 6 (by kernel_rfl) ?_
  refine W.cl [13] (by kernel_rfl) (s_add x.p.n x.p.a x.p.m x.p.b y.p.n y.p.a y.p.m y.p.b) ?_
  rintro _ _ ⟨S2, s2, R2, t2, rfl, rfl⟩   -- (S.p + T.p)
  refine W.cl [13] (by kernel_rfl) (s_add x.q.n x.q.a x.q.m x.q.b y.q.n y.q.a y.q.m y.q.b) ?_
  rintro _ _ ⟨S3, s3, R3, t3, rfl, rfl⟩   -- (S.q + T.q)
  refine W.cl [13] (by kernel_rfl) (s_add x.r.n x.r.a x.r.m x.r.b y.r.n y.r.a y.r.m y.r.b) ?_
  rintro _ _ ⟨S4, s4, R4, t4, rfl, rfl⟩   -- (S.r + T.r)
  refine W.cl [13] (by kernel_rfl) (s_add x.s.n x.s.a x.s.m x.s.b y.s.n y.s.a y.s.m y.s.b) ?_
  rintro _ _ ⟨S5, s5, R5, t5, rfl, rfl⟩   -- (S.s + T.s)
  exact W.r [13] (tv ⟨Y1.d, Y1.u, Y1.e, Y1.v, ⟨S2, s2, R2, t2⟩, ⟨S3, s3, R3, t3⟩, ⟨S4, s4, R4, t4⟩, ⟨S5, s5, R5, t5⟩⟩) (by kernel_rfl) ⟨_, rfl, rfl⟩ (entTz (p := ⟨S2, s2, R2, t2⟩) (q := ⟨S3, s3, R3, t3⟩) (r := ⟨S4, s4, R4, t4⟩) (s := ⟨S5, s5, R5, t5⟩) (by rfl) (by rfl) (by rfl) (by rfl) (by rfl) (by rfl) (by omega))
set_option maxHeartbeats 8000000 in
theorem r_xmul (x : Tw) {S : Sn} [Has (TF x) (L, S) Γ] (y : Tw) {T : Sn} [Has (TF y) (M, T) Γ] (hL : L ≤ 5000 := by omega) (hM : M ≤ 5000 := by omega) :
    PCalls tb Tryz.prog 42 [tv x, tv y] Γ (TPost (12 * L + 6 * M + 100) (S.mul T)) := by
  refine PCalls.of_W tbOk Tryz.func42 rfl (by kernel_rfl) ?_
  refine W.tf x rfl ?_
  refine W.tf y rfl ?_
  refine W.cl [] (by kernel_rfl) (r_whole x.d x.u) ?_
  rintro _ _ ⟨S1, s1, R1, t1, rfl, rfl⟩   -- (S.m : Rat)
  refine W.cl [] (by kernel_rfl) (r_whole x.e x.v) ?_
  rintro _ _ ⟨S2, s2, R2, t2, rfl, rfl⟩   -- (S.n : Rat)
  refine W.cl [] (by kernel_rfl) (s_zero x.d x.u x.e x.v) ?_
  rintro _ _ ⟨Y3, rfl, rfl⟩   -- (Sn.mk S.m S.n 0 0 0 0)
  refine W.cl [] (by kernel_rfl) (s_mul x.p.n x.p.a x.p.m x.p.b y.p.n y.p.a y.p.m y.p.b) ?_
  rintro _ _ ⟨S4, s4, R4, t4, rfl, rfl⟩   -- (S.p * T.p)
  refine W.cl [] (by kernel_rfl) (s_mul x.q.n x.q.a x.q.m x.q.b y.q.n y.q.a y.q.m y.q.b) ?_
  rintro _ _ ⟨S5, s5, R5, t5, rfl, rfl⟩   -- (S.q * T.q)
  refine W.cl [] (by kernel_rfl) (s_mul S1 s1 R1 t1 S5 s5 R5 t5) ?_
  rintro _ _ ⟨S6, s6, R6, t6, rfl, rfl⟩   -- ((S.m : Rat) * (S.q * T.q))
  refine W.cl [] (by kernel_rfl) (s_mul x.r.n x.r.a x.r.m x.r.b y.r.n y.r.a y.r.m y.r.b) ?_
  rintro _ _ ⟨S7, s7, R7, t7, rfl, rfl⟩   -- (S.r * T.r)
  refine W.cl [] (by kernel_rfl) (s_mul S2 s2 R2 t2 S7 s7 R7 t7) ?_
  rintro _ _ ⟨S8, s8, R8, t8, rfl, rfl⟩   -- ((S.n : Rat) * (S.r * T.r))
  refine W.cl [] (by kernel_rfl) (s_mul S1 s1 R1 t1 S2 s2 R2 t2) ?_
  rintro _ _ ⟨S9, s9, R9, t9, rfl, rfl⟩   -- ((S.m : Rat) * (S.n : Rat))
  refine W.cl [] (by kernel_rfl) (s_mul x.s.n x.s.a x.s.m x.s.b y.s.n y.s.a y.s.m y.s.b) ?_
  rintro _ _ ⟨S10, s10, R10, t10, rfl, rfl⟩   -- (S.s * T.s)
  refine W.cl [] (by kernel_rfl) (s_mul S9 s9 R9 t9 S10 s10 R10 t10) ?_
  rintro _ _ ⟨S11, s11, R11, t11, rfl, rfl⟩   -- (((S.m : Rat) * (S.n : Rat)) * (S.s * T.s))
  refine W.bs [] 4 (([⟨⟨S4, s4, R4, t4⟩, (S.p * T.p)⟩, ⟨⟨S6, s6, R6, t6⟩, ((S.m : Rat) * (S.q * T.q))⟩, ⟨⟨S8, s8, R8, t8⟩, ((S.n : Rat) * (S.r * T.r))⟩, ⟨⟨S11, s11, R11, t11⟩, (((S.m : Rat) * (S.n : Rat)) * (S.s * T.s))⟩] : List PE).flatMap PR.cells) tbOk (by kernel_rfl) (fun b12 => ?_)
  refine W.cl [] (by kernel_rfl) (r_sumB b12 ([⟨⟨S4, s4, R4, t4⟩, (S.p * T.p)⟩, ⟨⟨S6, s6, R6, t6⟩, ((S.m : Rat) * (S.q * T.q))⟩, ⟨⟨S8, s8, R8, t8⟩, ((S.n : Rat) * (S.r * T.r))⟩, ⟨⟨S11, s11, R11, t11⟩, (((S.m : Rat) * (S.n : Rat)) * (S.s * T.s))⟩] : List PE) 4 (K := 3 * L + M + 20) rfl (by omega) (fun I w hd hh e he => by
      simp only [List.mem_cons, List.not_mem_nil, or_false] at he
      rcases he with rfl | rfl | rfl | rfl <;> exact PF.up2 (Has.p inferInstance hh) (by omega)) (by omega)) ?_
  rintro _ _ ⟨S13, s13, R13, t13, rfl, rfl⟩
  refine W.cl [] (by kernel_rfl) (s_mul x.p.n x.p.a x.p.m x.p.b y.q.n y.q.a y.q.m y.q.b) ?_
  rintro _ _ ⟨S14, s14, R14, t14, rfl, rfl⟩   -- (S.p * T.q)
  refine W.cl [] (by kernel_rfl) (s_mul x.q.n x.q.a x.q.m x.q.b y.p.n y.p.a y.p.m y.p.b) ?_
  rintro _ _ ⟨S15, s15, R15, t15, rfl, rfl⟩   -- (S.q * T.p)
  refine W.cl [] (by kernel_rfl) (s_mul x.r.n x.r.a x.r.m x.r.b y.s.n y.s.a y.s.m y.s.b) ?_
  rintro _ _ ⟨S16, s16, R16, t16, rfl, rfl⟩   -- (S.r * T.s)
  refine W.cl [] (by kernel_rfl) (s_mul x.s.n x.s.a x.s.m x.s.b y.r.n y.r.a y.r.m y.r.b) ?_
  rintro _ _ ⟨S17, s17, R17, t17, rfl, rfl⟩   -- (S.s * T.r)
  refine W.bs [] 2 (([⟨⟨S16, s16, R16, t16⟩, (S.r * T.s)⟩, ⟨⟨S17, s17, R17, t17⟩, (S.s * T.r)⟩] : List PE).flatMap PR.cells) tbOk (by kernel_rfl) (fun b18 => ?_)
  refine W.cl [] (by kernel_rfl) (r_sumB b18 ([⟨⟨S16, s16, R16, t16⟩, (S.r * T.s)⟩, ⟨⟨S17, s17, R17, t17⟩, (S.s * T.r)⟩] : List PE) 2 (K := L + M) rfl (by omega) (fun I w hd hh e he => by
      simp only [List.mem_cons, List.not_mem_nil, or_false] at he
      rcases he with rfl | rfl <;> exact PF.up2 (Has.p inferInstance hh) (by omega)) (by omega)) ?_
  rintro _ _ ⟨S19, s19, R19, t19, rfl, rfl⟩
  refine W.cl [] (by kernel_rfl) (s_mul S2 s2 R2 t2 S19 s19 R19 t19) ?_
  rintro _ _ ⟨S20, s20, R20, t20, rfl, rfl⟩   -- ((S.n : Rat) * (psum ([⟨⟨S16, s16, R16, t16⟩, (S.r * T.s)⟩, ⟨⟨S17, s17, R17, t17⟩, (S.s * T.r)⟩] : List PE)))
  refine W.bs [] 3 (([⟨⟨S14, s14, R14, t14⟩, (S.p * T.q)⟩, ⟨⟨S15, s15, R15, t15⟩, (S.q * T.p)⟩, ⟨⟨S20, s20, R20, t20⟩, ((S.n : Rat) * (psum ([⟨⟨S16, s16, R16, t16⟩, (S.r * T.s)⟩, ⟨⟨S17, s17, R17, t17⟩, (S.s * T.r)⟩] : List PE)))⟩] : List PE).flatMap PR.cells) tbOk (by kernel_rfl) (fun b21 => ?_)
  refine W.cl [] (by kernel_rfl) (r_sumB b21 ([⟨⟨S14, s14, R14, t14⟩, (S.p * T.q)⟩, ⟨⟨S15, s15, R15, t15⟩, (S.q * T.p)⟩, ⟨⟨S20, s20, R20, t20⟩, ((S.n : Rat) * (psum ([⟨⟨S16, s16, R16, t16⟩, (S.r * T.s)⟩, ⟨⟨S17, s17, R17, t17⟩, (S.s * T.r)⟩] : List PE)))⟩] : List PE) 3 (K := 3 * L + 2 * M + 20) rfl (by omega) (fun I w hd hh e he => by
      simp only [List.mem_cons, List.not_mem_nil, or_false] at he
      rcases he with rfl | rfl | rfl <;> exact PF.up2 (Has.p inferInstance hh) (by omega)) (by omega)) ?_
  rintro _ _ ⟨S22, s22, R22, t22, rfl, rfl⟩
  refine W.cl [] (by kernel_rfl) (s_mul x.p.n x.p.a x.p.m x.p.b y.r.n y.r.a y.r.m y.r.b) ?_
  rintro _ _ ⟨S23, s23, R23, t23, rfl, rfl⟩   -- (S.p * T.r)
  refine W.cl [] (by kernel_rfl) (s_mul x.r.n x.r.a x.r.m x.r.b y.p.n y.p.a y.p.m y.p.b) ?_
  rintro _ _ ⟨S24, s24, R24, t24, rfl, rfl⟩   -- (S.r * T.p)
  refine W.cl [] (by kernel_rfl) (s_mul x.q.n x.q.a x.q.m x.q.b y.s.n y.s.a y.s.m y.s.b) ?_
  rintro _ _ ⟨S25, s25, R25, t25, rfl, rfl⟩   -- (S.q * T.s)
  refine W.cl [] (by kernel_rfl) (s_mul x.s.n x.s.a x.s.m x.s.b y.q.n y.q.a y.q.m y.q.b) ?_
  rintro _ _ ⟨S26, s26, R26, t26, rfl, rfl⟩   -- (S.s * T.q)
  refine W.bs [] 2 (([⟨⟨S25, s25, R25, t25⟩, (S.q * T.s)⟩, ⟨⟨S26, s26, R26, t26⟩, (S.s * T.q)⟩] : List PE).flatMap PR.cells) tbOk (by kernel_rfl) (fun b27 => ?_)
  refine W.cl [] (by kernel_rfl) (r_sumB b27 ([⟨⟨S25, s25, R25, t25⟩, (S.q * T.s)⟩, ⟨⟨S26, s26, R26, t26⟩, (S.s * T.q)⟩] : List PE) 2 (K := L + M) rfl (by omega) (fun I w hd hh e he => by
      simp only [List.mem_cons, List.not_mem_nil, or_false] at he
      rcases he with rfl | rfl <;> exact PF.up2 (Has.p inferInstance hh) (by omega)) (by omega)) ?_
  rintro _ _ ⟨S28, s28, R28, t28, rfl, rfl⟩
  refine W.cl [] (by kernel_rfl) (s_mul S1 s1 R1 t1 S28 s28 R28 t28) ?_
  rintro _ _ ⟨S29, s29, R29, t29, rfl, rfl⟩   -- ((S.m : Rat) * (psum ([⟨⟨S25, s25, R25, t25⟩, (S.q * T.s)⟩, ⟨⟨S26, s26, R26, t26⟩, (S.s * T.q)⟩] : List PE)))
  refine W.bs [] 3 (([⟨⟨S23, s23, R23, t23⟩, (S.p * T.r)⟩, ⟨⟨S24, s24, R24, t24⟩, (S.r * T.p)⟩, ⟨⟨S29, s29, R29, t29⟩, ((S.m : Rat) * (psum ([⟨⟨S25, s25, R25, t25⟩, (S.q * T.s)⟩, ⟨⟨S26, s26, R26, t26⟩, (S.s * T.q)⟩] : List PE)))⟩] : List PE).flatMap PR.cells) tbOk (by kernel_rfl) (fun b30 => ?_)
  refine W.cl [] (by kernel_rfl) (r_sumB b30 ([⟨⟨S23, s23, R23, t23⟩, (S.p * T.r)⟩, ⟨⟨S24, s24, R24, t24⟩, (S.r * T.p)⟩, ⟨⟨S29, s29, R29, t29⟩, ((S.m : Rat) * (psum ([⟨⟨S25, s25, R25, t25⟩, (S.q * T.s)⟩, ⟨⟨S26, s26, R26, t26⟩, (S.s * T.q)⟩] : List PE)))⟩] : List PE) 3 (K := 3 * L + 2 * M + 20) rfl (by omega) (fun I w hd hh e he => by
      simp only [List.mem_cons, List.not_mem_nil, or_false] at he
      rcases he with rfl | rfl | rfl <;> exact PF.up2 (Has.p inferInstance hh) (by omega)) (by omega)) ?_
  rintro _ _ ⟨S31, s31, R31, t31, rfl, rfl⟩
  refine W.cl [] (by kernel_rfl) (s_mul x.p.n x.p.a x.p.m x.p.b y.s.n y.s.a y.s.m y.s.b) ?_
  rintro _ _ ⟨S32, s32, R32, t32, rfl, rfl⟩   -- (S.p * T.s)
  refine W.cl [] (by kernel_rfl) (s_mul x.s.n x.s.a x.s.m x.s.b y.p.n y.p.a y.p.m y.p.b) ?_
  rintro _ _ ⟨S33, s33, R33, t33, rfl, rfl⟩   -- (S.s * T.p)
  refine W.cl [] (by kernel_rfl) (s_mul x.q.n x.q.a x.q.m x.q.b y.r.n y.r.a y.r.m y.r.b) ?_
  rintro _ _ ⟨S34, s34, R34, t34, rfl, rfl⟩   -- (S.q * T.r)
  refine W.cl [] (by kernel_rfl) (s_mul x.r.n x.r.a x.r.m x.r.b y.q.n y.q.a y.q.m y.q.b) ?_
  rintro _ _ ⟨S35, s35, R35, t35, rfl, rfl⟩   -- (S.r * T.q)
  refine W.bs [] 4 (([⟨⟨S32, s32, R32, t32⟩, (S.p * T.s)⟩, ⟨⟨S33, s33, R33, t33⟩, (S.s * T.p)⟩, ⟨⟨S34, s34, R34, t34⟩, (S.q * T.r)⟩, ⟨⟨S35, s35, R35, t35⟩, (S.r * T.q)⟩] : List PE).flatMap PR.cells) tbOk (by kernel_rfl) (fun b36 => ?_)
  refine W.cl [] (by kernel_rfl) (r_sumB b36 ([⟨⟨S32, s32, R32, t32⟩, (S.p * T.s)⟩, ⟨⟨S33, s33, R33, t33⟩, (S.s * T.p)⟩, ⟨⟨S34, s34, R34, t34⟩, (S.q * T.r)⟩, ⟨⟨S35, s35, R35, t35⟩, (S.r * T.q)⟩] : List PE) 4 (K := L + M) rfl (by omega) (fun I w hd hh e he => by
      simp only [List.mem_cons, List.not_mem_nil, or_false] at he
      rcases he with rfl | rfl | rfl | rfl <;> exact PF.up2 (Has.p inferInstance hh) (by omega)) (by omega)) ?_
  rintro _ _ ⟨S37, s37, R37, t37, rfl, rfl⟩
  exact W.r [] (tv ⟨Y3.d, Y3.u, Y3.e, Y3.v, ⟨S13, s13, R13, t13⟩, ⟨S22, s22, R22, t22⟩, ⟨S31, s31, R31, t31⟩, ⟨S37, s37, R37, t37⟩⟩) (by kernel_rfl) ⟨_, rfl, rfl⟩ (entTz (p := ⟨S13, s13, R13, t13⟩) (q := ⟨S22, s22, R22, t22⟩) (r := ⟨S31, s31, R31, t31⟩) (s := ⟨S37, s37, R37, t37⟩) (by rfl) (by rfl) (by simp only [psum, List.map_cons, List.map_nil, List.foldl_cons, List.foldl_nil, Sn.mul]; grind) (by simp only [psum, List.map_cons, List.map_nil, List.foldl_cons, List.foldl_nil, Sn.mul]; grind) (by simp only [psum, List.map_cons, List.map_nil, List.foldl_cons, List.foldl_nil, Sn.mul]; grind) (by simp only [psum, List.map_cons, List.map_nil, List.foldl_cons, List.foldl_nil, Sn.mul]; grind) (by omega))
theorem s_frac (a b : Int) (hb : 0 < b) (h1 : -9223372036854775808 ≤ a) (h2 : a < 9223372036854775808) (h3 : b < 9223372036854775808) :
    PCalls tb Tryz.prog 25 [.int .i64 a, .int .i64 b] Γ (PPost 6 (Rat.divInt a b)) := by
  refine PCalls.of_W tbOk Tryz.func25 rfl (by kernel_rfl) ?_
  refine W.cl [] (by kernel_rfl) (p_yof a (by omega) (by omega)) ?_
  rintro _ _ ⟨S1, t1, rfl, rfl⟩   -- a
  refine W.cl [] (by kernel_rfl) (p_yof b (by omega) (by omega)) ?_
  rintro _ _ ⟨S2, t2, rfl, rfl⟩   -- b
  exact W.r [] (pv S1 t1 S2 t2) (by kernel_rfl) ⟨_, _, _, _, rfl, rfl⟩ (entYP (by omega) (by omega) hb rfl)
end
end Go.Proofs.YtaafmafdnnjmdaaGreat
