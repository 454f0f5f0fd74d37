/- The reference's quotients by bits: how great numerator and denominator may be before they are reduced; its numbers of root 2's field, its turns. Printed by gen_th.py. -/
import Derived.Test.YtlpfkbkpnljieaaGreatOq
set_option linter.unusedSimpArgs false
set_option linter.unusedVariables false
namespace Go.Proofs.YtlpfkbkpnljieaaGreat
open Go.RowKit Go.IntWalk

def PB (S : Int) (s : Sl) (R : Int) (t : Sl) (a : Nat × Rat) : Fact where
  p I w := ∃ n d : Int, (YF S s (a.1 / 13 + 1, n)).p I w ∧ (YF R t (a.1 / 13 + 1, d)).p I w ∧ 0 < d ∧ a.2 = Rat.divInt n d ∧ n.natAbs ≤ 2 ^ a.1 ∧ d.natAbs ≤ 2 ^ a.1
  up := by
    rintro I I' w w' ⟨n, d, h, h', hd, hq⟩ h1 h2 h3
    exact ⟨n, d, (YF S s _).up h h1 h2 h3, (YF R t _).up h' h1 h2 h3, hd, hq⟩
def BPost (b : Nat) (q : Rat) (v : Value) (Δ : List Fact) : Prop := ∃ (S : Int) (s : Sl) (R : Int) (t : Sl), v = pv S s R t ∧ Δ = [PB S s R t (b, q)]
abbrev PBG (x : Pw) : Nat × Rat → Fact := PB x.n x.a x.m x.b

theorem YF.tgt {S : Int} {s : Sl} {L b : Nat} {x : Int} {I : Blk} {w : World} (h : (YF S s (L, x)).p I w) (hx : x.natAbs ≤ 2 ^ b) : (YF S s (b / 13 + 1, x)).p I w := by
  obtain ⟨⟨⟨l, hi, hd, hn, hv⟩, h2, h3⟩, h4⟩ := h
  refine ⟨⟨⟨l, hi, hd, hn, hv⟩, h2, ?_⟩, h4⟩
  have hlt : x.natAbs < 10000 ^ (b / 13 + 1) := by
    have e1 : 2 ^ b < 2 ^ (13 * (b / 13 + 1)) := Nat.pow_lt_pow_right (by omega) (by omega)
    have e2 : 2 ^ (13 * (b / 13 + 1)) = (2 ^ 13) ^ (b / 13 + 1) := Nat.pow_mul 2 13 _
    have e3 : (2 ^ 13) ^ (b / 13 + 1) ≤ 10000 ^ (b / 13 + 1) := Nat.pow_le_pow_left (by decide) _
    omega
  have := hn.len_of_lt (B := 10000) (k := b / 13 + 1) (by decide) (by rw [hv]; exact hlt)
  have := hi.1
  simp only
  omega
theorem two_le {b c : Nat} (h : b ≤ c) : 2 ^ b ≤ 2 ^ c := Nat.pow_le_pow_right (by decide) h
theorem one_two (b : Nat) : (1 : Int).natAbs ≤ 2 ^ b := Nat.one_le_two_pow
theorem nat_mul2 {n m : Int} {b c k : Nat} (h : n.natAbs ≤ 2 ^ b) (g : m.natAbs ≤ 2 ^ c) (hk : b + c ≤ k) : (n * m).natAbs ≤ 2 ^ k := by
  rw [Int.natAbs_mul]
  exact Nat.le_trans (Nat.le_trans (Nat.mul_le_mul h g) (Nat.le_of_eq (Nat.pow_add 2 b c).symm)) (two_le hk)
theorem nat_add2 {n m : Int} {k : Nat} (h : n.natAbs ≤ 2 ^ k) (g : m.natAbs ≤ 2 ^ k) : (n + m).natAbs ≤ 2 ^ (k + 1) := by
  have := Int.natAbs_add_le n m
  rw [Nat.pow_succ]
  omega
theorem PB.up2 {n m : Int} {a b : Sl} {L L' : Nat} {q : Rat} {I : Blk} {w : World} (h : (PB n a m b (L, q)).p I w) (hL : L ≤ L') : (PB n a m b (L', q)).p I w := by
  obtain ⟨x, y, h1, h2, hy, hq, k1, k2⟩ := h
  have k1' := Nat.le_trans k1 (two_le hL)
  have k2' := Nat.le_trans k2 (two_le hL)
  exact ⟨x, y, YF.tgt h1 k1', YF.tgt h2 k2', hy, hq, k1', k2'⟩

section
variable {fin : VS → List Fact → Prop} {Γ : List Fact} {L M b c : Nat}

theorem W.pb {P : Program} {cf : Cfg} (S : Int) (s : Sl) (R : Int) (t : Sl) {q : Rat} [h : Has (PB S s R t) (b, q) Γ] (hm : midOps cf.k = false)
    (hk : ∀ n d : Int, 0 < d → q = Rat.divInt n d → S = n.sign → n.natAbs ≤ 2 ^ b → d.natAbs ≤ 2 ^ b → W tb P fin cf (YF S s (b / 13 + 1, n) :: YF R t (b / 13 + 1, d) :: Γ)) : W tb P fin cf Γ :=
  W.elim (α := Int × Int) (fun y => 0 < y.2 ∧ q = Rat.divInt y.1 y.2 ∧ S = y.1.sign ∧ y.1.natAbs ≤ 2 ^ b ∧ y.2.natAbs ≤ 2 ^ b) (fun y => [YF S s (b / 13 + 1, y.1), YF R t (b / 13 + 1, y.2)]) hm (fun I w _ hh => by
    obtain ⟨n, d, h1, h2, h3, h4, h5, h6⟩ := h.p hh
    exact ⟨(n, d), ⟨h3, h4, h1.2, h5, h6⟩, Holds.cons h1 (holds1 h2)⟩) (fun y hy => hk y.1 y.2 hy.1 hy.2.1 hy.2.2.1 hy.2.2.2.1 hy.2.2.2.2)
theorem entB {S R : Int} {s t : Sl} {L' : Nat} {q q' : Rat} [h : Has (PB S s R t) (b, q) Γ] (hL : b ≤ L') (hq : q = q') : ∀ (I : Blk) (w : World), DataOK tb I w → Holds Γ I w → Holds [PB S s R t (L', q')] I w := fun I w _ hh => by
  subst hq
  exact holds1 (PB.up2 (h.p hh) hL)
theorem entYB {S R : Int} {s t : Sl} {k : Nat} {n d : Int} {q : Rat} [h : Has (YF S s) (L, n) Γ] [h' : Has (YF R t) (M, d) Γ] (hn : n.natAbs ≤ 2 ^ k) (hd2 : d.natAbs ≤ 2 ^ k) (hd : 0 < d) (hq : q = Rat.divInt n d) : ∀ (I : Blk) (w : World), DataOK tb I w → Holds Γ I w → Holds [PB S s R t (k, q)] I w := fun I w _ hh =>
  holds1 ⟨n, d, YF.tgt (h.p hh) hn, YF.tgt (h'.p hh) hd2, hd, hq, hn, hd2⟩

theorem u_make (S : Int) (s : Sl) (R : Int) (t : Sl) {x y : Int} {k : Nat} [hn : Has (YF S s) (L, x) Γ] [hd : Has (YF R t) (M, y) Γ] (hy : y ≠ 0) (hx2 : x.natAbs ≤ 2 ^ k) (hy2 : y.natAbs ≤ 2 ^ k) :
    PCalls tb Tryz.prog 53 [yv S s, yv R t] Γ (BPost k (Rat.divInt x y)) := by
  refine PCalls.of_W tbOk Tryz.func53 rfl (by kernel_rfl) ?_
  refine W.know (R = y.sign) rfl (fun I w _ hh => (hd.p hh).2) (fun hR => ?_)
  by_cases h0 : y < 0
  · refine W.dt [] 7 (decide (R < 0)) (by kernel_rfl) (by rw [decide_eq_true_iff, hR, sign_lt]; exact h0) ?_
    refine W.cl [7] (by kernel_rfl) (p_yneg S s) ?_
    rintro _ _ ⟨S1, t1, rfl, rfl⟩
    refine W.cl [] (by kernel_rfl) (p_yneg R t) ?_
    rintro _ _ ⟨S2, t2, rfl, rfl⟩
    exact W.r [] (pv S1 t1 S2 t2) (by kernel_rfl) ⟨_, _, _, _, rfl, rfl⟩ (entYB (by rw [Int.natAbs_neg]; exact hx2) (by rw [Int.natAbs_neg]; exact hy2) (by omega) (by rw [Rat.divInt_eq_divInt_iff hy (by omega)]; grind))
  · refine W.df [] 7 (decide (R < 0)) (by kernel_rfl) (by rw [decide_eq_false_iff_not, hR, sign_lt]; exact h0) ?_
    exact W.r [7] (pv S s R t) (by kernel_rfl) ⟨_, _, _, _, rfl, rfl⟩ (entYB hx2 hy2 (by omega) rfl)
theorem u_of (a : Int) (k : Nat) (hk : a.natAbs ≤ 2 ^ k) (h1 : -9223372036854775808 ≤ a) (h2 : a < 9223372036854775808) :
    PCalls tb Tryz.prog 5 [.int .i64 a] Γ (BPost k (a : Rat)) := by
  refine PCalls.of_W tbOk Tryz.func5 rfl (by kernel_rfl) ?_
  refine W.cl [] (by kernel_rfl) (p_yof a h1 h2) ?_
  rintro _ _ ⟨S1, t1, rfl, rfl⟩
  refine W.cl [] (by kernel_rfl) (p_yof 1 (by omega) (by omega)) ?_
  rintro _ _ ⟨S2, t2, rfl, rfl⟩
  exact W.r [] (pv S1 t1 S2 t2) (by kernel_rfl) ⟨_, _, _, _, rfl, rfl⟩ (entYB hk (one_two k) (by omega) (q_divInt1 a).symm)
theorem u_frac (a d : Int) (k : Nat) (hk : a.natAbs ≤ 2 ^ k) (hk2 : d.natAbs ≤ 2 ^ k) (hb : 0 < d) (h1 : -9223372036854775808 ≤ a) (h2 : a < 9223372036854775808) (h3 : d < 9223372036854775808) :
    PCalls tb Tryz.prog 42 [.int .i64 a, .int .i64 d] Γ (BPost k (Rat.divInt a d)) := by
  refine PCalls.of_W tbOk Tryz.func42 rfl (by kernel_rfl) ?_
  refine W.cl [] (by kernel_rfl) (p_yof a (by omega) (by omega)) ?_
  rintro _ _ ⟨S1, t1, rfl, rfl⟩   -- a
  refine W.cl [] (by kernel_rfl) (p_yof d (by omega) (by omega)) ?_
  rintro _ _ ⟨S2, t2, rfl, rfl⟩   -- b
  exact W.r [] (pv S1 t1 S2 t2) (by kernel_rfl) ⟨_, _, _, _, rfl, rfl⟩ (entYB hk hk2 hb rfl)
theorem u_neg (S : Int) (s : Sl) (R : Int) (t : Sl) {q : Rat} [h : Has (PB S s R t) (b, q) Γ] :
    PCalls tb Tryz.prog 43 [pv S s R t] Γ (BPost b (-q)) := by
  refine PCalls.of_W tbOk Tryz.func43 rfl (by kernel_rfl) ?_
  refine W.pb S s R t rfl ?_
  intro n d hd hq _ k1 k2
  refine W.cl [] (by kernel_rfl) (p_yneg S s) ?_
  rintro _ _ ⟨S1, t1, rfl, rfl⟩
  exact W.r [] (pv S1 t1 R t) (by kernel_rfl) ⟨_, _, _, _, rfl, rfl⟩ (entYB (by rw [Int.natAbs_neg]; exact k1) k2 hd (by rw [hq, Rat.neg_divInt]))
theorem u_mul (S : Int) (s : Sl) (R : Int) (t : Sl) (S' : Int) (s' : Sl) (R' : Int) (t' : Sl) {x y : Rat} [h : Has (PB S s R t) (b, x) Γ] [h' : Has (PB S' s' R' t') (c, y) Γ] (hL : b + c ≤ 100000000000000 := by omega) :
    PCalls tb Tryz.prog 41 [pv S s R t, pv S' s' R' t'] Γ (BPost (b + c) (x * y)) := by
  refine PCalls.of_W tbOk Tryz.func41 rfl (by kernel_rfl) ?_
  refine W.pb S s R t rfl ?_
  intro n d hd hq _ k1 k2
  refine W.pb S' s' R' t' rfl ?_
  intro m e he hq' _ k3 k4
  refine W.cl [] (by kernel_rfl) (p_ymul S s S' s') ?_
  rintro _ _ ⟨S1, t1, rfl, rfl⟩
  refine W.cl [] (by kernel_rfl) (p_ymul R t R' t') ?_
  rintro _ _ ⟨S2, t2, rfl, rfl⟩
  exact W.r [] (pv S1 t1 S2 t2) (by kernel_rfl) ⟨_, _, _, _, rfl, rfl⟩ (entYB (nat_mul2 k1 k3 (Nat.le_refl _)) (nat_mul2 k2 k4 (Nat.le_refl _)) (Int.mul_pos hd he) (by rw [hq, hq', Rat.divInt_mul_divInt]))
theorem u_add (S : Int) (s : Sl) (R : Int) (t : Sl) (S' : Int) (s' : Sl) (R' : Int) (t' : Sl) {x y : Rat} [h : Has (PB S s R t) (b, x) Γ] [h' : Has (PB S' s' R' t') (c, y) Γ] (hL : b + c ≤ 100000000000000 := by omega) :
    PCalls tb Tryz.prog 75 [pv S s R t, pv S' s' R' t'] Γ (BPost (b + c + 1) (x + y)) := by
  refine PCalls.of_W tbOk Tryz.func75 rfl (by kernel_rfl) ?_
  refine W.pb S s R t rfl ?_
  intro n d hd hq _ k1 k2
  refine W.pb S' s' R' t' rfl ?_
  intro m e he hq' _ k3 k4
  refine W.cl [] (by kernel_rfl) (p_ycmp R t R' t') ?_
  rintro _ _ ⟨rfl, rfl⟩
  have hsum : x + y = Rat.divInt (n * e + m * d) (d * e) := by rw [hq, hq', Rat.divInt_add_divInt _ _ (by omega) (by omega)]
  by_cases hde : d = e
  · subst hde
    refine W.dt [] 10 ((cmpZ d d) == 0) (by kernel_rfl) (by rw [beq_iff_eq, cmpZ_eq]) ?_
    refine W.cl [10] (by kernel_rfl) (p_yadd S s S' s') ?_
    rintro _ _ ⟨S2, t2, rfl, rfl⟩
    exact W.r [] (pv S2 t2 R t) (by kernel_rfl) ⟨_, _, _, _, rfl, rfl⟩ (entYB (nat_add2 (k := b + c) (Nat.le_trans k1 (two_le (by omega))) (Nat.le_trans k3 (two_le (by omega)))) (Nat.le_trans k2 (two_le (by omega))) hd (by rw [hsum, Rat.divInt_eq_divInt_iff (Int.mul_ne_zero (by omega) (by omega)) (by omega)]; grind))
  · refine W.df [] 10 ((cmpZ d e) == 0) (by kernel_rfl) (by rw [beq_eq_false_iff_ne, ne_eq, cmpZ_eq]; exact hde) ?_
    refine W.cl [10] (by kernel_rfl) (p_ymul S s R' t') ?_
    rintro _ _ ⟨S3, t3, rfl, rfl⟩
    refine W.cl [] (by kernel_rfl) (p_ymul S' s' R t) ?_
    rintro _ _ ⟨S4, t4, rfl, rfl⟩
    refine W.cl [] (by kernel_rfl) (p_yadd S3 t3 S4 t4) ?_
    rintro _ _ ⟨S5, t5, rfl, rfl⟩
    refine W.cl [] (by kernel_rfl) (p_ymul R t R' t') ?_
    rintro _ _ ⟨S6, t6, rfl, rfl⟩
    exact W.r [] (pv S5 t5 S6 t6) (by kernel_rfl) ⟨_, _, _, _, rfl, rfl⟩ (entYB (nat_add2 (k := b + c) (nat_mul2 k1 k4 (Nat.le_refl _)) (nat_mul2 k3 k2 (by omega))) (Nat.le_trans (nat_mul2 k2 k4 (Nat.le_refl _)) (two_le (by omega))) (Int.mul_pos hd he) hsum)
theorem u_gcd (S : Int) (s : Sl) (R : Int) (t : Sl) {x y : Int} [h : Has (YF S s) (L, x) Γ] [h' : Has (YF R t) (M, y) Γ] (hL : L ≤ 7900000000000 := by omega) (hM : M ≤ 7900000000000 := by omega) :
    PCalls tb Tryz.prog 113 [mv s, mv t] Γ (RPost (max L M) (Nat.gcd x.natAbs y.natAbs)) :=
  (r_gcd (Γ := RF s (L, x.natAbs) :: RF t (M, y.natAbs) :: Γ) s t).weak (fun I w _ hh => Holds.cons (h.p hh).1 (Holds.cons (h'.p hh).1 hh)) (fun _ _ h => h)
theorem u_divYR (S : Int) (s t : Sl) {x : Int} {y : Nat} [h : Has (YF S s) (L, x) Γ] [h' : Has (RF t) (M, y) Γ] (hy : 0 < y) (hL : L ≤ 7900000000000 := by omega) (hM : M ≤ 7900000000000 := by omega) :
    PCalls tb Tryz.prog 114 [mv s, mv t] Γ (fun v Δ => ∃ u t : Sl, v = .tuple #[mv u, mv t] ∧ Δ = [RF u (L, x.natAbs / y), RF t (min L M, x.natAbs % y)]) :=
  (r_div (Γ := RF s (L, x.natAbs) :: Γ) s t hy).weak (fun I w _ hh => Holds.cons (h.p hh).1 hh) (fun _ _ h => h)
theorem u_lowest (S : Int) (s : Sl) (R : Int) (t : Sl) {q : Rat} {k : Nat} [h : Has (PB S s R t) (b, q) Γ] (hk : bq k q) (hL : b ≤ 100000000000000 := by omega) :
    PCalls tb Tryz.prog 99 [pv S s R t] Γ (fun v Δ => ∃ (S : Int) (t : Sl) (R : Int) (r : Sl), v = .tuple #[yv S t, yv R r] ∧ Δ = [YF S t (k / 13 + 1, q.num), YF R r (k / 13 + 1, (q.den : Int))]) := by
  refine PCalls.of_W tbOk Tryz.func99 rfl (by kernel_rfl) ?_
  refine W.pb S s R t rfl ?_
  intro n d hd hq hS _ _
  have hgp : 0 < Nat.gcd n.natAbs d.natAbs := Nat.gcd_pos_of_pos_right _ (by omega)
  have d1 : ((Nat.gcd n.natAbs d.natAbs : Nat) : Int) ∣ n := Int.ofNat_dvd_left.2 (Nat.gcd_dvd_left _ _)
  have d2 : ((Nat.gcd n.natAbs d.natAbs : Nat) : Int) ∣ d := Int.ofNat_dvd_left.2 (Nat.gcd_dvd_right _ _)
  obtain ⟨l1, l2⟩ := low_pos (x := n) (y := d) hd
  rw [← hq] at l1 l2
  have c1 := natAbs_div d1 hgp
  have c2 := natAbs_div d2 hgp
  have sg := sign_of hd hq
  have hqd := den_pos' q
  refine W.cl [] (by kernel_rfl) (u_gcd S s R t) ?_
  rintro _ _ ⟨u1, rfl, rfl⟩
  generalize Nat.gcd n.natAbs d.natAbs = g at *
  refine W.cl [] (by kernel_rfl) (u_divYR S s u1 hgp) ?_
  rintro _ _ ⟨u2, v2, rfl, rfl⟩
  refine W.cl [] (by kernel_rfl) (u_divYR R t u1 hgp) ?_
  rintro _ _ ⟨u3, v3, rfl, rfl⟩
  refine W.cl [] (by kernel_rfl) (p_ymade S q.num u2 ⟨by rw [l1]; exact c1, fun _ => by rw [hS, sg]⟩) ?_
  rintro _ _ ⟨S4, t4, rfl, rfl⟩
  refine W.cl [] (by kernel_rfl) (p_ymade 1 (q.den : Int) u3 ⟨by rw [l2]; exact c2, fun _ => by rw [Int.sign_eq_one_of_pos hqd]⟩) ?_
  rintro _ _ ⟨S5, t5, rfl, rfl⟩
  exact W.r [] (.tuple #[yv S4 t4, yv S5 t5]) (by kernel_rfl) ⟨_, _, _, _, rfl, rfl⟩ (fun I w hd hh => Holds.cons (YF.tgt (Has.p (k := YF S4 t4) inferInstance hh) (Nat.le_of_lt hk.1)) (holds1 (YF.tgt (Has.p (k := YF S5 t5) inferInstance hh) (Nat.le_of_lt hk.2))))

theorem u_text (S : Int) (s : Sl) (R : Int) (t : Sl) {q : Rat} {k : Nat} [h : Has (PB S s R t) (b, q) Γ] (hk : bq k q) (hk2 : k ≤ 1000000) (hL : b ≤ 100000000000000 := by omega) :
    PCalls tb Tryz.prog 71 [pv S s R t] Γ (IsV (.string (qtxt q))) := by
  refine PCalls.of_W tbOk Tryz.func71 rfl (by kernel_rfl) ?_
  refine W.cl [] (by kernel_rfl) (u_lowest S s R t hk) ?_
  rintro _ _ ⟨S1, s1, R1, r1, rfl, rfl⟩
  refine W.cl [] (by kernel_rfl) (p_ytext S1 s1) ?_
  rintro _ _ ⟨rfl, rfl⟩
  refine W.cl [] (by kernel_rfl) (p_yof 1 (by omega) (by omega)) ?_
  rintro _ _ ⟨S3, t3, rfl, rfl⟩
  refine W.cl [] (by kernel_rfl) (p_ycmp R1 r1 S3 t3) ?_
  rintro _ _ ⟨rfl, rfl⟩
  by_cases h1 : q.den = 1
  · refine W.df [] 16 ((cmpZ (q.den : Int) 1) != 0) (by kernel_rfl) (by rw [h1]; rfl) ?_
    exact W.r [16] (.string (ztxt q.num)) (by kernel_rfl) ⟨by unfold qtxt; rw [if_pos h1], rfl⟩ ent0
  · have hne : cmpZ (q.den : Int) 1 ≠ 0 := fun h => h1 (by have := cmpZ_eq.1 h; omega)
    refine W.dt [] 16 ((cmpZ (q.den : Int) 1) != 0) (by kernel_rfl) (by simpa using hne) ?_
    refine W.ysz S1 s1 (by kernel_rfl) (fun s1' => ?_)
    refine W.ysz R1 r1 (by kernel_rfl) (fun s2' => ?_)
    refine W.cat [16] (ztxt q.num) ⟨#[47]⟩ (by kernel_rfl) (by show _ + 1 ≤ _; omega) ?_
    refine W.cl [] (by kernel_rfl) (p_ytext R1 r1) ?_
    rintro _ _ ⟨rfl, rfl⟩
    refine W.cat [] (ztxt q.num ++ ⟨#[47]⟩) (ztxt q.den) (by kernel_rfl) (by rw [ByteArray.size_append]; show _ + 1 + _ ≤ _; omega) ?_
    exact W.r [] (.string (ztxt q.num ++ ⟨#[47]⟩ ++ ztxt q.den)) (by kernel_rfl) ⟨by unfold qtxt; rw [if_neg h1], rfl⟩ ent0

def BPar (s : ByteArray) (v : Value) (Δ : List Fact) : Prop := ∃ (S : Int) (n : Sl) (R : Int) (t : Sl), v = .tuple #[pv S n R t, .int .i64 (qerr s)] ∧ Δ = [PB S n R t (100, qval s)]
theorem pow30 {m : Nat} (h : m ≤ 30) : 10 ^ m ≤ 2 ^ 100 := Nat.le_trans (Nat.pow_le_pow_right (by decide) h) (by decide +kernel)
theorem zv30 {s : ByteArray} (h : s.size ≤ 30) : (zval s).natAbs ≤ 2 ^ 100 := Nat.le_trans (Nat.le_of_lt (zval_lt s)) (pow30 h)
theorem pv30 {s : ByteArray} (h : s.size ≤ 30) : ((pval s : Nat) : Int).natAbs ≤ 2 ^ 100 := Nat.le_trans (Nat.le_of_lt (pval_lt s)) (pow30 h)

set_option maxHeartbeats 1000000 in
theorem u_parse (s : ByteArray) (hs : s.size ≤ 30) : PCalls tb Tryz.prog 21 [.string s] Γ (BPar s) := by
  have hos := over_size s
  have hus := under_size s
  refine PCalls.of_W tbOk Tryz.func21 rfl (by kernel_rfl) ?_
  refine W.lp [] [4, 5] (fun a : Int × Int × Nat => [(4, .int .i64 a.1), (5, .int .i64 a.2.1)]) (fun _ => []) (fun _ => []) (fun a => a.1 = sat s a.2.2 ∧ a.2.1 = (a.2.2 : Int) - 1 ∧ a.2.2 ≤ s.size) (fun a => a.2.2) (-1, IntKind.i64.wrap ((s.size : Int) - 1), s.size) (by kernel_rfl) (by kernel_rfl) ⟨(sat_end s).symm, i64_in _ (by omega), Nat.le_refl _⟩ ent0 ?_
  rintro ⟨a1, a2, j⟩ R ⟨h1, h2, h3⟩ close
  simp only at h1 h2 h3
  subst h1
  subst h2
  by_cases hj : 0 < j
  · obtain ⟨k, rfl⟩ : ∃ k, j = k + 1 := ⟨j - 1, by omega⟩
    refine W.dt [] 14 (decide (((k + 1 : Nat) : Int) - 1 ≥ 0)) (by kernel_rfl) (by rw [decide_eq_true_iff]; omega) ?_
    refine W.idx [14] s .i64 k (((k + 1 : Nat) : Int) - 1) (by omega) tbOk (by kernel_rfl) (by omega) ?_
    have hst := sat_step (s := s) (j := k) (by omega)
    refine W.d [] 20 ((((s[k]'(by omega)).toNat : Nat) : Int) == 47) (by kernel_rfl) (fun hb => ?_) (fun hb => ?_)
    · have hb := eq_of_beq hb
      refine close [20] _ _ (((k + 1 : Nat) : Int) - 1, IntKind.i64.wrap (((k + 1 : Nat) : Int) - 1 - 1), k) (by kernel_rfl) (by kernel_rfl) ⟨by rw [hst, if_pos hb]; simp only; omega, by simp only; rw [i64_in _ (by omega)]; omega, by simp only; omega⟩ (by simp only; omega) ent0
    · have hb := ne_of_beq_false hb
      refine close [20] _ _ (sat s (k + 1), IntKind.i64.wrap (((k + 1 : Nat) : Int) - 1 - 1), k) (by kernel_rfl) (by kernel_rfl) ⟨by rw [hst, if_neg hb], by simp only; rw [i64_in _ (by omega)]; omega, by simp only; omega⟩ (by simp only; omega) ent0
  · obtain rfl : j = 0 := by omega
    refine W.df [] 14 (decide (((0 : Nat) : Int) - 1 ≥ 0)) (by kernel_rfl) rfl ?_
    rw [sat_zero]
    by_cases h : sidx s < s.size
    · rw [if_pos h]
      refine W.dt [14] 24 (decide ((sidx s : Int) ≥ 0)) (by kernel_rfl) (by rw [decide_eq_true_iff]; omega) ?_
      refine W.sub' [24] s none (some (.int .i64 (sidx s : Int))) 0 (sidx s) tbOk (by kernel_rfl) (.inr ⟨rfl, rfl⟩) (.inl rfl) (by omega) (by omega) ?_
      refine W.cl [] (by kernel_rfl) (p_yparse (over s) (by omega)) ?_
      rintro _ _ ⟨S4, u4, rfl, rfl⟩
      by_cases he : zerr (over s) = 0
      · rw [he]
        refine W.df [] 34 ((0 : Int) != 0) (by kernel_rfl) rfl ?_
        refine W.df [34] 38 (decide ((sidx s : Int) < 0)) (by kernel_rfl) (by rw [decide_eq_false_iff_not]; omega) ?_
        refine W.sub' [38] s (some (.int .i64 (IntKind.i64.wrap ((sidx s : Int) + 1)))) none (sidx s + 1) s.size tbOk (by kernel_rfl) (.inl ?_) (.inr ⟨rfl, rfl⟩) (by omega) (by omega) ?_
        · rw [i64_in _ (by omega)]
          rfl
        refine W.cl [] (by kernel_rfl) (r_parse (under s) (by omega)) ?_
        rintro _ _ ⟨v, rfl, rfl⟩
        by_cases hp : perr (under s) = 0
        · rw [hp]
          refine W.df [] 51 ((0 : Int) != 0) (by kernel_rfl) rfl ?_
          refine W.rz v (by kernel_rfl) (fun hv => ?_)
          by_cases hz : pval (under s) = 0
          · have e1 : qerr s = 5 := by unfold qerr; rw [if_neg (by rw [he]; decide), if_pos h, if_neg (by rw [hp]; decide), if_pos hz]
            have e2 : qval s = 0 := by unfold qval; rw [e1, if_pos (by decide)]
            refine W.dt [51] 57 (((v.n : Nat) : Int) == 0) (by kernel_rfl) (by rw [hv.1 hz]; rfl) ?_
            refine W.cl [57] (by kernel_rfl) (u_of 0 100 (Nat.zero_le _) (by omega) (by omega)) ?_
            rintro _ _ ⟨S11, s11, R11, t11, rfl, rfl⟩
            exact W.r [] (.tuple #[pv S11 s11 R11 t11, .int .i64 5]) (by kernel_rfl) ⟨S11, s11, R11, t11, by rw [e1], rfl⟩ (entB (Nat.le_refl _) (by rw [e2]; rfl))
          · have e1 : qerr s = 0 := by unfold qerr; rw [if_neg (by rw [he]; decide), if_pos h, if_neg (by rw [hp]; decide), if_neg hz]
            have e2 : qval s = Rat.divInt (zval (over s)) (pval (under s)) := by unfold qval; rw [e1, if_neg (by decide), if_pos h]
            refine W.df [51] 57 (((v.n : Nat) : Int) == 0) (by kernel_rfl) (by rw [beq_eq_false_iff_ne]; intro h0; exact hz (hv.2 (by omega))) ?_
            refine W.cl [57] (by kernel_rfl) (p_ymade 1 (pval (under s) : Int) v ⟨by omega, fun _ => (Int.sign_eq_one_of_pos (by omega)).symm⟩) ?_
            rintro _ _ ⟨S12, u12, rfl, rfl⟩
            refine W.cl [] (by kernel_rfl) (u_make (k := 100) S4 u4 S12 u12 (by omega) (zv30 (by omega)) (pv30 (by omega))) ?_
            rintro _ _ ⟨S13, s13, R13, t13, rfl, rfl⟩
            exact W.r [] (.tuple #[pv S13 s13 R13 t13, .int .i64 0]) (by kernel_rfl) ⟨S13, s13, R13, t13, by rw [e1], rfl⟩ (entB (Nat.le_refl _) e2.symm)
        · have e1 : qerr s = perr (under s) := by unfold qerr; rw [if_neg (by rw [he]; decide), if_pos h, if_pos hp]
          have e2 : qval s = 0 := by unfold qval; rw [e1, if_pos hp]
          refine W.dt [] 51 (perr (under s) != 0) (by kernel_rfl) (by simpa using hp) ?_
          refine W.cl [51] (by kernel_rfl) (u_of 0 100 (Nat.zero_le _) (by omega) (by omega)) ?_
          rintro _ _ ⟨S10, s10, R10, t10, rfl, rfl⟩
          exact W.r [] (.tuple #[pv S10 s10 R10 t10, .int .i64 (perr (under s))]) (by kernel_rfl) ⟨S10, s10, R10, t10, by rw [e1], rfl⟩ (entB (Nat.le_refl _) (by rw [e2]; rfl))
      · have e1 : qerr s = zerr (over s) := by unfold qerr; rw [if_pos he]
        have e2 : qval s = 0 := by unfold qval; rw [e1, if_pos he]
        refine W.dt [] 34 (zerr (over s) != 0) (by kernel_rfl) (by simpa using he) ?_
        refine W.cl [34] (by kernel_rfl) (u_of 0 100 (Nat.zero_le _) (by omega) (by omega)) ?_
        rintro _ _ ⟨S5, s5, R5, t5, rfl, rfl⟩
        exact W.r [] (.tuple #[pv S5 s5 R5 t5, .int .i64 (zerr (over s))]) (by kernel_rfl) ⟨S5, s5, R5, t5, by rw [e1], rfl⟩ (entB (Nat.le_refl _) (by rw [e2]; rfl))
    · rw [if_neg h]
      refine W.df [14] 24 (decide ((-1 : Int) ≥ 0)) (by kernel_rfl) rfl ?_
      refine W.cl [24] (by kernel_rfl) (p_yparse s (by omega)) ?_
      rintro _ _ ⟨S14, u14, rfl, rfl⟩
      have ho := over_all h
      by_cases he : zerr s = 0
      · have e1 : qerr s = 0 := by unfold qerr; rw [ho, if_neg (by rw [he]; decide), if_neg h]
        have e2 : qval s = (zval s : Rat) := by unfold qval; rw [e1, ho, if_neg (by decide), if_neg h]
        rw [he]
        refine W.df [] 34 ((0 : Int) != 0) (by kernel_rfl) rfl ?_
        refine W.dt [34] 38 (decide ((-1 : Int) < 0)) (by kernel_rfl) rfl ?_
        refine W.cl [38] (by kernel_rfl) (p_yof 1 (by omega) (by omega)) ?_
        rintro _ _ ⟨S16, t16, rfl, rfl⟩
        refine W.cl [] (by kernel_rfl) (u_make (k := 100) S14 u14 S16 t16 (by omega) (zv30 hs) (one_two _)) ?_
        rintro _ _ ⟨S17, s17, R17, t17, rfl, rfl⟩
        exact W.r [] (.tuple #[pv S17 s17 R17 t17, .int .i64 0]) (by kernel_rfl) ⟨S17, s17, R17, t17, by rw [e1], rfl⟩ (entB (Nat.le_refl _) (by rw [e2, q_divInt1]))
      · have e1 : qerr s = zerr s := by unfold qerr; rw [ho, if_pos he]
        have e2 : qval s = 0 := by unfold qval; rw [e1, if_pos he]
        refine W.dt [] 34 (zerr s != 0) (by kernel_rfl) (by simpa using he) ?_
        refine W.cl [34] (by kernel_rfl) (u_of 0 100 (Nat.zero_le _) (by omega) (by omega)) ?_
        rintro _ _ ⟨S15, s15, R15, t15, rfl, rfl⟩
        exact W.r [] (.tuple #[pv S15 s15 R15 t15, .int .i64 (zerr s)]) (by kernel_rfl) ⟨S15, s15, R15, t15, by rw [e1], rfl⟩ (entB (Nat.le_refl _) (by rw [e2]; rfl))

end
end Go.Proofs.YtlpfkbkpnljieaaGreat
