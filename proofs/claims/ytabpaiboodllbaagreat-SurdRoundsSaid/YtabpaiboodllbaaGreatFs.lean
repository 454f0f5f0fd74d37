
/- The contracts of the reference's quotients. -/
import Derived.Test.YtabpaiboodllbaaGreatFq
set_option linter.unusedSimpArgs false
set_option linter.unusedVariables false
namespace Go.Proofs.YtabpaiboodllbaaGreat
open Go.RowKit Go.IntWalk

/-- A quotient of the reference: any two numbers, the second above 0. -/
def PF (S : Int) (s : Sl) (R : Int) (t : Sl) (a : Nat × Rat) : Fact where
  p I w := ∃ n d : Int, (YF S s (a.1, n)).p I w ∧ (YF R t (a.1, d)).p I w ∧ 0 < d ∧ a.2 = Rat.divInt n d
  up := by
    rintro I I' w w' ⟨n, d, h, h', hd, hq⟩ h1 h2 h3
    exact ⟨n, d, (YF S s _).up h h1 h2 h3, (YF R t _).up h' h1 h2 h3, hd, hq⟩
def PPost (L : Nat) (q : Rat) (v : Value) (Δ : List Fact) : Prop := ∃ (S : Int) (s : Sl) (R : Int) (t : Sl), v = pv S s R t ∧ Δ = [PF S s R t (L, q)]

section
variable {fin : VS → List Fact → Prop} {Γ : List Fact} {L M : Nat}

theorem W.pf {P : Program} {c : Cfg} (S : Int) (s : Sl) (R : Int) (t : Sl) {q : Rat} [h : Has (PF S s R t) (L, q) Γ] (hm : midOps c.k = false)
    (hk : ∀ n d : Int, 0 < d → q = Rat.divInt n d → S = n.sign → W tb P fin c (YF S s (L, n) :: YF R t (L, d) :: Γ)) : W tb P fin c Γ :=
  W.elim (α := Int × Int) (fun y => 0 < y.2 ∧ q = Rat.divInt y.1 y.2 ∧ S = y.1.sign) (fun y => [YF S s (L, y.1), YF R t (L, y.2)]) hm (fun I w _ hh => by
    obtain ⟨n, d, h1, h2, h3, h4⟩ := h.p hh
    exact ⟨(n, d), ⟨h3, h4, h1.2⟩, Holds.cons h1 (holds1 h2)⟩) (fun y hy => hk y.1 y.2 hy.1 hy.2.1 hy.2.2)
theorem entP {S R : Int} {s t : Sl} {L' : Nat} {q q' : Rat} [h : Has (PF S s R t) (L, q) Γ] (hL : L ≤ L') (hq : q = q') : ∀ (I : Blk) (w : World), DataOK tb I w → Holds Γ I w → Holds [PF S s R t (L', q')] I w := fun I w _ hh => by
  subst hq
  obtain ⟨n, d, ⟨⟨h1, h2, h3⟩, h4⟩, ⟨⟨g1, g2, g3⟩, g4⟩, hy⟩ := h.p hh
  exact holds1 ⟨n, d, ⟨⟨h1, h2, Nat.le_trans h3 hL⟩, h4⟩, ⟨⟨g1, g2, Nat.le_trans g3 hL⟩, g4⟩, hy⟩
theorem entYP {S R : Int} {s t : Sl} {L' : Nat} {n d : Int} {q : Rat} [h : Has (YF S s) (L, n) Γ] [h' : Has (YF R t) (M, d) Γ] (hL : L ≤ L') (hM : M ≤ L') (hd : 0 < d) (hq : q = Rat.divInt n d) : ∀ (I : Blk) (w : World), DataOK tb I w → Holds Γ I w → Holds [PF S s R t (L', q)] I w := fun I w _ hh => by
  obtain ⟨⟨h1, h2, h3⟩, h4⟩ := h.p hh
  obtain ⟨⟨g1, g2, g3⟩, g4⟩ := h'.p hh
  exact holds1 ⟨n, d, ⟨⟨h1, h2, Nat.le_trans h3 hL⟩, h4⟩, ⟨⟨g1, g2, Nat.le_trans g3 hM⟩, g4⟩, hd, hq⟩

theorem s_make (S : Int) (s : Sl) (R : Int) (t : Sl) {x y : Int} [hn : Has (YF S s) (L, x) Γ] [hd : Has (YF R t) (M, y) Γ] (hy : y ≠ 0) :
    PCalls tb Tryz.prog 120 [yv S s, yv R t] Γ (PPost (max L M) (Rat.divInt x y)) := by
  refine PCalls.of_W tbOk Tryz.func120 rfl (by kernel_rfl) ?_
  refine W.know (R = y.sign) rfl (fun I w _ hh => (hd.p hh).2) (fun hR => ?_)
  by_cases h0 : y < 0
  · refine W.dt [] 7 (decide (R < 0)) (by kernel_rfl) (by rw [decide_eq_true_iff, hR, sign_lt]; exact h0) ?_
    refine W.cl [7] (by kernel_rfl) (p_yneg S s) ?_
    rintro _ _ ⟨S1, t1, rfl, rfl⟩
    refine W.cl [] (by kernel_rfl) (p_yneg R t) ?_
    rintro _ _ ⟨S2, t2, rfl, rfl⟩
    exact W.r [] (pv S1 t1 S2 t2) (by kernel_rfl) ⟨_, _, _, _, rfl, rfl⟩ (entYP (by omega) (by omega) (by omega) (by rw [Rat.divInt_eq_divInt_iff hy (by omega)]; grind))
  · refine W.df [] 7 (decide (R < 0)) (by kernel_rfl) (by rw [decide_eq_false_iff_not, hR, sign_lt]; exact h0) ?_
    exact W.r [7] (pv S s R t) (by kernel_rfl) ⟨_, _, _, _, rfl, rfl⟩ (entYP (by omega) (by omega) (by omega) rfl)
theorem s_of (a : Int) (h1 : -9223372036854775808 ≤ a) (h2 : a < 9223372036854775808) :
    PCalls tb Tryz.prog 42 [.int .i64 a] Γ (PPost 6 (a : Rat)) := by
  refine PCalls.of_W tbOk Tryz.func42 rfl (by kernel_rfl) ?_
  refine W.cl [] (by kernel_rfl) (p_yof a h1 h2) ?_
  rintro _ _ ⟨S1, t1, rfl, rfl⟩
  refine W.cl [] (by kernel_rfl) (p_yof 1 (by omega) (by omega)) ?_
  rintro _ _ ⟨S2, t2, rfl, rfl⟩
  exact W.r [] (pv S1 t1 S2 t2) (by kernel_rfl) ⟨_, _, _, _, rfl, rfl⟩ (entYP (by omega) (by omega) (by omega) (q_divInt1 a).symm)

theorem r_gcdYY (S : Int) (s : Sl) (R : Int) (t : Sl) {x y : Int} [h : Has (YF S s) (L, x) Γ] [h' : Has (YF R t) (M, y) Γ] (hL : L ≤ 1000000 := by omega) (hM : M ≤ 1000000 := by omega) :
    PCalls tb Tryz.prog 170 [mv s, mv t] Γ (RPost (max L M) (Nat.gcd x.natAbs y.natAbs)) :=
  (r_gcd (Γ := RF s (L, x.natAbs) :: RF t (M, y.natAbs) :: Γ) s t).weak (fun I w _ hh => Holds.cons (h.p hh).1 (Holds.cons (h'.p hh).1 hh)) (fun _ _ h => h)
theorem r_divYR (S : Int) (s t : Sl) {x : Int} {y : Nat} [h : Has (YF S s) (L, x) Γ] [h' : Has (RF t) (M, y) Γ] (hy : 0 < y) (hL : L ≤ 1000000 := by omega) (hM : M ≤ 1000000 := by omega) :
    PCalls tb Tryz.prog 136 [mv s, mv t] Γ (fun v Δ => ∃ u t : Sl, v = .tuple #[mv u, mv t] ∧ Δ = [RF u (L, x.natAbs / y), RF t (min L M, x.natAbs % y)]) :=
  (r_div (Γ := RF s (L, x.natAbs) :: Γ) s t hy).weak (fun I w _ hh => Holds.cons (h.p hh).1 hh) (fun _ _ h => h)

theorem natAbs_div {x : Int} {g : Nat} (h : (g : Int) ∣ x) (hg : 0 < g) : (x / (g : Int)).natAbs = x.natAbs / g := by
  obtain ⟨k, rfl⟩ := h
  rw [Int.mul_ediv_cancel_left _ (by omega), Int.natAbs_mul]
  show k.natAbs = g * k.natAbs / g
  rw [Nat.mul_div_cancel_left _ hg]

theorem s_lowest (S : Int) (s : Sl) (R : Int) (t : Sl) {q : Rat} [h : Has (PF S s R t) (L, q) Γ] (hL : L ≤ 1000000 := by omega) :
    PCalls tb Tryz.prog 167 [pv S s R t] Γ (fun v Δ => ∃ (S : Int) (t : Sl) (R : Int) (r : Sl), v = .tuple #[yv S t, yv R r] ∧ Δ = [YF S t (L, q.num), YF R r (L, (q.den : Int))]) := by
  refine PCalls.of_W tbOk Tryz.func167 rfl (by kernel_rfl) ?_
  refine W.pf S s R t rfl ?_
  intro n d hd hq hS
  have hgp : 0 < Nat.gcd n.natAbs d.natAbs := Nat.gcd_pos_of_pos_right _ (by omega)
  have d1 : ((Nat.gcd n.natAbs d.natAbs : Nat) : Int) ∣ n := Int.ofNat_dvd_left.2 (Nat.gcd_dvd_left _ _)
  have d2 : ((Nat.gcd n.natAbs d.natAbs : Nat) : Int) ∣ d := Int.ofNat_dvd_left.2 (Nat.gcd_dvd_right _ _)
  obtain ⟨l1, l2⟩ := low_pos (x := n) (y := d) hd
  rw [← hq] at l1 l2
  have c1 := natAbs_div d1 hgp
  have c2 := natAbs_div d2 hgp
  have sg := sign_of hd hq
  have hqd := den_pos' q
  refine W.cl [] (by kernel_rfl) (r_gcdYY S s R t) ?_
  rintro _ _ ⟨u1, rfl, rfl⟩
  generalize Nat.gcd n.natAbs d.natAbs = g at *
  refine W.cl [] (by kernel_rfl) (r_divYR S s u1 hgp) ?_
  rintro _ _ ⟨u2, v2, rfl, rfl⟩
  refine W.cl [] (by kernel_rfl) (r_divYR R t u1 hgp) ?_
  rintro _ _ ⟨u3, v3, rfl, rfl⟩
  refine W.cl [] (by kernel_rfl) (p_ymade S q.num u2 ⟨by rw [l1]; exact c1, fun _ => by rw [hS, sg]⟩) ?_
  rintro _ _ ⟨S4, t4, rfl, rfl⟩
  refine W.cl [] (by kernel_rfl) (p_ymade 1 (q.den : Int) u3 ⟨by rw [l2]; exact c2, fun _ => by rw [Int.sign_eq_one_of_pos hqd]⟩) ?_
  rintro _ _ ⟨S5, t5, rfl, rfl⟩
  exact W.r [] (.tuple #[yv S4 t4, yv S5 t5]) (by kernel_rfl) ⟨_, _, _, _, rfl, rfl⟩ (entAll (Δ := [_]) (Δ' := [_]) (entY (by omega) rfl) (entY (by omega) rfl))
/-- How long its text may be. -/
theorem W.ysz {P : Program} {c : Cfg} (S : Int) (s : Sl) {x : Int} [h : Has (YF S s) (L, x) Γ] (hm : midOps c.k = false) (hk : (ztxt x).size ≤ 1000000000 → W tb P fin c Γ) (hL : L ≤ 10000000 := by omega) : W tb P fin c Γ :=
  W.know _ hm (fun I w _ hh => by
    obtain ⟨⟨h1, h2, h3⟩, _⟩ := h.p hh
    have h1 : RefS w s x.natAbs := h1
    have := txt_dec_size (rdl_bound h1)
    simp only at h3
    unfold ztxt
    split
    · rw [ByteArray.size_append]; show 1 + _ ≤ _; omega
    · omega) hk
theorem s_text (S : Int) (s : Sl) (R : Int) (t : Sl) {q : Rat} [h : Has (PF S s R t) (L, q) Γ] (hL : L ≤ 1000000 := by omega) :
    PCalls tb Tryz.prog 151 [pv S s R t] Γ (IsV (.string (qtxt q))) := by
  refine PCalls.of_W tbOk Tryz.func151 rfl (by kernel_rfl) ?_
  refine W.cl [] (by kernel_rfl) (s_lowest S s R t) ?_
  rintro _ _ ⟨S1, s1, R1, r1, rfl, rfl⟩
  refine W.cl [] (by kernel_rfl) (p_ytext S1 s1) ?_
  rintro _ _ ⟨rfl, rfl⟩
  refine W.cl [] (by kernel_rfl) (p_yof 1 (by omega) (by omega)) ?_
  rintro _ _ ⟨S3, t3, rfl, rfl⟩
  refine W.cl [] (by kernel_rfl) (p_ycmp R1 r1 S3 t3) ?_
  rintro _ _ ⟨rfl, rfl⟩
  by_cases h1 : q.den = 1
  · refine W.df [] 16 ((cmpZ (q.den : Int) 1) != 0) (by kernel_rfl) (by rw [h1]; rfl) ?_
    exact W.r [16] (.string (ztxt q.num)) (by kernel_rfl) ⟨by unfold qtxt; rw [if_pos h1], rfl⟩ ent0
  · have hne : cmpZ (q.den : Int) 1 ≠ 0 := fun h => h1 (by have := cmpZ_eq.1 h; omega)
    refine W.dt [] 16 ((cmpZ (q.den : Int) 1) != 0) (by kernel_rfl) (by simpa using hne) ?_
    refine W.ysz S1 s1 (by kernel_rfl) (fun s1' => ?_)
    refine W.ysz R1 r1 (by kernel_rfl) (fun s2' => ?_)
    refine W.cat [16] (ztxt q.num) ⟨#[47]⟩ (by kernel_rfl) (by show _ + 1 ≤ _; omega) ?_
    refine W.cl [] (by kernel_rfl) (p_ytext R1 r1) ?_
    rintro _ _ ⟨rfl, rfl⟩
    refine W.cat [] (ztxt q.num ++ ⟨#[47]⟩) (ztxt q.den) (by kernel_rfl) (by rw [ByteArray.size_append]; show _ + 1 + _ ≤ _; omega) ?_
    exact W.r [] (.string (ztxt q.num ++ ⟨#[47]⟩ ++ ztxt q.den)) (by kernel_rfl) ⟨by unfold qtxt; rw [if_neg h1], rfl⟩ ent0
theorem s_neg (S : Int) (s : Sl) (R : Int) (t : Sl) {q : Rat} [h : Has (PF S s R t) (L, q) Γ] :
    PCalls tb Tryz.prog 88 [pv S s R t] Γ (PPost L (-q)) := by
  refine PCalls.of_W tbOk Tryz.func88 rfl (by kernel_rfl) ?_
  refine W.pf S s R t rfl ?_
  intro n d hd hq _
  refine W.cl [] (by kernel_rfl) (p_yneg S s) ?_
  rintro _ _ ⟨S1, t1, rfl, rfl⟩
  exact W.r [] (pv S1 t1 R t) (by kernel_rfl) ⟨_, _, _, _, rfl, rfl⟩ (entYP (by omega) (by omega) hd (by rw [hq, Rat.neg_divInt]))
theorem s_add (S : Int) (s : Sl) (R : Int) (t : Sl) (S' : Int) (s' : Sl) (R' : Int) (t' : Sl) {a b : Rat} [h : Has (PF S s R t) (L, a) Γ] [h' : Has (PF S' s' R' t') (M, b) Γ] (hL : L ≤ 1000000 := by omega) (hM : M ≤ 1000000 := by omega) :
    PCalls tb Tryz.prog 87 [pv S s R t, pv S' s' R' t'] Γ (PPost (L + M + 1) (a + b)) := by
  refine PCalls.of_W tbOk Tryz.func87 rfl (by kernel_rfl) ?_
  refine W.pf S s R t rfl ?_
  intro n d hd hq _
  refine W.pf S' s' R' t' rfl ?_
  intro m e he hq' _
  refine W.cl [] (by kernel_rfl) (p_ycmp R t R' t') ?_
  rintro _ _ ⟨rfl, rfl⟩
  have hsum : a + b = Rat.divInt (n * e + m * d) (d * e) := by rw [hq, hq', Rat.divInt_add_divInt _ _ (by omega) (by omega)]
  by_cases hde : d = e
  · subst hde
    refine W.dt [] 10 ((cmpZ d d) == 0) (by kernel_rfl) (by rw [beq_iff_eq, cmpZ_eq]) ?_
    refine W.cl [10] (by kernel_rfl) (p_yadd S s S' s') ?_
    rintro _ _ ⟨S2, t2, rfl, rfl⟩
    exact W.r [] (pv S2 t2 R t) (by kernel_rfl) ⟨_, _, _, _, rfl, rfl⟩ (entYP (by omega) (by omega) hd (by rw [hsum, Rat.divInt_eq_divInt_iff (Int.mul_ne_zero (by omega) (by omega)) (by omega)]; grind))
  · refine W.df [] 10 ((cmpZ d e) == 0) (by kernel_rfl) (by rw [beq_eq_false_iff_ne, ne_eq, cmpZ_eq]; exact hde) ?_
    refine W.cl [10] (by kernel_rfl) (p_ymul S s R' t') ?_
    rintro _ _ ⟨S3, t3, rfl, rfl⟩
    refine W.cl [] (by kernel_rfl) (p_ymul S' s' R t) ?_
    rintro _ _ ⟨S4, t4, rfl, rfl⟩
    refine W.cl [] (by kernel_rfl) (p_yadd S3 t3 S4 t4) ?_
    rintro _ _ ⟨S5, t5, rfl, rfl⟩
    refine W.cl [] (by kernel_rfl) (p_ymul R t R' t') ?_
    rintro _ _ ⟨S6, t6, rfl, rfl⟩
    exact W.r [] (pv S5 t5 S6 t6) (by kernel_rfl) ⟨_, _, _, _, rfl, rfl⟩ (entYP (by omega) (by omega) (Int.mul_pos hd he) hsum)
theorem s_sub (S : Int) (s : Sl) (R : Int) (t : Sl) (S' : Int) (s' : Sl) (R' : Int) (t' : Sl) {a b : Rat} [h : Has (PF S s R t) (L, a) Γ] [h' : Has (PF S' s' R' t') (M, b) Γ] (hL : L ≤ 1000000 := by omega) (hM : M ≤ 1000000 := by omega) :
    PCalls tb Tryz.prog 138 [pv S s R t, pv S' s' R' t'] Γ (PPost (L + M + 1) (a - b)) := by
  refine PCalls.of_W tbOk Tryz.func138 rfl (by kernel_rfl) ?_
  refine W.cl [] (by kernel_rfl) (s_neg S' s' R' t') ?_
  rintro _ _ ⟨S1, s1, R1, t1, rfl, rfl⟩
  refine W.cl [] (by kernel_rfl) (s_add S s R t S1 s1 R1 t1) ?_
  rintro _ _ ⟨S2, s2, R2, t2, rfl, rfl⟩
  exact W.r [] (pv S2 s2 R2 t2) (by kernel_rfl) ⟨_, _, _, _, rfl, rfl⟩ (entP (by omega) (Rat.sub_eq_add_neg _ _).symm)
theorem s_mul (S : Int) (s : Sl) (R : Int) (t : Sl) (S' : Int) (s' : Sl) (R' : Int) (t' : Sl) {a b : Rat} [h : Has (PF S s R t) (L, a) Γ] [h' : Has (PF S' s' R' t') (M, b) Γ] (hL : L ≤ 1000000 := by omega) (hM : M ≤ 1000000 := by omega) :
    PCalls tb Tryz.prog 142 [pv S s R t, pv S' s' R' t'] Γ (PPost (L + M) (a * b)) := by
  refine PCalls.of_W tbOk Tryz.func142 rfl (by kernel_rfl) ?_
  refine W.pf S s R t rfl ?_
  intro n d hd hq _
  refine W.pf S' s' R' t' rfl ?_
  intro m e he hq' _
  refine W.cl [] (by kernel_rfl) (p_ymul S s S' s') ?_
  rintro _ _ ⟨S1, t1, rfl, rfl⟩
  refine W.cl [] (by kernel_rfl) (p_ymul R t R' t') ?_
  rintro _ _ ⟨S2, t2, rfl, rfl⟩
  exact W.r [] (pv S1 t1 S2 t2) (by kernel_rfl) ⟨_, _, _, _, rfl, rfl⟩ (entYP (by omega) (by omega) (Int.mul_pos hd he) (by rw [hq, hq', Rat.divInt_mul_divInt]))
theorem s_div (S : Int) (s : Sl) (R : Int) (t : Sl) (S' : Int) (s' : Sl) (R' : Int) (t' : Sl) {a b : Rat} [h : Has (PF S s R t) (L, a) Γ] [h' : Has (PF S' s' R' t') (M, b) Γ] (hb : b ≠ 0) (hL : L ≤ 1000000 := by omega) (hM : M ≤ 1000000 := by omega) :
    PCalls tb Tryz.prog 143 [pv S s R t, pv S' s' R' t'] Γ (PPost (L + M) (a / b)) := by
  refine PCalls.of_W tbOk Tryz.func143 rfl (by kernel_rfl) ?_
  refine W.pf S s R t rfl ?_
  intro n d hd hq _
  refine W.pf S' s' R' t' rfl ?_
  intro m e he hq' _
  have hm : m ≠ 0 := by
    rintro rfl
    exact hb (by rw [hq', Rat.zero_divInt])
  refine W.cl [] (by kernel_rfl) (p_ymul S s R' t') ?_
  rintro _ _ ⟨S1, t1, rfl, rfl⟩
  refine W.cl [] (by kernel_rfl) (p_ymul R t S' s') ?_
  rintro _ _ ⟨S2, t2, rfl, rfl⟩
  refine W.cl [] (by kernel_rfl) (s_make S1 t1 S2 t2 (Int.mul_ne_zero (by omega) hm)) ?_
  rintro _ _ ⟨S3, s3, R3, t3, rfl, rfl⟩
  exact W.r [] (pv S3 s3 R3 t3) (by kernel_rfl) ⟨_, _, _, _, rfl, rfl⟩ (entP (by omega) (by rw [Rat.div_def, hq, hq', Rat.inv_divInt, Rat.divInt_mul_divInt]))
theorem s_floor (S : Int) (s : Sl) (R : Int) (t : Sl) {q : Rat} [h : Has (PF S s R t) (L, q) Γ] (hL : L ≤ 1000000 := by omega) :
    PCalls tb Tryz.prog 74 [pv S s R t] Γ (YPost (L + 8) (qfl q)) := by
  refine PCalls.of_W tbOk Tryz.func74 rfl (by kernel_rfl) ?_
  refine W.pf S s R t rfl ?_
  intro n d hd hq _
  refine W.cl [] (by kernel_rfl) (p_yfloor S s R t (by omega)) ?_
  rintro _ _ ⟨S1, t1, R1, r1, rfl, rfl⟩
  exact W.r [] (yv S1 t1) (by kernel_rfl) ⟨_, _, rfl, rfl⟩ (entY (by omega) (floor_of hd hq))
end

end Go.Proofs.YtabpaiboodllbaaGreat
