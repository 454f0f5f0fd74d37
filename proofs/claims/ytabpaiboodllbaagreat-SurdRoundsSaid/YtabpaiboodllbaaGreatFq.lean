
/- The contracts of frac. -/
import Derived.Test.YtabpaiboodllbaaGreatFm
set_option linter.unusedSimpArgs false
set_option linter.unusedVariables false
namespace Go.Proofs.YtabpaiboodllbaaGreat
open Go.RowKit Go.IntWalk

/-- A quotient of frac: a denominator of 0 stands for 1. -/
def QF (n : Sl) (nb : Bool) (d : Sl) (db : Bool) (a : Nat × Rat) : Fact where
  p I w := ∃ y : Int, (ZF n nb (a.1, a.2.num)).p I w ∧ (ZF d db (a.1, y)).p I w ∧ (y = a.2.den ∨ (y = 0 ∧ a.2.den = 1))
  up := by
    rintro I I' w w' ⟨y, h, h', hy⟩ h1 h2 h3
    exact ⟨y, (ZF n nb _).up h h1 h2 h3, (ZF d db _).up h' h1 h2 h3, hy⟩
def QPost (L : Nat) (q : Rat) (v : Value) (Δ : List Fact) : Prop := ∃ (n : Sl) (nb : Bool) (d : Sl) (db : Bool), v = qv n nb d db ∧ Δ = [QF n nb d db (L, q)]
/-- With no error. -/
def QOk (L : Nat) (q : Rat) (v : Value) (Δ : List Fact) : Prop := ∃ (n : Sl) (nb : Bool) (d : Sl) (db : Bool), v = .tuple #[qv n nb d db, .int .i64 0] ∧ Δ = [QF n nb d db (L, q)]
/-- The error of a division by 0. -/
def QZero (v : Value) (Δ : List Fact) : Prop := v = .tuple #[qv ⟨none, 0, 0⟩ false ⟨none, 0, 0⟩ false, .int .i64 5] ∧ Δ = [QF ⟨none, 0, 0⟩ false ⟨none, 0, 0⟩ false (0, 0)]

section
variable {fin : VS → List Fact → Prop} {Γ : List Fact} {L M : Nat}

theorem W.qf {P : Program} {c : Cfg} (n : Sl) (nb : Bool) (d : Sl) (db : Bool) {q : Rat} [h : Has (QF n nb d db) (L, q) Γ] (hm : midOps c.k = false)
    (hk : ∀ y : Int, (y = q.den ∨ (y = 0 ∧ q.den = 1)) → W tb P fin c (ZF n nb (L, q.num) :: ZF d db (L, y) :: Γ)) : W tb P fin c Γ :=
  W.elim (α := Int) (fun y => y = q.den ∨ (y = 0 ∧ q.den = 1)) (fun y => [ZF n nb (L, q.num), ZF d db (L, y)]) hm (fun I w _ hh => by
    obtain ⟨y, h1, h2, h3⟩ := h.p hh
    exact ⟨y, h3, Holds.cons h1 (holds1 h2)⟩) hk
/-- The numerator alone. -/
theorem W.qn {P : Program} {c : Cfg} (n : Sl) (nb : Bool) (d : Sl) (db : Bool) {q : Rat} [h : Has (QF n nb d db) (L, q) Γ] (hm : midOps c.k = false)
    (hk : W tb P fin c (ZF n nb (L, q.num) :: Γ)) : W tb P fin c Γ :=
  W.elim (α := Unit) (fun _ => True) (fun _ => [ZF n nb (L, q.num)]) hm (fun I w _ hh => by
    obtain ⟨y, h1, h2, h3⟩ := h.p hh
    exact ⟨(), trivial, holds1 h1⟩) (fun _ _ => hk)
theorem entQ {n d : Sl} {nb db : Bool} {L' : Nat} {q q' : Rat} [h : Has (QF n nb d db) (L, q) Γ] (hL : L ≤ L') (hq : q = q') : ∀ (I : Blk) (w : World), DataOK tb I w → Holds Γ I w → Holds [QF n nb d db (L', q')] I w := fun I w _ hh => by
  subst hq
  obtain ⟨y, ⟨⟨h1, h2, h3⟩, h4⟩, ⟨⟨g1, g2, g3⟩, g4⟩, hy⟩ := h.p hh
  exact holds1 ⟨y, ⟨⟨h1, h2, Nat.le_trans h3 hL⟩, h4⟩, ⟨⟨g1, g2, Nat.le_trans g3 hL⟩, g4⟩, hy⟩
/-- Of two whole numbers. -/
theorem entZQ {n d : Sl} {nb db : Bool} {L' : Nat} {x y : Int} {q : Rat} [h : Has (ZF n nb) (L, x) Γ] [h' : Has (ZF d db) (M, y) Γ] (hL : L ≤ L') (hM : M ≤ L') (hx : x = q.num) (hy : y = q.den ∨ (y = 0 ∧ q.den = 1)) : ∀ (I : Blk) (w : World), DataOK tb I w → Holds Γ I w → Holds [QF n nb d db (L', q)] I w := fun I w _ hh => by
  subst hx
  obtain ⟨⟨h1, h2, h3⟩, h4⟩ := h.p hh
  obtain ⟨⟨g1, g2, g3⟩, g4⟩ := h'.p hh
  exact holds1 ⟨y, ⟨⟨h1, h2, Nat.le_trans h3 hL⟩, h4⟩, ⟨⟨g1, g2, Nat.le_trans g3 hM⟩, g4⟩, hy⟩
theorem entQ0 {L' : Nat} : ∀ (I : Blk) (w : World), DataOK tb I w → Holds Γ I w → Holds [QF ⟨none, 0, 0⟩ false ⟨none, 0, 0⟩ false (L', 0)] I w := fun I w hd hh =>
  holds1 ⟨0, (entZnil (L' := L') I w hd hh).h0', (entZnil (L' := L') I w hd hh).h0', .inr ⟨rfl, rfl⟩⟩
/-- A number that is no farther from 0 than another needs no more room. -/
theorem fitZ {I : Blk} {w : World} {u t : Sl} {d c : Bool} {L M L' : Nat} {x y : Int} (h : (ZF u d (L, x)).p I w) (h' : (ZF t c (M, y)).p I w) (hx : x.natAbs ≤ y.natAbs) (hL : M ≤ L') : (ZF u d (L', x)).p I w := by
  obtain ⟨⟨h1, h2, h3⟩, h4⟩ := h
  obtain ⟨⟨g1, g2, g3⟩, g4⟩ := h'
  have h1 : NatS w u x.natAbs := h1
  have g1 : NatS w t y.natAbs := g1
  have := h1.n_le g1 hx
  simp only at g3
  exact ⟨⟨h1, h2, by simp only; omega⟩, h4⟩
theorem entZv {u t : Sl} {d c : Bool} {x y : Int} {L' : Nat} [h : Has (ZF u d) (L, x) Γ] [h' : Has (ZF t c) (M, y) Γ] (hx : x.natAbs ≤ y.natAbs) (hL : M ≤ L') : ∀ (I : Blk) (w : World), DataOK tb I w → Holds Γ I w → Holds [ZF u d (L', x)] I w := fun I w _ hh => holds1 (fitZ (h.p hh) (h'.p hh) hx hL)
/-- How long its text may be. -/
theorem W.zsz {P : Program} {c : Cfg} (s : Sl) (b : Bool) {x : Int} [h : Has (ZF s b) (L, x) Γ] (hm : midOps c.k = false) (hk : (ztxt x).size ≤ 1000000000 → W tb P fin c Γ) (hL : L ≤ 10000000 := by omega) : W tb P fin c Γ :=
  W.know _ hm (fun I w _ hh => by
    obtain ⟨⟨h1, h2, h3⟩, _⟩ := h.p hh
    have h1 : NatS w s x.natAbs := h1
    have := txt_dec_size (dl_bound h1)
    simp only at h3
    unfold ztxt
    split
    · rw [ByteArray.size_append]; show 1 + _ ≤ _; omega
    · omega) hk
/-- What is in lowest terms needs no more room. -/
theorem entQl {n d u t : Sl} {nb db ub tb' : Bool} {L' L1 M1 : Nat} {x y a b : Int} {q : Rat} [h1 : Has (ZF u ub) (L1, a) Γ] [h2 : Has (ZF t tb') (M1, b) Γ] [h3 : Has (ZF n nb) (L, x) Γ] [h4 : Has (ZF d db) (M, y) Γ]
    (ha : a = q.num) (hb : b = q.den) (hx : a.natAbs ≤ x.natAbs) (hy : b.natAbs ≤ y.natAbs) (hL : L ≤ L') (hM : M ≤ L') : ∀ (I : Blk) (w : World), DataOK tb I w → Holds Γ I w → Holds [QF u ub t tb' (L', q)] I w := fun I w _ hh => by
  refine holds1 ⟨b, ?_, fitZ (h2.p hh) (h4.p hh) hy hM, .inl hb⟩
  rw [← ha]
  exact fitZ (h1.p hh) (h3.p hh) hx hL

theorem p_qlowest (n : Sl) (nb : Bool) (d : Sl) (db : Bool) {x y : Int} [hn : Has (ZF n nb) (L, x) Γ] [hd : Has (ZF d db) (M, y) Γ] (hy : y ≠ 0) (hL : L ≤ 1000000000 := by omega) (hM : M ≤ 1000000000 := by omega) :
    PCalls tb Tryz.prog 102 [zv n nb, zv d db] Γ (QPost (max L M) (Rat.divInt x y)) := by
  have hgp : 0 < Nat.gcd x.natAbs y.natAbs := Nat.gcd_pos_of_pos_right _ (by omega)
  have d1 : ((Nat.gcd x.natAbs y.natAbs : Nat) : Int) ∣ x := Int.ofNat_dvd_left.2 (Nat.gcd_dvd_left _ _)
  have d2 : ((Nat.gcd x.natAbs y.natAbs : Nat) : Int) ∣ y := Int.ofNat_dvd_left.2 (Nat.gcd_dvd_right _ _)
  have b1 := abs_div_dvd d1 hgp
  have b2 := abs_div_dvd d2 hgp
  have l1 := fun h => low_pos (x := x) (y := y) h
  have l2 := fun h => low_neg (x := x) (y := y) h
  obtain ⟨g, hg⟩ : ∃ g, g = Nat.gcd x.natAbs y.natAbs := ⟨_, rfl⟩
  rw [← hg] at hgp d1 d2 b1 b2 l1 l2
  have hs : (y / (g : Int)).sign = y.sign := by
    obtain ⟨k, hk⟩ := d2
    rw [hk, Int.mul_ediv_cancel_left _ (by omega), Int.sign_mul, show (g : Int).sign = 1 from Int.sign_eq_one_of_pos (by omega), Int.one_mul]
  refine PCalls.of_W tbOk Tryz.func102 rfl (by kernel_rfl) ?_
  refine W.cl [] (by kernel_rfl) (p_zabs n nb) ?_
  rintro _ _ ⟨rfl, rfl⟩
  refine W.cl [] (by kernel_rfl) (p_zabs d db) ?_
  rintro _ _ ⟨rfl, rfl⟩
  refine W.cl [] (by kernel_rfl) (p_gcd n d) ?_
  rintro _ _ ⟨u3, rfl, rfl⟩
  rw [← hg]
  refine W.cl [] (by kernel_rfl) (p_of' 1 1 rfl (by omega)) ?_
  rintro _ _ ⟨u4, rfl, rfl⟩
  refine W.cl [] (by kernel_rfl) (p_cmp u3 u4) ?_
  rintro _ _ ⟨rfl, rfl⟩
  refine W.d [] 16 ((cmpN g 1) != 0) (by kernel_rfl) (fun hb => ?_) (fun hb => ?_)
  · refine W.cl [16] (by kernel_rfl) (p_zbig u3) ?_
    rintro _ _ ⟨u6, d6, rfl, rfl⟩
    refine W.cl [] (by kernel_rfl) (p_zfloor n nb u6 d6 (by omega)) ?_
    rintro _ _ ⟨u7, d7, v7, e7, rfl, rfl⟩
    refine W.cl [] (by kernel_rfl) (p_zbig u3) ?_
    rintro _ _ ⟨u8, d8, rfl, rfl⟩
    refine W.cl [] (by kernel_rfl) (p_zfloor d db u8 d8 (by omega)) ?_
    rintro _ _ ⟨u9, d9, v9, e9, rfl, rfl⟩
    refine W.cl [] (by kernel_rfl) (p_zsign u9 d9) ?_
    rintro _ _ ⟨rfl, rfl⟩
    rw [hs]
    by_cases hn0 : y < 0
    · refine W.dt [] 35 (decide (y.sign < 0)) (by kernel_rfl) (by rw [decide_eq_true_iff, sign_lt]; exact hn0) ?_
      refine W.cl [35] (by kernel_rfl) (p_zneg u7 d7) ?_
      rintro _ _ ⟨u11, d11, rfl, rfl⟩
      refine W.cl [] (by kernel_rfl) (p_zneg u9 d9) ?_
      rintro _ _ ⟨u12, d12, rfl, rfl⟩
      exact W.r [] (qv u11 d11 u12 d12) (by kernel_rfl) ⟨_, _, _, _, rfl, rfl⟩ (entQl (n := n) (nb := nb) (d := d) (db := db) (l2 hn0).1.symm (l2 hn0).2.symm (by omega) (by omega) (by omega) (by omega))
    · refine W.df [] 35 (decide (y.sign < 0)) (by kernel_rfl) (by rw [decide_eq_false_iff_not, sign_lt]; exact hn0) ?_
      exact W.r [35] (qv u7 d7 u9 d9) (by kernel_rfl) ⟨_, _, _, _, rfl, rfl⟩ (entQl (n := n) (nb := nb) (d := d) (db := db) (l1 (by omega)).1.symm (l1 (by omega)).2.symm (by omega) (by omega) (by omega) (by omega))
  · have hg1 : g = 1 := by
      have := eq_of_beq (show cmpN g 1 == 0 by simpa using hb)
      rw [cmpZ_nat, cmpZ_eq] at this
      omega
    subst hg1
    simp only [Int.natCast_one, Int.ediv_one, Int.cast_ofNat_Int] at l1 l2
    refine W.cl [16] (by kernel_rfl) (p_zsign d db) ?_
    rintro _ _ ⟨rfl, rfl⟩
    by_cases hn0 : y < 0
    · refine W.dt [] 35 (decide (y.sign < 0)) (by kernel_rfl) (by rw [decide_eq_true_iff, sign_lt]; exact hn0) ?_
      refine W.cl [35] (by kernel_rfl) (p_zneg n nb) ?_
      rintro _ _ ⟨u14, d14, rfl, rfl⟩
      refine W.cl [] (by kernel_rfl) (p_zneg d db) ?_
      rintro _ _ ⟨u15, d15, rfl, rfl⟩
      exact W.r [] (qv u14 d14 u15 d15) (by kernel_rfl) ⟨_, _, _, _, rfl, rfl⟩ (entZQ (by omega) (by omega) (l2 hn0).1.symm (.inl (l2 hn0).2.symm))
    · refine W.df [] 35 (decide (y.sign < 0)) (by kernel_rfl) (by rw [decide_eq_false_iff_not, sign_lt]; exact hn0) ?_
      exact W.r [35] (qv n nb d db) (by kernel_rfl) ⟨_, _, _, _, rfl, rfl⟩ (entZQ (by omega) (by omega) (l1 (by omega)).1.symm (.inl (l1 (by omega)).2.symm))

theorem p_qmake (n : Sl) (nb : Bool) (d : Sl) (db : Bool) {x y : Int} [hn : Has (ZF n nb) (L, x) Γ] [hd : Has (ZF d db) (M, y) Γ] (hy : y ≠ 0) (hL : L ≤ 1000000000 := by omega) (hM : M ≤ 1000000000 := by omega) :
    PCalls tb Tryz.prog 117 [zv n nb, zv d db] Γ (QOk (max L M) (Rat.divInt x y)) := by
  refine PCalls.of_W tbOk Tryz.func117 rfl (by kernel_rfl) ?_
  refine W.cl [] (by kernel_rfl) (p_zsign d db) ?_
  rintro _ _ ⟨rfl, rfl⟩
  refine W.df [] 8 (y.sign == 0) (by kernel_rfl) (by rw [beq_eq_false_iff_ne, ne_eq, sign_zero]; exact hy) ?_
  refine W.cl [8] (by kernel_rfl) (p_qlowest n nb d db hy) ?_
  rintro _ _ ⟨n2, a2, m2, b2, rfl, rfl⟩
  exact W.r [] (.tuple #[qv n2 a2 m2 b2, .int .i64 0]) (by kernel_rfl) ⟨_, _, _, _, rfl, rfl⟩ (entQ (Nat.le_refl _) rfl)
theorem p_qmake0 (n : Sl) (nb : Bool) (d : Sl) (db : Bool) {x : Int} [hn : Has (ZF n nb) (L, x) Γ] [hd : Has (ZF d db) (M, 0) Γ] (hM : M ≤ 1000000000 := by omega) :
    PCalls tb Tryz.prog 117 [zv n nb, zv d db] Γ QZero := by
  refine PCalls.of_W tbOk Tryz.func117 rfl (by kernel_rfl) ?_
  refine W.cl [] (by kernel_rfl) (p_zsign d db) ?_
  rintro _ _ ⟨rfl, rfl⟩
  refine W.dt [] 8 ((0 : Int).sign == 0) (by kernel_rfl) rfl ?_
  exact W.r [8] (.tuple #[qv ⟨none, 0, 0⟩ false ⟨none, 0, 0⟩ false, .int .i64 5]) (by kernel_rfl) ⟨rfl, rfl⟩ entQ0
theorem p_qof (a b : Int) (hb : b ≠ 0) (h1 : -9223372036854775808 ≤ a) (h2 : a < 9223372036854775808) (h3 : -9223372036854775808 ≤ b) (h4 : b < 9223372036854775808) :
    PCalls tb Tryz.prog 81 [.int .i64 a, .int .i64 b] Γ (QOk 2 (Rat.divInt a b)) := by
  refine PCalls.of_W tbOk Tryz.func81 rfl (by kernel_rfl) ?_
  refine W.cl [] (by kernel_rfl) (p_zof a h1 h2) ?_
  rintro _ _ ⟨u1, d1, rfl, rfl⟩
  refine W.cl [] (by kernel_rfl) (p_zof b h3 h4) ?_
  rintro _ _ ⟨u2, d2, rfl, rfl⟩
  refine W.cl [] (by kernel_rfl) (p_qmake u1 d1 u2 d2 hb) ?_
  rintro _ _ ⟨n3, a3, m3, b3, rfl, rfl⟩
  exact W.r [] (.tuple #[qv n3 a3 m3 b3, .int .i64 0]) (by kernel_rfl) ⟨_, _, _, _, rfl, rfl⟩ (entQ (by omega) rfl)
theorem p_qof0 (a : Int) (h1 : -9223372036854775808 ≤ a) (h2 : a < 9223372036854775808) :
    PCalls tb Tryz.prog 81 [.int .i64 a, .int .i64 0] Γ QZero := by
  refine PCalls.of_W tbOk Tryz.func81 rfl (by kernel_rfl) ?_
  refine W.cl [] (by kernel_rfl) (p_zof a h1 h2) ?_
  rintro _ _ ⟨u1, d1, rfl, rfl⟩
  refine W.cl [] (by kernel_rfl) (p_zof 0 (by omega) (by omega)) ?_
  rintro _ _ ⟨u2, d2, rfl, rfl⟩
  refine W.cl [] (by kernel_rfl) (p_qmake0 u1 d1 u2 d2) ?_
  rintro _ _ ⟨rfl, rfl⟩
  exact W.r [] (.tuple #[qv ⟨none, 0, 0⟩ false ⟨none, 0, 0⟩ false, .int .i64 5]) (by kernel_rfl) ⟨rfl, rfl⟩ entQ0
theorem p_qwhole (n : Sl) (nb : Bool) {x : Int} [hn : Has (ZF n nb) (L, x) Γ] :
    PCalls tb Tryz.prog 50 [zv n nb] Γ (QPost (max L 2) (x : Rat)) := by
  refine PCalls.of_W tbOk Tryz.func50 rfl (by kernel_rfl) ?_
  refine W.cl [] (by kernel_rfl) (p_zof 1 (by omega) (by omega)) ?_
  rintro _ _ ⟨u1, d1, rfl, rfl⟩
  exact W.r [] (qv n nb u1 d1) (by kernel_rfl) ⟨_, _, _, _, rfl, rfl⟩ (entZQ (by omega) (by omega) rfl (.inl rfl))
theorem p_qnum (n : Sl) (nb : Bool) (d : Sl) (db : Bool) {q : Rat} [hn : Has (QF n nb d db) (L, q) Γ] :
    PCalls tb Tryz.prog 125 [qv n nb d db] Γ (ZPost L q.num) := by
  refine PCalls.of_W tbOk Tryz.func125 rfl (by kernel_rfl) ?_
  refine W.qn n nb d db rfl ?_
  exact W.r [] (zv n nb) (by kernel_rfl) ⟨_, _, rfl, rfl⟩ (entZ (Nat.le_refl _) rfl)
theorem p_qden (n : Sl) (nb : Bool) (d : Sl) (db : Bool) {q : Rat} [hn : Has (QF n nb d db) (L, q) Γ] (hL : L ≤ 1000000000 := by omega) :
    PCalls tb Tryz.prog 103 [qv n nb d db] Γ (ZPost (max L 2) (q.den : Int)) := by
  refine PCalls.of_W tbOk Tryz.func103 rfl (by kernel_rfl) ?_
  refine W.qf n nb d db rfl ?_
  rintro y hy
  refine W.cl [] (by kernel_rfl) (p_zsign d db) ?_
  rintro _ _ ⟨rfl, rfl⟩
  have hp := den_pos' q
  refine W.d [] 6 (y.sign == 0) (by kernel_rfl) (fun hb => ?_) (fun hb => ?_)
  · have h0 := sign_zero.1 (eq_of_beq hb)
    refine W.cl [6] (by kernel_rfl) (p_zof 1 (by omega) (by omega)) ?_
    rintro _ _ ⟨u2, d2, rfl, rfl⟩
    exact W.r [] (zv u2 d2) (by kernel_rfl) ⟨_, _, rfl, rfl⟩ (entZ (by omega) (by omega))
  · have h0 : y ≠ 0 := fun h => (ne_of_beq_false hb) (sign_zero.2 h)
    exact W.r [6] (zv d db) (by kernel_rfl) ⟨_, _, rfl, rfl⟩ (entZ (by omega) (by omega))
theorem p_qsign (n : Sl) (nb : Bool) (d : Sl) (db : Bool) {q : Rat} [hn : Has (QF n nb d db) (L, q) Γ] (hL : L ≤ 1000000000 := by omega) :
    PCalls tb Tryz.prog 54 [qv n nb d db] Γ (IsV (.int .i64 q.num.sign)) := by
  refine PCalls.of_W tbOk Tryz.func54 rfl (by kernel_rfl) ?_
  refine W.qn n nb d db rfl ?_
  refine W.cl [] (by kernel_rfl) (p_zsign n nb) ?_
  rintro _ _ ⟨rfl, rfl⟩
  exact W.r [] (.int .i64 (q.num).sign) (by kernel_rfl) ⟨rfl, rfl⟩ ent0
theorem p_qcmp (n : Sl) (nb : Bool) (d : Sl) (db : Bool) (m : Sl) (mb : Bool) (e : Sl) (eb : Bool) {a b : Rat} [hn : Has (QF n nb d db) (L, a) Γ] [hm : Has (QF m mb e eb) (M, b) Γ] (hL : L ≤ 1000000 := by omega) (hM : M ≤ 1000000 := by omega) :
    PCalls tb Tryz.prog 89 [qv n nb d db, qv m mb e eb] Γ (IsV (.int .i64 (cmpQ a b))) := by
  refine PCalls.of_W tbOk Tryz.func89 rfl (by kernel_rfl) ?_
  refine W.qn n nb d db rfl ?_
  refine W.qn m mb e eb rfl ?_
  refine W.cl [] (by kernel_rfl) (p_qden m mb e eb) ?_
  rintro _ _ ⟨u1, d1, rfl, rfl⟩
  refine W.cl [] (by kernel_rfl) (p_zmul n nb u1 d1) ?_
  rintro _ _ ⟨u2, d2, rfl, rfl⟩
  refine W.cl [] (by kernel_rfl) (p_qden n nb d db) ?_
  rintro _ _ ⟨u3, d3, rfl, rfl⟩
  refine W.cl [] (by kernel_rfl) (p_zmul m mb u3 d3) ?_
  rintro _ _ ⟨u4, d4, rfl, rfl⟩
  refine W.cl [] (by kernel_rfl) (p_zcmp u2 d2 u4 d4) ?_
  rintro _ _ ⟨rfl, rfl⟩
  exact W.r [] (.int .i64 (cmpZ (a.num * (b.den : Int)) (b.num * (a.den : Int)))) (by kernel_rfl) ⟨by rw [cmpQ_parts], rfl⟩ ent0
theorem p_qneg (n : Sl) (nb : Bool) (d : Sl) (db : Bool) {q : Rat} [hn : Has (QF n nb d db) (L, q) Γ] (hL : L ≤ 1000000000 := by omega) :
    PCalls tb Tryz.prog 58 [qv n nb d db] Γ (QPost L (-q)) := by
  refine PCalls.of_W tbOk Tryz.func58 rfl (by kernel_rfl) ?_
  refine W.qf n nb d db rfl ?_
  rintro y hy
  refine W.cl [] (by kernel_rfl) (p_zneg n nb) ?_
  rintro _ _ ⟨u1, d1, rfl, rfl⟩
  exact W.r [] (qv u1 d1 d db) (by kernel_rfl) ⟨_, _, _, _, rfl, rfl⟩ (entZQ (by omega) (by omega) (by rw [Rat.neg_num]) (by rw [Rat.neg_den]; exact hy))
theorem p_qadd (n : Sl) (nb : Bool) (d : Sl) (db : Bool) (m : Sl) (mb : Bool) (e : Sl) (eb : Bool) {a b : Rat} [hn : Has (QF n nb d db) (L, a) Γ] [hm : Has (QF m mb e eb) (M, b) Γ] (hL : L ≤ 1000000 := by omega) (hM : M ≤ 1000000 := by omega) :
    PCalls tb Tryz.prog 82 [qv n nb d db, qv m mb e eb] Γ (QPost (L + M + 5) (a + b)) := by
  refine PCalls.of_W tbOk Tryz.func82 rfl (by kernel_rfl) ?_
  refine W.qn n nb d db rfl ?_
  refine W.qn m mb e eb rfl ?_
  refine W.cl [] (by kernel_rfl) (p_qden m mb e eb) ?_
  rintro _ _ ⟨u1, d1, rfl, rfl⟩
  refine W.cl [] (by kernel_rfl) (p_zmul n nb u1 d1) ?_
  rintro _ _ ⟨u2, d2, rfl, rfl⟩
  refine W.cl [] (by kernel_rfl) (p_qden n nb d db) ?_
  rintro _ _ ⟨u3, d3, rfl, rfl⟩
  refine W.cl [] (by kernel_rfl) (p_zmul m mb u3 d3) ?_
  rintro _ _ ⟨u4, d4, rfl, rfl⟩
  refine W.cl [] (by kernel_rfl) (p_zadd u2 d2 u4 d4) ?_
  rintro _ _ ⟨u5, d5, rfl, rfl⟩
  refine W.cl [] (by kernel_rfl) (p_qden n nb d db) ?_
  rintro _ _ ⟨u6, d6, rfl, rfl⟩
  refine W.cl [] (by kernel_rfl) (p_qden m mb e eb) ?_
  rintro _ _ ⟨u7, d7, rfl, rfl⟩
  refine W.cl [] (by kernel_rfl) (p_zmul u6 d6 u7 d7) ?_
  rintro _ _ ⟨u8, d8, rfl, rfl⟩
  refine W.cl [] (by kernel_rfl) (p_qlowest u5 d5 u8 d8 (Int.mul_ne_zero (by have := den_pos' a; omega) (by have := den_pos' b; omega))) ?_
  rintro _ _ ⟨n9, a9, m9, b9, rfl, rfl⟩
  exact W.r [] (qv n9 a9 m9 b9) (by kernel_rfl) ⟨_, _, _, _, rfl, rfl⟩ (entQ (by omega) (q_add a b))
theorem p_qsub (n : Sl) (nb : Bool) (d : Sl) (db : Bool) (m : Sl) (mb : Bool) (e : Sl) (eb : Bool) {a b : Rat} [hn : Has (QF n nb d db) (L, a) Γ] [hm : Has (QF m mb e eb) (M, b) Γ] (hL : L ≤ 1000000 := by omega) (hM : M ≤ 1000000 := by omega) :
    PCalls tb Tryz.prog 83 [qv n nb d db, qv m mb e eb] Γ (QPost (L + M + 5) (a - b)) := by
  refine PCalls.of_W tbOk Tryz.func83 rfl (by kernel_rfl) ?_
  refine W.cl [] (by kernel_rfl) (p_qneg m mb e eb) ?_
  rintro _ _ ⟨n1, a1, m1, b1, rfl, rfl⟩
  refine W.cl [] (by kernel_rfl) (p_qadd n nb d db n1 a1 m1 b1) ?_
  rintro _ _ ⟨n2, a2, m2, b2, rfl, rfl⟩
  exact W.r [] (qv n2 a2 m2 b2) (by kernel_rfl) ⟨_, _, _, _, rfl, rfl⟩ (entQ (by omega) (Rat.sub_eq_add_neg _ _).symm)
theorem p_qmul (n : Sl) (nb : Bool) (d : Sl) (db : Bool) (m : Sl) (mb : Bool) (e : Sl) (eb : Bool) {a b : Rat} [hn : Has (QF n nb d db) (L, a) Γ] [hm : Has (QF m mb e eb) (M, b) Γ] (hL : L ≤ 1000000 := by omega) (hM : M ≤ 1000000 := by omega) :
    PCalls tb Tryz.prog 40 [qv n nb d db, qv m mb e eb] Γ (QPost (L + M + 5) (a * b)) := by
  refine PCalls.of_W tbOk Tryz.func40 rfl (by kernel_rfl) ?_
  refine W.qn n nb d db rfl ?_
  refine W.qn m mb e eb rfl ?_
  refine W.cl [] (by kernel_rfl) (p_zmul n nb m mb) ?_
  rintro _ _ ⟨u1, d1, rfl, rfl⟩
  refine W.cl [] (by kernel_rfl) (p_qden n nb d db) ?_
  rintro _ _ ⟨u2, d2, rfl, rfl⟩
  refine W.cl [] (by kernel_rfl) (p_qden m mb e eb) ?_
  rintro _ _ ⟨u3, d3, rfl, rfl⟩
  refine W.cl [] (by kernel_rfl) (p_zmul u2 d2 u3 d3) ?_
  rintro _ _ ⟨u4, d4, rfl, rfl⟩
  refine W.cl [] (by kernel_rfl) (p_qlowest u1 d1 u4 d4 (Int.mul_ne_zero (by have := den_pos' a; omega) (by have := den_pos' b; omega))) ?_
  rintro _ _ ⟨n5, a5, m5, b5, rfl, rfl⟩
  exact W.r [] (qv n5 a5 m5 b5) (by kernel_rfl) ⟨_, _, _, _, rfl, rfl⟩ (entQ (by omega) (q_mul a b))
theorem p_qtext (n : Sl) (nb : Bool) (d : Sl) (db : Bool) {q : Rat} [hn : Has (QF n nb d db) (L, q) Γ] (hL : L ≤ 1000000 := by omega) :
    PCalls tb Tryz.prog 64 [qv n nb d db] Γ (IsV (.string (qtxt q))) := by
  refine PCalls.of_W tbOk Tryz.func64 rfl (by kernel_rfl) ?_
  refine W.qn n nb d db rfl ?_
  refine W.cl [] (by kernel_rfl) (p_qden n nb d db) ?_
  rintro _ _ ⟨u1, d1, rfl, rfl⟩
  refine W.cl [] (by kernel_rfl) (p_zof 1 (by omega) (by omega)) ?_
  rintro _ _ ⟨u2, d2, rfl, rfl⟩
  refine W.cl [] (by kernel_rfl) (p_zcmp u1 d1 u2 d2) ?_
  rintro _ _ ⟨rfl, rfl⟩
  by_cases h1 : q.den = 1
  · refine W.df [] 9 ((cmpZ (q.den : Int) 1) != 0) (by kernel_rfl) (by rw [h1]; rfl) ?_
    refine W.cl [9] (by kernel_rfl) (p_ztext n nb) ?_
    rintro _ _ ⟨rfl, rfl⟩
    exact W.r [] (.string (ztxt q.num)) (by kernel_rfl) ⟨by unfold qtxt; rw [if_pos h1], rfl⟩ ent0
  · have hne : cmpZ (q.den : Int) 1 ≠ 0 := fun h => h1 (by have := cmpZ_eq.1 h; omega)
    refine W.dt [] 9 ((cmpZ (q.den : Int) 1) != 0) (by kernel_rfl) (by simpa using hne) ?_
    refine W.zsz n nb (by kernel_rfl) (fun s1 => ?_)
    refine W.zsz u1 d1 (by kernel_rfl) (fun s2 => ?_)
    refine W.cl [9] (by kernel_rfl) (p_ztext n nb) ?_
    rintro _ _ ⟨rfl, rfl⟩
    refine W.cat [] (ztxt q.num) ⟨#[47]⟩ (by kernel_rfl) (by show _ + 1 ≤ _; omega) ?_
    refine W.cl [] (by kernel_rfl) (p_ztext u1 d1) ?_
    rintro _ _ ⟨rfl, rfl⟩
    refine W.cat [] (ztxt q.num ++ ⟨#[47]⟩) (ztxt q.den) (by kernel_rfl) (by rw [ByteArray.size_append]; show _ + 1 + _ ≤ _; omega) ?_
    exact W.r [] (.string (ztxt q.num ++ ⟨#[47]⟩ ++ ztxt q.den)) (by kernel_rfl) ⟨by unfold qtxt; rw [if_neg h1], rfl⟩ ent0
end

end Go.Proofs.YtabpaiboodllbaaGreat
