/- Quotients of whole numbers: plain laws. Texts of numbers are read as these. The contracts of frac. The contracts of the reference's quotients. Texts of quotients are read: by frac and by the reference. What frac's laws share. The least and the greatest of some quotients. -/
import Derived.Test.YtlpfkbkpnljieaaGreatZl
import Derived.Lib.Bytealg
import Derived.Test.YtlpfkbkpnljieaaGreatVy
set_option linter.unusedSimpArgs false
set_option linter.unusedVariables false
namespace Go.Proofs.YtlpfkbkpnljieaaGreat
open Go.RowKit Go.IntWalk

def cmpQ (x y : Rat) : Int := if x < y then -1 else if x = y then 0 else 1
theorem low_pos {x y : Int} (hy : 0 < y) : (Rat.divInt x y).num = x / (Nat.gcd x.natAbs y.natAbs : Nat) ∧ ((Rat.divInt x y).den : Int) = y / (Nat.gcd x.natAbs y.natAbs : Nat) := by
  have hg : Int.gcd y x = Nat.gcd x.natAbs y.natAbs := by rw [Int.gcd_comm]; rfl
  refine ⟨?_, ?_⟩
  · rw [Rat.num_divInt, hg, Int.sign_eq_one_of_pos hy, Int.one_mul]
  · rw [Rat.den_divInt, if_neg (by omega), hg, Int.natCast_ediv, show ((y.natAbs : Nat) : Int) = y by omega]
theorem low_neg {x y : Int} (hy : y < 0) : (Rat.divInt x y).num = -(x / (Nat.gcd x.natAbs y.natAbs : Nat)) ∧ ((Rat.divInt x y).den : Int) = -(y / (Nat.gcd x.natAbs y.natAbs : Nat)) := by
  have hg : Int.gcd y x = Nat.gcd x.natAbs y.natAbs := by rw [Int.gcd_comm]; rfl
  have d1 : ((Nat.gcd x.natAbs y.natAbs : Nat) : Int) ∣ x := Int.ofNat_dvd_left.2 (Nat.gcd_dvd_left _ _)
  have d2 : ((Nat.gcd x.natAbs y.natAbs : Nat) : Int) ∣ y := Int.ofNat_dvd_left.2 (Nat.gcd_dvd_right _ _)
  refine ⟨?_, ?_⟩
  · rw [Rat.num_divInt, hg, Int.sign_eq_neg_one_of_neg hy, Int.neg_one_mul, Int.neg_ediv_of_dvd d1]
  · rw [Rat.den_divInt, if_neg (by omega), hg, Int.natCast_ediv, show ((y.natAbs : Nat) : Int) = -y by omega, Int.neg_ediv_of_dvd d2]
theorem abs_div_dvd {x : Int} {g : Nat} (h : (g : Int) ∣ x) (hg : 0 < g) : (x / (g : Int)).natAbs ≤ x.natAbs := by
  obtain ⟨k, rfl⟩ := h
  rw [Int.mul_ediv_cancel_left _ (by omega), Int.natAbs_mul]
  show k.natAbs ≤ g * k.natAbs
  exact Nat.le_mul_of_pos_left _ hg

theorem den_pos' (q : Rat) : (0 : Int) < q.den := by
  have := q.den_pos
  omega
theorem q_add (a b : Rat) : Rat.divInt (a.num * b.den + b.num * a.den) (a.den * b.den) = a + b := by
  rw [Rat.add_def', ← Int.natCast_mul, Rat.divInt_ofNat]
theorem q_mul (a b : Rat) : Rat.divInt (a.num * b.num) (a.den * b.den) = a * b := by
  rw [Rat.mul_def', ← Int.natCast_mul, Rat.divInt_ofNat]
theorem q_divInt1 (x : Int) : Rat.divInt x 1 = (x : Rat) := by
  rw [show (1 : Int) = ((1 : Nat) : Int) from rfl, Rat.divInt_ofNat, Rat.mkRat_one]
/-- n/d in lowest terms: by which number both are multiplied. -/
theorem parts_of {n d : Int} {q : Rat} (hd : 0 < d) (h : q = Rat.divInt n d) : ∃ g : Int, 0 < g ∧ n = q.num * g ∧ d = q.den * g := by
  obtain ⟨hn, hdd⟩ := (show (Rat.divInt n d).num = n / (Nat.gcd n.natAbs d.natAbs : Nat) ∧ ((Rat.divInt n d).den : Int) = d / (Nat.gcd n.natAbs d.natAbs : Nat) by
    have hg : Int.gcd d n = Nat.gcd n.natAbs d.natAbs := by rw [Int.gcd_comm]; rfl
    refine ⟨?_, ?_⟩
    · rw [Rat.num_divInt, hg, Int.sign_eq_one_of_pos hd, Int.one_mul]
    · rw [Rat.den_divInt, if_neg (by omega), hg, Int.natCast_ediv, show ((d.natAbs : Nat) : Int) = d by omega])
  subst h
  have hgp : 0 < Nat.gcd n.natAbs d.natAbs := Nat.gcd_pos_of_pos_right _ (by omega)
  refine ⟨(Nat.gcd n.natAbs d.natAbs : Nat), by omega, ?_, ?_⟩
  · rw [hn]
    exact (Int.ediv_mul_cancel (Int.ofNat_dvd_left.2 (Nat.gcd_dvd_left _ _))).symm
  · rw [hdd]
    exact (Int.ediv_mul_cancel (Int.ofNat_dvd_left.2 (Nat.gcd_dvd_right _ _))).symm
theorem cmpQ_cross {n d m e : Int} {a b : Rat} (hd : 0 < d) (he : 0 < e) (ha : a = Rat.divInt n d) (hb : b = Rat.divInt m e) : cmpZ (n * e) (m * d) = cmpQ a b := by
  obtain ⟨g, hg, rfl, rfl⟩ := parts_of hd ha
  obtain ⟨k, hk, rfl, rfl⟩ := parts_of he hb
  have e1 : a.num * g * (b.den * k) = (a.num * b.den) * (g * k) := by grind
  have e2 : b.num * k * (a.den * g) = (b.num * a.den) * (g * k) := by grind
  have hgk : 0 < g * k := Int.mul_pos hg hk
  have h1 : (a.num * b.den * (g * k) < b.num * a.den * (g * k)) ↔ a < b := by
    rw [Rat.lt_iff]
    exact ⟨fun h => Int.lt_of_mul_lt_mul_right h (Int.le_of_lt hgk), fun h => Int.mul_lt_mul_of_pos_right h hgk⟩
  have h2 : (a.num * b.den * (g * k) = b.num * a.den * (g * k)) ↔ a = b := by
    rw [Int.mul_eq_mul_right_iff (by omega), Rat.eq_iff_mul_eq_mul]
  unfold cmpZ cmpQ
  rw [e1, e2]
  simp only [h1, h2]
theorem cmpQ_parts (a b : Rat) : cmpZ (a.num * b.den) (b.num * a.den) = cmpQ a b := cmpQ_cross (den_pos' a) (den_pos' b) (Rat.num_divInt_den a).symm (Rat.num_divInt_den b).symm
theorem sign_of {n d : Int} {q : Rat} (hd : 0 < d) (h : q = Rat.divInt n d) : n.sign = q.num.sign := by
  obtain ⟨g, hg, rfl, rfl⟩ := parts_of hd h
  rw [Int.sign_mul, Int.sign_eq_one_of_pos hg, Int.mul_one]
theorem sign_eq0 {q : Rat} : q.num.sign = 0 ↔ q = 0 := by rw [Int.sign_eq_zero_iff_zero, Rat.num_eq_zero]
theorem sign_cmp {q : Rat} : q.num.sign = cmpQ q 0 := by
  unfold cmpQ
  by_cases h : q < 0
  · rw [if_pos h]
    rw [Rat.lt_iff] at h
    exact Int.sign_eq_neg_one_of_neg (by simpa using h)
  · rw [if_neg h]
    by_cases h0 : q = 0
    · rw [if_pos h0, h0]; rfl
    · rw [if_neg h0]
      rw [Rat.lt_iff] at h
      have : q.num ≠ 0 := fun e => h0 (Rat.num_eq_zero.1 e)
      have h : ¬ q.num < 0 := by simpa using h
      exact Int.sign_eq_one_of_pos (by omega)
/-- A quotient's text. -/
def qtxt (q : Rat) : ByteArray := if q.den = 1 then ztxt q.num else ztxt q.num ++ ⟨#[47]⟩ ++ ztxt q.den

abbrev qv (n : Sl) (nb : Bool) (d : Sl) (db : Bool) : Value := .agg #[.slice n.ao n.n n.c, .bool nb, .slice d.ao d.n d.c, .bool db]
abbrev pv (S : Int) (s : Sl) (R : Int) (t : Sl) : Value := .agg #[.int .i64 S, .slice s.ao s.n s.c, .int .i64 R, .slice t.ao t.n t.c]

/-- The place of the first stroke; the text's size, if there is none. -/
def sidx (s : ByteArray) : Nat := (bs s).findIdx (· == 47)
def over (s : ByteArray) : ByteArray := s.extract 0 (sidx s)
def under (s : ByteArray) : ByteArray := s.extract (sidx s + 1) s.size
/-- A quotient's text: which error. -/
def qerr (s : ByteArray) : Int := if zerr (over s) ≠ 0 then zerr (over s) else if sidx s < s.size then (if perr (under s) ≠ 0 then perr (under s) else if pval (under s) = 0 then 5 else 0) else 0
/-- Which quotient. -/
def qval (s : ByteArray) : Rat := if qerr s ≠ 0 then 0 else if sidx s < s.size then Rat.divInt (zval (over s)) (pval (under s)) else (zval (over s) : Rat)
theorem sidx_le (s : ByteArray) : sidx s ≤ s.size := by
  unfold sidx
  have := List.findIdx_le_length (p := (· == 47)) (xs := bs s)
  rwa [bs_size] at this
theorem over_all {s : ByteArray} (h : ¬ sidx s < s.size) : over s = s := by
  unfold over
  rw [show sidx s = s.size by have := sidx_le s; omega]
  exact ByteArray.extract_zero_size

end Go.Proofs.YtlpfkbkpnljieaaGreat

set_option linter.unusedSimpArgs false
set_option linter.unusedVariables false
namespace Go.Proofs.YtlpfkbkpnljieaaGreat
open Go.RowKit Go.IntWalk

/-- A quotient of frac: a denominator of 0 stands for 1. -/
def QF (n : Sl) (nb : Bool) (d : Sl) (db : Bool) (a : Nat × Rat) : Fact where
  p I w := ∃ y : Int, (ZF n nb (a.1, a.2.num)).p I w ∧ (ZF d db (a.1, y)).p I w ∧ (y = a.2.den ∨ (y = 0 ∧ a.2.den = 1))
  up := by
    rintro I I' w w' ⟨y, h, h', hy⟩ h1 h2 h3
    exact ⟨y, (ZF n nb _).up h h1 h2 h3, (ZF d db _).up h' h1 h2 h3, hy⟩
def QPost (L : Nat) (q : Rat) (v : Value) (Δ : List Fact) : Prop := ∃ (n : Sl) (nb : Bool) (d : Sl) (db : Bool), v = qv n nb d db ∧ Δ = [QF n nb d db (L, q)]
/-- With no error. -/
def QOk (L : Nat) (q : Rat) (v : Value) (Δ : List Fact) : Prop := ∃ (n : Sl) (nb : Bool) (d : Sl) (db : Bool), v = .tuple #[qv n nb d db, .int .i64 0] ∧ Δ = [QF n nb d db (L, q)]
/-- The error of a division by 0. -/
def QZero (v : Value) (Δ : List Fact) : Prop := v = .tuple #[qv ⟨none, 0, 0⟩ false ⟨none, 0, 0⟩ false, .int .i64 5] ∧ Δ = [QF ⟨none, 0, 0⟩ false ⟨none, 0, 0⟩ false (0, 0)]

section
variable {fin : VS → List Fact → Prop} {Γ : List Fact} {L M : Nat}

theorem W.qf {P : Program} {c : Cfg} (n : Sl) (nb : Bool) (d : Sl) (db : Bool) {q : Rat} [h : Has (QF n nb d db) (L, q) Γ] (hm : midOps c.k = false)
    (hk : ∀ y : Int, (y = q.den ∨ (y = 0 ∧ q.den = 1)) → W tb P fin c (ZF n nb (L, q.num) :: ZF d db (L, y) :: Γ)) : W tb P fin c Γ :=
  W.elim (α := Int) (fun y => y = q.den ∨ (y = 0 ∧ q.den = 1)) (fun y => [ZF n nb (L, q.num), ZF d db (L, y)]) hm (fun I w _ hh => by
    obtain ⟨y, h1, h2, h3⟩ := h.p hh
    exact ⟨y, h3, Holds.cons h1 (holds1 h2)⟩) hk
/-- The numerator alone. -/
theorem W.qn {P : Program} {c : Cfg} (n : Sl) (nb : Bool) (d : Sl) (db : Bool) {q : Rat} [h : Has (QF n nb d db) (L, q) Γ] (hm : midOps c.k = false)
    (hk : W tb P fin c (ZF n nb (L, q.num) :: Γ)) : W tb P fin c Γ :=
  W.elim (α := Unit) (fun _ => True) (fun _ => [ZF n nb (L, q.num)]) hm (fun I w _ hh => by
    obtain ⟨y, h1, h2, h3⟩ := h.p hh
    exact ⟨(), trivial, holds1 h1⟩) (fun _ _ => hk)
theorem entQ {n d : Sl} {nb db : Bool} {L' : Nat} {q q' : Rat} [h : Has (QF n nb d db) (L, q) Γ] (hL : L ≤ L') (hq : q = q') : ∀ (I : Blk) (w : World), DataOK tb I w → Holds Γ I w → Holds [QF n nb d db (L', q')] I w := fun I w _ hh => by
  subst hq
  obtain ⟨y, ⟨⟨h1, h2, h3⟩, h4⟩, ⟨⟨g1, g2, g3⟩, g4⟩, hy⟩ := h.p hh
  exact holds1 ⟨y, ⟨⟨h1, h2, Nat.le_trans h3 hL⟩, h4⟩, ⟨⟨g1, g2, Nat.le_trans g3 hL⟩, g4⟩, hy⟩
/-- Of two whole numbers. -/
theorem entZQ {n d : Sl} {nb db : Bool} {L' : Nat} {x y : Int} {q : Rat} [h : Has (ZF n nb) (L, x) Γ] [h' : Has (ZF d db) (M, y) Γ] (hL : L ≤ L') (hM : M ≤ L') (hx : x = q.num) (hy : y = q.den ∨ (y = 0 ∧ q.den = 1)) : ∀ (I : Blk) (w : World), DataOK tb I w → Holds Γ I w → Holds [QF n nb d db (L', q)] I w := fun I w _ hh => by
  subst hx
  obtain ⟨⟨h1, h2, h3⟩, h4⟩ := h.p hh
  obtain ⟨⟨g1, g2, g3⟩, g4⟩ := h'.p hh
  exact holds1 ⟨y, ⟨⟨h1, h2, Nat.le_trans h3 hL⟩, h4⟩, ⟨⟨g1, g2, Nat.le_trans g3 hM⟩, g4⟩, hy⟩
theorem entQ0 {L' : Nat} : ∀ (I : Blk) (w : World), DataOK tb I w → Holds Γ I w → Holds [QF ⟨none, 0, 0⟩ false ⟨none, 0, 0⟩ false (L', 0)] I w := fun I w hd hh =>
  holds1 ⟨0, (entZnil (L' := L') I w hd hh).h0', (entZnil (L' := L') I w hd hh).h0', .inr ⟨rfl, rfl⟩⟩
/-- A number that is no farther from 0 than another needs no more room. -/
theorem fitZ {I : Blk} {w : World} {u t : Sl} {d c : Bool} {L M L' : Nat} {x y : Int} (h : (ZF u d (L, x)).p I w) (h' : (ZF t c (M, y)).p I w) (hx : x.natAbs ≤ y.natAbs) (hL : M ≤ L') : (ZF u d (L', x)).p I w := by
  obtain ⟨⟨h1, h2, h3⟩, h4⟩ := h
  obtain ⟨⟨g1, g2, g3⟩, g4⟩ := h'
  have h1 : NatS w u x.natAbs := h1
  have g1 : NatS w t y.natAbs := g1
  have := h1.n_le g1 hx
  simp only at g3
  exact ⟨⟨h1, h2, by simp only; omega⟩, h4⟩
/-- How long its text may be. -/
theorem W.zsz {P : Program} {c : Cfg} (s : Sl) (b : Bool) {x : Int} [h : Has (ZF s b) (L, x) Γ] (hm : midOps c.k = false) (hk : (ztxt x).size ≤ 1000000000 → W tb P fin c Γ) (hL : L ≤ 10000000 := by omega) : W tb P fin c Γ :=
  W.know _ hm (fun I w _ hh => by
    obtain ⟨⟨h1, h2, h3⟩, _⟩ := h.p hh
    have h1 : NatS w s x.natAbs := h1
    have := txt_dec_size (dl_bound h1)
    simp only at h3
    unfold ztxt
    split
    · rw [ByteArray.size_append]; show 1 + _ ≤ _; omega
    · omega) hk
/-- What is in lowest terms needs no more room. -/
theorem entQl {n d u t : Sl} {nb db ub tb' : Bool} {L' L1 M1 : Nat} {x y a b : Int} {q : Rat} [h1 : Has (ZF u ub) (L1, a) Γ] [h2 : Has (ZF t tb') (M1, b) Γ] [h3 : Has (ZF n nb) (L, x) Γ] [h4 : Has (ZF d db) (M, y) Γ]
    (ha : a = q.num) (hb : b = q.den) (hx : a.natAbs ≤ x.natAbs) (hy : b.natAbs ≤ y.natAbs) (hL : L ≤ L') (hM : M ≤ L') : ∀ (I : Blk) (w : World), DataOK tb I w → Holds Γ I w → Holds [QF u ub t tb' (L', q)] I w := fun I w _ hh => by
  refine holds1 ⟨b, ?_, fitZ (h2.p hh) (h4.p hh) hy hM, .inl hb⟩
  rw [← ha]
  exact fitZ (h1.p hh) (h3.p hh) hx hL

theorem p_qlowest (n : Sl) (nb : Bool) (d : Sl) (db : Bool) {x y : Int} [hn : Has (ZF n nb) (L, x) Γ] [hd : Has (ZF d db) (M, y) Γ] (hy : y ≠ 0) (hL : L ≤ 1000000000 := by omega) (hM : M ≤ 1000000000 := by omega) :
    PCalls tb Tryz.prog 67 [zv n nb, zv d db] Γ (QPost (max L M) (Rat.divInt x y)) := by
  have hgp : 0 < Nat.gcd x.natAbs y.natAbs := Nat.gcd_pos_of_pos_right _ (by omega)
  have d1 : ((Nat.gcd x.natAbs y.natAbs : Nat) : Int) ∣ x := Int.ofNat_dvd_left.2 (Nat.gcd_dvd_left _ _)
  have d2 : ((Nat.gcd x.natAbs y.natAbs : Nat) : Int) ∣ y := Int.ofNat_dvd_left.2 (Nat.gcd_dvd_right _ _)
  have b1 := abs_div_dvd d1 hgp
  have b2 := abs_div_dvd d2 hgp
  have l1 := fun h => low_pos (x := x) (y := y) h
  have l2 := fun h => low_neg (x := x) (y := y) h
  obtain ⟨g, hg⟩ : ∃ g, g = Nat.gcd x.natAbs y.natAbs := ⟨_, rfl⟩
  rw [← hg] at hgp d1 d2 b1 b2 l1 l2
  have hs : (y / (g : Int)).sign = y.sign := by
    obtain ⟨k, hk⟩ := d2
    rw [hk, Int.mul_ediv_cancel_left _ (by omega), Int.sign_mul, show (g : Int).sign = 1 from Int.sign_eq_one_of_pos (by omega), Int.one_mul]
  refine PCalls.of_W tbOk Tryz.func67 rfl (by kernel_rfl) ?_
  refine W.cl [] (by kernel_rfl) (p_zabs n nb) ?_
  rintro _ _ ⟨rfl, rfl⟩
  refine W.cl [] (by kernel_rfl) (p_zabs d db) ?_
  rintro _ _ ⟨rfl, rfl⟩
  refine W.cl [] (by kernel_rfl) (p_gcd n d) ?_
  rintro _ _ ⟨u3, rfl, rfl⟩
  rw [← hg]
  refine W.cl [] (by kernel_rfl) (p_of' 1 1 rfl (by omega)) ?_
  rintro _ _ ⟨u4, rfl, rfl⟩
  refine W.cl [] (by kernel_rfl) (p_cmp u3 u4) ?_
  rintro _ _ ⟨rfl, rfl⟩
  refine W.d [] 16 ((cmpN g 1) != 0) (by kernel_rfl) (fun hb => ?_) (fun hb => ?_)
  · refine W.cl [16] (by kernel_rfl) (p_zbig u3) ?_
    rintro _ _ ⟨u6, d6, rfl, rfl⟩
    refine W.cl [] (by kernel_rfl) (p_zfloor n nb u6 d6 (by omega)) ?_
    rintro _ _ ⟨u7, d7, v7, e7, rfl, rfl⟩
    refine W.cl [] (by kernel_rfl) (p_zbig u3) ?_
    rintro _ _ ⟨u8, d8, rfl, rfl⟩
    refine W.cl [] (by kernel_rfl) (p_zfloor d db u8 d8 (by omega)) ?_
    rintro _ _ ⟨u9, d9, v9, e9, rfl, rfl⟩
    refine W.cl [] (by kernel_rfl) (p_zsign u9 d9) ?_
    rintro _ _ ⟨rfl, rfl⟩
    rw [hs]
    by_cases hn0 : y < 0
    · refine W.dt [] 35 (decide (y.sign < 0)) (by kernel_rfl) (by rw [decide_eq_true_iff, sign_lt]; exact hn0) ?_
      refine W.cl [35] (by kernel_rfl) (p_zneg u7 d7) ?_
      rintro _ _ ⟨u11, d11, rfl, rfl⟩
      refine W.cl [] (by kernel_rfl) (p_zneg u9 d9) ?_
      rintro _ _ ⟨u12, d12, rfl, rfl⟩
      exact W.r [] (qv u11 d11 u12 d12) (by kernel_rfl) ⟨_, _, _, _, rfl, rfl⟩ (entQl (n := n) (nb := nb) (d := d) (db := db) (l2 hn0).1.symm (l2 hn0).2.symm (by omega) (by omega) (by omega) (by omega))
    · refine W.df [] 35 (decide (y.sign < 0)) (by kernel_rfl) (by rw [decide_eq_false_iff_not, sign_lt]; exact hn0) ?_
      exact W.r [35] (qv u7 d7 u9 d9) (by kernel_rfl) ⟨_, _, _, _, rfl, rfl⟩ (entQl (n := n) (nb := nb) (d := d) (db := db) (l1 (by omega)).1.symm (l1 (by omega)).2.symm (by omega) (by omega) (by omega) (by omega))
  · have hg1 : g = 1 := by
      have := eq_of_beq (show cmpN g 1 == 0 by simpa using hb)
      rw [cmpZ_nat, cmpZ_eq] at this
      omega
    subst hg1
    simp only [Int.natCast_one, Int.ediv_one, Int.cast_ofNat_Int] at l1 l2
    refine W.cl [16] (by kernel_rfl) (p_zsign d db) ?_
    rintro _ _ ⟨rfl, rfl⟩
    by_cases hn0 : y < 0
    · refine W.dt [] 35 (decide (y.sign < 0)) (by kernel_rfl) (by rw [decide_eq_true_iff, sign_lt]; exact hn0) ?_
      refine W.cl [35] (by kernel_rfl) (p_zneg n nb) ?_
      rintro _ _ ⟨u14, d14, rfl, rfl⟩
      refine W.cl [] (by kernel_rfl) (p_zneg d db) ?_
      rintro _ _ ⟨u15, d15, rfl, rfl⟩
      exact W.r [] (qv u14 d14 u15 d15) (by kernel_rfl) ⟨_, _, _, _, rfl, rfl⟩ (entZQ (by omega) (by omega) (l2 hn0).1.symm (.inl (l2 hn0).2.symm))
    · refine W.df [] 35 (decide (y.sign < 0)) (by kernel_rfl) (by rw [decide_eq_false_iff_not, sign_lt]; exact hn0) ?_
      exact W.r [35] (qv n nb d db) (by kernel_rfl) ⟨_, _, _, _, rfl, rfl⟩ (entZQ (by omega) (by omega) (l1 (by omega)).1.symm (.inl (l1 (by omega)).2.symm))

theorem p_qmake (n : Sl) (nb : Bool) (d : Sl) (db : Bool) {x y : Int} [hn : Has (ZF n nb) (L, x) Γ] [hd : Has (ZF d db) (M, y) Γ] (hy : y ≠ 0) (hL : L ≤ 1000000000 := by omega) (hM : M ≤ 1000000000 := by omega) :
    PCalls tb Tryz.prog 50 [zv n nb, zv d db] Γ (QOk (max L M) (Rat.divInt x y)) := by
  refine PCalls.of_W tbOk Tryz.func50 rfl (by kernel_rfl) ?_
  refine W.cl [] (by kernel_rfl) (p_zsign d db) ?_
  rintro _ _ ⟨rfl, rfl⟩
  refine W.df [] 8 (y.sign == 0) (by kernel_rfl) (by rw [beq_eq_false_iff_ne, ne_eq, sign_zero]; exact hy) ?_
  refine W.cl [8] (by kernel_rfl) (p_qlowest n nb d db hy) ?_
  rintro _ _ ⟨n2, a2, m2, b2, rfl, rfl⟩
  exact W.r [] (.tuple #[qv n2 a2 m2 b2, .int .i64 0]) (by kernel_rfl) ⟨_, _, _, _, rfl, rfl⟩ (entQ (Nat.le_refl _) rfl)
theorem p_qmake0 (n : Sl) (nb : Bool) (d : Sl) (db : Bool) {x : Int} [hn : Has (ZF n nb) (L, x) Γ] [hd : Has (ZF d db) (M, 0) Γ] (hM : M ≤ 1000000000 := by omega) :
    PCalls tb Tryz.prog 50 [zv n nb, zv d db] Γ QZero := by
  refine PCalls.of_W tbOk Tryz.func50 rfl (by kernel_rfl) ?_
  refine W.cl [] (by kernel_rfl) (p_zsign d db) ?_
  rintro _ _ ⟨rfl, rfl⟩
  refine W.dt [] 8 ((0 : Int).sign == 0) (by kernel_rfl) rfl ?_
  exact W.r [8] (.tuple #[qv ⟨none, 0, 0⟩ false ⟨none, 0, 0⟩ false, .int .i64 5]) (by kernel_rfl) ⟨rfl, rfl⟩ entQ0
theorem p_qof (a b : Int) (hb : b ≠ 0) (h1 : -9223372036854775808 ≤ a) (h2 : a < 9223372036854775808) (h3 : -9223372036854775808 ≤ b) (h4 : b < 9223372036854775808) :
    PCalls tb Tryz.prog 85 [.int .i64 a, .int .i64 b] Γ (QOk 2 (Rat.divInt a b)) := by
  refine PCalls.of_W tbOk Tryz.func85 rfl (by kernel_rfl) ?_
  refine W.cl [] (by kernel_rfl) (p_zof a h1 h2) ?_
  rintro _ _ ⟨u1, d1, rfl, rfl⟩
  refine W.cl [] (by kernel_rfl) (p_zof b h3 h4) ?_
  rintro _ _ ⟨u2, d2, rfl, rfl⟩
  refine W.cl [] (by kernel_rfl) (p_qmake u1 d1 u2 d2 hb) ?_
  rintro _ _ ⟨n3, a3, m3, b3, rfl, rfl⟩
  exact W.r [] (.tuple #[qv n3 a3 m3 b3, .int .i64 0]) (by kernel_rfl) ⟨_, _, _, _, rfl, rfl⟩ (entQ (by omega) rfl)
theorem p_qwhole (n : Sl) (nb : Bool) {x : Int} [hn : Has (ZF n nb) (L, x) Γ] :
    PCalls tb Tryz.prog 23 [zv n nb] Γ (QPost (max L 2) (x : Rat)) := by
  refine PCalls.of_W tbOk Tryz.func23 rfl (by kernel_rfl) ?_
  refine W.cl [] (by kernel_rfl) (p_zof 1 (by omega) (by omega)) ?_
  rintro _ _ ⟨u1, d1, rfl, rfl⟩
  exact W.r [] (qv n nb u1 d1) (by kernel_rfl) ⟨_, _, _, _, rfl, rfl⟩ (entZQ (by omega) (by omega) rfl (.inl rfl))
theorem p_qnum (n : Sl) (nb : Bool) (d : Sl) (db : Bool) {q : Rat} [hn : Has (QF n nb d db) (L, q) Γ] :
    PCalls tb Tryz.prog 126 [qv n nb d db] Γ (ZPost L q.num) := by
  refine PCalls.of_W tbOk Tryz.func126 rfl (by kernel_rfl) ?_
  refine W.qn n nb d db rfl ?_
  exact W.r [] (zv n nb) (by kernel_rfl) ⟨_, _, rfl, rfl⟩ (entZ (Nat.le_refl _) rfl)
theorem p_qden (n : Sl) (nb : Bool) (d : Sl) (db : Bool) {q : Rat} [hn : Has (QF n nb d db) (L, q) Γ] (hL : L ≤ 1000000000 := by omega) :
    PCalls tb Tryz.prog 61 [qv n nb d db] Γ (ZPost (max L 2) (q.den : Int)) := by
  refine PCalls.of_W tbOk Tryz.func61 rfl (by kernel_rfl) ?_
  refine W.qf n nb d db rfl ?_
  rintro y hy
  refine W.cl [] (by kernel_rfl) (p_zsign d db) ?_
  rintro _ _ ⟨rfl, rfl⟩
  have hp := den_pos' q
  refine W.d [] 6 (y.sign == 0) (by kernel_rfl) (fun hb => ?_) (fun hb => ?_)
  · have h0 := sign_zero.1 (eq_of_beq hb)
    refine W.cl [6] (by kernel_rfl) (p_zof 1 (by omega) (by omega)) ?_
    rintro _ _ ⟨u2, d2, rfl, rfl⟩
    exact W.r [] (zv u2 d2) (by kernel_rfl) ⟨_, _, rfl, rfl⟩ (entZ (by omega) (by omega))
  · have h0 : y ≠ 0 := fun h => (ne_of_beq_false hb) (sign_zero.2 h)
    exact W.r [6] (zv d db) (by kernel_rfl) ⟨_, _, rfl, rfl⟩ (entZ (by omega) (by omega))
theorem p_qsign (n : Sl) (nb : Bool) (d : Sl) (db : Bool) {q : Rat} [hn : Has (QF n nb d db) (L, q) Γ] (hL : L ≤ 1000000000 := by omega) :
    PCalls tb Tryz.prog 55 [qv n nb d db] Γ (IsV (.int .i64 q.num.sign)) := by
  refine PCalls.of_W tbOk Tryz.func55 rfl (by kernel_rfl) ?_
  refine W.qn n nb d db rfl ?_
  refine W.cl [] (by kernel_rfl) (p_zsign n nb) ?_
  rintro _ _ ⟨rfl, rfl⟩
  exact W.r [] (.int .i64 (q.num).sign) (by kernel_rfl) ⟨rfl, rfl⟩ ent0
theorem p_qcmp (n : Sl) (nb : Bool) (d : Sl) (db : Bool) (m : Sl) (mb : Bool) (e : Sl) (eb : Bool) {a b : Rat} [hn : Has (QF n nb d db) (L, a) Γ] [hm : Has (QF m mb e eb) (M, b) Γ] (hL : L ≤ 1000000 := by omega) (hM : M ≤ 1000000 := by omega) :
    PCalls tb Tryz.prog 29 [qv n nb d db, qv m mb e eb] Γ (IsV (.int .i64 (cmpQ a b))) := by
  refine PCalls.of_W tbOk Tryz.func29 rfl (by kernel_rfl) ?_
  refine W.qn n nb d db rfl ?_
  refine W.qn m mb e eb rfl ?_
  refine W.cl [] (by kernel_rfl) (p_qden m mb e eb) ?_
  rintro _ _ ⟨u1, d1, rfl, rfl⟩
  refine W.cl [] (by kernel_rfl) (p_zmul n nb u1 d1) ?_
  rintro _ _ ⟨u2, d2, rfl, rfl⟩
  refine W.cl [] (by kernel_rfl) (p_qden n nb d db) ?_
  rintro _ _ ⟨u3, d3, rfl, rfl⟩
  refine W.cl [] (by kernel_rfl) (p_zmul m mb u3 d3) ?_
  rintro _ _ ⟨u4, d4, rfl, rfl⟩
  refine W.cl [] (by kernel_rfl) (p_zcmp u2 d2 u4 d4) ?_
  rintro _ _ ⟨rfl, rfl⟩
  exact W.r [] (.int .i64 (cmpZ (a.num * (b.den : Int)) (b.num * (a.den : Int)))) (by kernel_rfl) ⟨by rw [cmpQ_parts], rfl⟩ ent0
theorem p_qneg (n : Sl) (nb : Bool) (d : Sl) (db : Bool) {q : Rat} [hn : Has (QF n nb d db) (L, q) Γ] (hL : L ≤ 1000000000 := by omega) :
    PCalls tb Tryz.prog 95 [qv n nb d db] Γ (QPost L (-q)) := by
  refine PCalls.of_W tbOk Tryz.func95 rfl (by kernel_rfl) ?_
  refine W.qf n nb d db rfl ?_
  rintro y hy
  refine W.cl [] (by kernel_rfl) (p_zneg n nb) ?_
  rintro _ _ ⟨u1, d1, rfl, rfl⟩
  exact W.r [] (qv u1 d1 d db) (by kernel_rfl) ⟨_, _, _, _, rfl, rfl⟩ (entZQ (by omega) (by omega) (by rw [Rat.neg_num]) (by rw [Rat.neg_den]; exact hy))
theorem p_qadd (n : Sl) (nb : Bool) (d : Sl) (db : Bool) (m : Sl) (mb : Bool) (e : Sl) (eb : Bool) {a b : Rat} [hn : Has (QF n nb d db) (L, a) Γ] [hm : Has (QF m mb e eb) (M, b) Γ] (hL : L ≤ 1000000 := by omega) (hM : M ≤ 1000000 := by omega) :
    PCalls tb Tryz.prog 86 [qv n nb d db, qv m mb e eb] Γ (QPost (L + M + 5) (a + b)) := by
  refine PCalls.of_W tbOk Tryz.func86 rfl (by kernel_rfl) ?_
  refine W.qn n nb d db rfl ?_
  refine W.qn m mb e eb rfl ?_
  refine W.cl [] (by kernel_rfl) (p_qden m mb e eb) ?_
  rintro _ _ ⟨u1, d1, rfl, rfl⟩
  refine W.cl [] (by kernel_rfl) (p_zmul n nb u1 d1) ?_
  rintro _ _ ⟨u2, d2, rfl, rfl⟩
  refine W.cl [] (by kernel_rfl) (p_qden n nb d db) ?_
  rintro _ _ ⟨u3, d3, rfl, rfl⟩
  refine W.cl [] (by kernel_rfl) (p_zmul m mb u3 d3) ?_
  rintro _ _ ⟨u4, d4, rfl, rfl⟩
  refine W.cl [] (by kernel_rfl) (p_zadd u2 d2 u4 d4) ?_
  rintro _ _ ⟨u5, d5, rfl, rfl⟩
  refine W.cl [] (by kernel_rfl) (p_qden n nb d db) ?_
  rintro _ _ ⟨u6, d6, rfl, rfl⟩
  refine W.cl [] (by kernel_rfl) (p_qden m mb e eb) ?_
  rintro _ _ ⟨u7, d7, rfl, rfl⟩
  refine W.cl [] (by kernel_rfl) (p_zmul u6 d6 u7 d7) ?_
  rintro _ _ ⟨u8, d8, rfl, rfl⟩
  refine W.cl [] (by kernel_rfl) (p_qlowest u5 d5 u8 d8 (Int.mul_ne_zero (by have := den_pos' a; omega) (by have := den_pos' b; omega))) ?_
  rintro _ _ ⟨n9, a9, m9, b9, rfl, rfl⟩
  exact W.r [] (qv n9 a9 m9 b9) (by kernel_rfl) ⟨_, _, _, _, rfl, rfl⟩ (entQ (by omega) (q_add a b))
theorem p_qsub (n : Sl) (nb : Bool) (d : Sl) (db : Bool) (m : Sl) (mb : Bool) (e : Sl) (eb : Bool) {a b : Rat} [hn : Has (QF n nb d db) (L, a) Γ] [hm : Has (QF m mb e eb) (M, b) Γ] (hL : L ≤ 1000000 := by omega) (hM : M ≤ 1000000 := by omega) :
    PCalls tb Tryz.prog 88 [qv n nb d db, qv m mb e eb] Γ (QPost (L + M + 5) (a - b)) := by
  refine PCalls.of_W tbOk Tryz.func88 rfl (by kernel_rfl) ?_
  refine W.cl [] (by kernel_rfl) (p_qneg m mb e eb) ?_
  rintro _ _ ⟨n1, a1, m1, b1, rfl, rfl⟩
  refine W.cl [] (by kernel_rfl) (p_qadd n nb d db n1 a1 m1 b1) ?_
  rintro _ _ ⟨n2, a2, m2, b2, rfl, rfl⟩
  exact W.r [] (qv n2 a2 m2 b2) (by kernel_rfl) ⟨_, _, _, _, rfl, rfl⟩ (entQ (by omega) (Rat.sub_eq_add_neg _ _).symm)
theorem p_qmul (n : Sl) (nb : Bool) (d : Sl) (db : Bool) (m : Sl) (mb : Bool) (e : Sl) (eb : Bool) {a b : Rat} [hn : Has (QF n nb d db) (L, a) Γ] [hm : Has (QF m mb e eb) (M, b) Γ] (hL : L ≤ 1000000 := by omega) (hM : M ≤ 1000000 := by omega) :
    PCalls tb Tryz.prog 31 [qv n nb d db, qv m mb e eb] Γ (QPost (L + M + 5) (a * b)) := by
  refine PCalls.of_W tbOk Tryz.func31 rfl (by kernel_rfl) ?_
  refine W.qn n nb d db rfl ?_
  refine W.qn m mb e eb rfl ?_
  refine W.cl [] (by kernel_rfl) (p_zmul n nb m mb) ?_
  rintro _ _ ⟨u1, d1, rfl, rfl⟩
  refine W.cl [] (by kernel_rfl) (p_qden n nb d db) ?_
  rintro _ _ ⟨u2, d2, rfl, rfl⟩
  refine W.cl [] (by kernel_rfl) (p_qden m mb e eb) ?_
  rintro _ _ ⟨u3, d3, rfl, rfl⟩
  refine W.cl [] (by kernel_rfl) (p_zmul u2 d2 u3 d3) ?_
  rintro _ _ ⟨u4, d4, rfl, rfl⟩
  refine W.cl [] (by kernel_rfl) (p_qlowest u1 d1 u4 d4 (Int.mul_ne_zero (by have := den_pos' a; omega) (by have := den_pos' b; omega))) ?_
  rintro _ _ ⟨n5, a5, m5, b5, rfl, rfl⟩
  exact W.r [] (qv n5 a5 m5 b5) (by kernel_rfl) ⟨_, _, _, _, rfl, rfl⟩ (entQ (by omega) (q_mul a b))
theorem p_qtext (n : Sl) (nb : Bool) (d : Sl) (db : Bool) {q : Rat} [hn : Has (QF n nb d db) (L, q) Γ] (hL : L ≤ 1000000 := by omega) :
    PCalls tb Tryz.prog 70 [qv n nb d db] Γ (IsV (.string (qtxt q))) := by
  refine PCalls.of_W tbOk Tryz.func70 rfl (by kernel_rfl) ?_
  refine W.qn n nb d db rfl ?_
  refine W.cl [] (by kernel_rfl) (p_qden n nb d db) ?_
  rintro _ _ ⟨u1, d1, rfl, rfl⟩
  refine W.cl [] (by kernel_rfl) (p_zof 1 (by omega) (by omega)) ?_
  rintro _ _ ⟨u2, d2, rfl, rfl⟩
  refine W.cl [] (by kernel_rfl) (p_zcmp u1 d1 u2 d2) ?_
  rintro _ _ ⟨rfl, rfl⟩
  by_cases h1 : q.den = 1
  · refine W.df [] 9 ((cmpZ (q.den : Int) 1) != 0) (by kernel_rfl) (by rw [h1]; rfl) ?_
    refine W.cl [9] (by kernel_rfl) (p_ztext n nb) ?_
    rintro _ _ ⟨rfl, rfl⟩
    exact W.r [] (.string (ztxt q.num)) (by kernel_rfl) ⟨by unfold qtxt; rw [if_pos h1], rfl⟩ ent0
  · have hne : cmpZ (q.den : Int) 1 ≠ 0 := fun h => h1 (by have := cmpZ_eq.1 h; omega)
    refine W.dt [] 9 ((cmpZ (q.den : Int) 1) != 0) (by kernel_rfl) (by simpa using hne) ?_
    refine W.zsz n nb (by kernel_rfl) (fun s1 => ?_)
    refine W.zsz u1 d1 (by kernel_rfl) (fun s2 => ?_)
    refine W.cl [9] (by kernel_rfl) (p_ztext n nb) ?_
    rintro _ _ ⟨rfl, rfl⟩
    refine W.cat [] (ztxt q.num) ⟨#[47]⟩ (by kernel_rfl) (by show _ + 1 ≤ _; omega) ?_
    refine W.cl [] (by kernel_rfl) (p_ztext u1 d1) ?_
    rintro _ _ ⟨rfl, rfl⟩
    refine W.cat [] (ztxt q.num ++ ⟨#[47]⟩) (ztxt q.den) (by kernel_rfl) (by rw [ByteArray.size_append]; show _ + 1 + _ ≤ _; omega) ?_
    exact W.r [] (.string (ztxt q.num ++ ⟨#[47]⟩ ++ ztxt q.den)) (by kernel_rfl) ⟨by unfold qtxt; rw [if_neg h1], rfl⟩ ent0
end

end Go.Proofs.YtlpfkbkpnljieaaGreat

set_option linter.unusedSimpArgs false
set_option linter.unusedVariables false
namespace Go.Proofs.YtlpfkbkpnljieaaGreat
open Go.RowKit Go.IntWalk

/-- A quotient of the reference: any two numbers, the second above 0. -/
def PF (S : Int) (s : Sl) (R : Int) (t : Sl) (a : Nat × Rat) : Fact where
  p I w := ∃ n d : Int, (YF S s (a.1, n)).p I w ∧ (YF R t (a.1, d)).p I w ∧ 0 < d ∧ a.2 = Rat.divInt n d
  up := by
    rintro I I' w w' ⟨n, d, h, h', hd, hq⟩ h1 h2 h3
    exact ⟨n, d, (YF S s _).up h h1 h2 h3, (YF R t _).up h' h1 h2 h3, hd, hq⟩
section
variable {fin : VS → List Fact → Prop} {Γ : List Fact} {L M : Nat}

theorem natAbs_div {x : Int} {g : Nat} (h : (g : Int) ∣ x) (hg : 0 < g) : (x / (g : Int)).natAbs = x.natAbs / g := by
  obtain ⟨k, rfl⟩ := h
  rw [Int.mul_ediv_cancel_left _ (by omega), Int.natAbs_mul]
  show k.natAbs = g * k.natAbs / g
  rw [Nat.mul_div_cancel_left _ hg]

/-- How long its text may be. -/
theorem W.ysz {P : Program} {c : Cfg} (S : Int) (s : Sl) {x : Int} [h : Has (YF S s) (L, x) Γ] (hm : midOps c.k = false) (hk : (ztxt x).size ≤ 1000000000 → W tb P fin c Γ) (hL : L ≤ 10000000 := by omega) : W tb P fin c Γ :=
  W.know _ hm (fun I w _ hh => by
    obtain ⟨⟨h1, h2, h3⟩, _⟩ := h.p hh
    have h1 : RefS w s x.natAbs := h1
    have := txt_dec_size (rdl_bound h1)
    simp only at h3
    unfold ztxt
    split
    · rw [ByteArray.size_append]; show 1 + _ ≤ _; omega
    · omega) hk
end

end Go.Proofs.YtlpfkbkpnljieaaGreat

set_option linter.unusedSimpArgs false
set_option linter.unusedVariables false
namespace Go.Proofs.YtlpfkbkpnljieaaGreat
open Go.RowKit Go.IntWalk

theorem ib_cons (b : UInt8) (l : List UInt8) (c : UInt8) : Lib.indexByte (b :: l) c = if b == c then 0 else if Lib.indexByte l c == -1 then -1 else Lib.indexByte l c + 1 := by rw [Lib.indexByte]
theorem indexByte_list : ∀ l : List UInt8, Lib.indexByte l 47 = if (l.map fun b => b.toNat).findIdx (· == 47) < l.length then (((l.map fun b => b.toNat).findIdx (· == 47) : Nat) : Int) else -1
  | [] => rfl
  | b :: l => by
    have ih := indexByte_list l
    rw [List.map_cons, List.findIdx_cons, List.length_cons, ib_cons]
    by_cases hb : b = 47
    · subst hb
      simp
    · have h1 : (b == 47) = false := beq_eq_false_iff_ne.2 hb
      have h2 : (b.toNat == 47) = false := beq_eq_false_iff_ne.2 (fun h => hb (UInt8.toNat_inj.1 h))
      rw [h1, h2, ih]
      simp only [Bool.false_eq_true, if_false, cond_false, Nat.add_lt_add_iff_right]
      by_cases h3 : (l.map fun b => b.toNat).findIdx (· == 47) < l.length
      · simp only [h3, if_true]
        rw [beq_eq_false_iff_ne.2 (by omega)]
        simp
      · simp only [h3, if_false]
        rfl
theorem indexByte_sidx (s : ByteArray) : Lib.indexByte s.data.toList 47 = if sidx s < s.size then (sidx s : Int) else -1 := by
  rw [indexByte_list]
  rfl

/-- The first stroke from a place on. -/
def sat (s : ByteArray) (j : Nat) : Int := if Lib.indexByte (s.data.toList.drop j) 47 = -1 then -1 else Lib.indexByte (s.data.toList.drop j) 47 + j
theorem sat_end (s : ByteArray) : sat s s.size = -1 := by
  unfold sat
  rw [List.drop_of_length_le (by show s.data.toList.length ≤ s.data.size; simp)]
  rfl
theorem sat_step {s : ByteArray} {j : Nat} (h : j < s.size) : sat s j = if (((s[j]'h).toNat : Nat) : Int) = 47 then (j : Int) else sat s (j + 1) := by
  have hl : j < s.data.toList.length := by simpa using h
  have e : s.data.toList.drop j = s[j] :: s.data.toList.drop (j + 1) := by
    rw [List.drop_eq_getElem_cons hl]
    rfl
  unfold sat
  rw [e]
  have hge := Lib.indexByte_ge (s.data.toList.drop (j + 1)) 47
  generalize s.data.toList.drop (j + 1) = l at *
  show (if Lib.indexByte (s[j] :: l) 47 = -1 then (-1 : Int) else Lib.indexByte (s[j] :: l) 47 + j) = _
  rw [ib_cons]
  by_cases hb : s[j] = 47
  · have h2 : (((s[j]'h).toNat : Nat) : Int) = 47 := by rw [hb]; rfl
    rw [if_pos h2, hb]
    simp
  · have h1 : (s[j] == 47) = false := beq_eq_false_iff_ne.2 hb
    have h2 : ¬ (((s[j]'h).toNat : Nat) : Int) = 47 := fun h => hb (UInt8.toNat_inj.1 (by show _ = 47; omega))
    rw [if_neg h2, h1]
    simp only [Bool.false_eq_true, if_false]
    by_cases h3 : Lib.indexByte l 47 = -1
    · rw [h3]; simp
    · rw [beq_eq_false_iff_ne.2 h3]
      simp only [Bool.false_eq_true, if_false, h3]
      rw [if_neg (by omega)]
      omega
theorem sat_zero (s : ByteArray) : sat s 0 = if sidx s < s.size then (sidx s : Int) else -1 := by
  unfold sat
  rw [List.drop_zero, indexByte_sidx]
  split
  · rw [if_neg (by omega)]; omega
  · rfl

theorem over_size (s : ByteArray) : (over s).size ≤ s.size := by unfold over; rw [ByteArray.size_extract]; omega
theorem under_size (s : ByteArray) : (under s).size ≤ s.size := by unfold under; rw [ByteArray.size_extract]; omega

section
variable {fin : VS → List Fact → Prop} {Γ : List Fact} {L M : Nat}

set_option maxRecDepth 100000 in
theorem indexByte_spec (s : ByteArray) (w : World) : Calls Tryz.prog 119 #[.string s, .int .u8 47] w fun e w' => e = .returned (.int .i64 (Lib.indexByte s.data.toList 47)) ∧ w' = w := by
  go_enter Tryz.func119, Tryz.ntmps119
  go_wp2
  rw [run_callFunc_extern Tryz.func133 (by kernel_rfl) (by kernel_rfl) (by kernel_rfl) (e := Extern.BytealgIndexByte.indexByte) (by kernel_rfl), Lib.run_indexByteString]
  simp only [Result.andThen]
  rw [Oper.upon_value]
  go_wp2
  go_ret
  exact ⟨rfl, rfl⟩
theorem p_indexByte (s : ByteArray) : PCalls tb Tryz.prog 119 [.string s, .int .u8 47] Γ (IsV (.int .i64 (if sidx s < s.size then (sidx s : Int) else -1))) :=
  ⟨⟨_, Tryz.func119, by kernel_rfl, by kernel_rfl⟩, fun I w hd hh => by
    refine (indexByte_spec s w).mono ?_
    rintro e w' ⟨rfl, rfl⟩
    rw [indexByte_sidx]
    exact ⟨_, _, rfl, ⟨rfl, rfl⟩, Below.refl _ _, Holds.nil _ _⟩⟩
theorem p_index (s : ByteArray) : PCalls tb Tryz.prog 105 [.string s, .string ⟨#[47]⟩] Γ (IsV (.int .i64 (if sidx s < s.size then (sidx s : Int) else -1))) := by
  refine PCalls.of_W tbOk Tryz.func105 rfl (by kernel_rfl) ?_
  refine W.d [19] 16 ((⟨#[47]⟩ : ByteArray).toList == s.toList) (by kernel_rfl) (fun hb => ?_) (fun hb => ?_)
  · have hs : s = ⟨#[47]⟩ := by
      have := eq_of_beq hb
      rw [ByteArray.toList_eq, ByteArray.toList_eq] at this
      exact (ByteArray.ext (Array.ext' this)).symm
    subst hs
    exact W.r [16] (.int .i64 0) (by kernel_rfl) ⟨rfl, rfl⟩ ent0
  · refine W.idx [24, 16] ⟨#[47]⟩ .i64 0 0 rfl tbOk (by kernel_rfl) (by decide) ?_
    refine W.cl [] (by kernel_rfl) (p_indexByte s) ?_
    rintro _ _ ⟨rfl, rfl⟩
    exact W.r [] (.int .i64 (if sidx s < s.size then (sidx s : Int) else -1)) (by kernel_rfl) ⟨rfl, rfl⟩ ent0
theorem p_cut47a (s : ByteArray) (hs : s.size ≤ 9223372036854775807) : PCalls tb Tryz.prog 78 [.string s, .string ⟨#[47]⟩] Γ (IsV (.tuple #[.string (over s), .string (if sidx s < s.size then under s else ⟨#[]⟩), .bool (decide (sidx s < s.size))])) := by
  refine PCalls.of_W tbOk Tryz.func78 rfl (by kernel_rfl) ?_
  refine W.cl [] (by kernel_rfl) (p_index s) ?_
  rintro _ _ ⟨rfl, rfl⟩
  by_cases h : sidx s < s.size
  · rw [if_pos h, if_pos h, decide_eq_true h]
    refine W.dt [] 12 (decide ((sidx s : Int) ≥ 0)) (by kernel_rfl) (by rw [decide_eq_true_iff]; omega) ?_
    refine W.sub' [12] s none (some (.int .i64 (sidx s : Int))) 0 (sidx s) tbOk (by kernel_rfl) (.inr ⟨rfl, rfl⟩) (.inl rfl) (by omega) (by omega) ?_
    refine W.sub' [] s (some (.int .i64 (IntKind.i64.wrap ((sidx s : Int) + ((⟨#[47]⟩ : ByteArray).size : Nat))))) none (sidx s + 1) s.size tbOk (by kernel_rfl) (.inl ?_) (.inr ⟨rfl, rfl⟩) (by omega) (by omega) ?_
    · show some (Value.int .i64 (IntKind.i64.wrap ((sidx s : Int) + (1 : Nat)))) = _
      rw [i64_in _ (by omega)]
      rfl
    exact W.r [] (.tuple #[.string (s.extract 0 (sidx s)), .string (s.extract (sidx s + 1) s.size), .bool true]) (by kernel_rfl) ⟨rfl, rfl⟩ ent0
  · rw [if_neg h, if_neg h, decide_eq_false h, over_all h]
    refine W.df [] 12 (decide ((-1 : Int) ≥ 0)) (by kernel_rfl) rfl ?_
    exact W.r [12] (.tuple #[.string s, .string ⟨#[]⟩, .bool false]) (by kernel_rfl) ⟨rfl, rfl⟩ ent0
theorem p_cut47 (s : ByteArray) (hs : s.size ≤ 9223372036854775807) : PCalls tb Tryz.prog 47 [.string s, .string ⟨#[47]⟩] Γ (IsV (.tuple #[.string (over s), .string (if sidx s < s.size then under s else ⟨#[]⟩), .bool (decide (sidx s < s.size))])) := by
  refine PCalls.of_W tbOk Tryz.func47 rfl (by kernel_rfl) ?_
  refine W.cl [] (by kernel_rfl) (p_cut47a s hs) ?_
  rintro _ _ ⟨rfl, rfl⟩
  exact W.r [] (.tuple #[.string (over s), .string (if sidx s < s.size then under s else ⟨#[]⟩), .bool (decide (sidx s < s.size))]) (by kernel_rfl) ⟨rfl, rfl⟩ ent0

def QPar (s : ByteArray) (v : Value) (Δ : List Fact) : Prop := ∃ (n : Sl) (nb : Bool) (d : Sl) (db : Bool), v = .tuple #[qv n nb d db, .int .i64 (qerr s)] ∧ Δ = [QF n nb d db (max 2 (min s.size 4096), qval s)]
theorem p_qparse (s : ByteArray) (hs : s.size ≤ 9223372036854775807) : PCalls tb Tryz.prog 20 [.string s] Γ (QPar s) := by
  have hos := over_size s
  have hus := under_size s
  refine PCalls.of_W tbOk Tryz.func20 rfl (by kernel_rfl) ?_
  refine W.cl [] (by kernel_rfl) (p_cut47 s hs) ?_
  rintro _ _ ⟨rfl, rfl⟩
  refine W.cl [] (by kernel_rfl) (p_zparse (over s) (by omega)) ?_
  rintro _ _ ⟨u, d, rfl, rfl⟩
  by_cases he : zerr (over s) = 0
  · rw [he]
    refine W.df [] 22 ((0 : Int) != 0) (by kernel_rfl) rfl ?_
    by_cases h : sidx s < s.size
    · rw [decide_eq_true h, if_pos h]
      refine W.df [22] 26 (!true) (by kernel_rfl) rfl ?_
      refine W.cl [26] (by kernel_rfl) (p_parse (under s) (by omega)) ?_
      rintro _ _ ⟨v, rfl, rfl⟩
      by_cases hp : perr (under s) = 0
      · rw [hp]
        refine W.df [] 35 ((0 : Int) != 0) (by kernel_rfl) rfl ?_
        refine W.cl [35] (by kernel_rfl) (p_zbig v) ?_
        rintro _ _ ⟨u5, d5, rfl, rfl⟩
        by_cases hz : pval (under s) = 0
        · have e1 : qerr s = 5 := by unfold qerr; rw [if_neg (by rw [he]; decide), if_pos h, if_neg (by rw [hp]; decide), if_pos hz]
          have e2 : qval s = 0 := by unfold qval; rw [e1, if_pos (by decide)]
          rw [hz]
          refine W.cl [] (by kernel_rfl) (p_qmake0 u d u5 d5) ?_
          rintro _ _ ⟨rfl, rfl⟩
          exact W.r [] (.tuple #[qv ⟨none, 0, 0⟩ false ⟨none, 0, 0⟩ false, .int .i64 5]) (by kernel_rfl) ⟨_, _, _, _, by rw [e1], rfl⟩ (by rw [e2]; exact entQ0)
        · have e1 : qerr s = 0 := by unfold qerr; rw [if_neg (by rw [he]; decide), if_pos h, if_neg (by rw [hp]; decide), if_neg hz]
          have e2 : qval s = Rat.divInt (zval (over s)) (pval (under s)) := by unfold qval; rw [e1, if_neg (by decide), if_pos h]
          refine W.cl [] (by kernel_rfl) (p_qmake u d u5 d5 (by omega)) ?_
          rintro _ _ ⟨n6, a6, m6, b6, rfl, rfl⟩
          exact W.r [] (.tuple #[qv n6 a6 m6 b6, .int .i64 0]) (by kernel_rfl) ⟨n6, a6, m6, b6, by rw [e1], rfl⟩ (entQ (by omega) e2.symm)
      · have e1 : qerr s = perr (under s) := by unfold qerr; rw [if_neg (by rw [he]; decide), if_pos h, if_pos hp]
        have e2 : qval s = 0 := by unfold qval; rw [e1, if_pos hp]
        refine W.dt [] 35 (perr (under s) != 0) (by kernel_rfl) (by simpa using hp) ?_
        exact W.r [35] (.tuple #[qv ⟨none, 0, 0⟩ false ⟨none, 0, 0⟩ false, .int .i64 (perr (under s))]) (by kernel_rfl) ⟨_, _, _, _, by rw [e1], rfl⟩ (by rw [e2]; exact entQ0)
    · have e1 : qerr s = 0 := by unfold qerr; rw [if_neg (by rw [he]; decide), if_neg h]
      have e2 : qval s = (zval (over s) : Rat) := by unfold qval; rw [e1, if_neg (by decide), if_neg h]
      rw [decide_eq_false h]
      refine W.dt [22] 26 (!false) (by kernel_rfl) rfl ?_
      refine W.cl [26] (by kernel_rfl) (p_qwhole u d) ?_
      rintro _ _ ⟨n3, a3, m3, b3, rfl, rfl⟩
      exact W.r [] (.tuple #[qv n3 a3 m3 b3, .int .i64 0]) (by kernel_rfl) ⟨n3, a3, m3, b3, by rw [e1], rfl⟩ (entQ (by omega) e2.symm)
  · have e1 : qerr s = zerr (over s) := by unfold qerr; rw [if_pos he]
    have e2 : qval s = 0 := by unfold qval; rw [e1, if_pos he]
    refine W.dt [] 22 (zerr (over s) != 0) (by kernel_rfl) (by simpa using he) ?_
    exact W.r [22] (.tuple #[qv ⟨none, 0, 0⟩ false ⟨none, 0, 0⟩ false, .int .i64 (zerr (over s))]) (by kernel_rfl) ⟨_, _, _, _, by rw [e1], rfl⟩ (by rw [e2]; exact entQ0)

end

end Go.Proofs.YtlpfkbkpnljieaaGreat

set_option linter.unusedSimpArgs false
set_option linter.unusedVariables false
namespace Go.Proofs.YtlpfkbkpnljieaaGreat
open Go.RowKit Go.IntWalk

section
variable {fin : VS → List Fact → Prop} {Γ : List Fact} {L M : Nat}

end

end Go.Proofs.YtlpfkbkpnljieaaGreat

set_option linter.unusedSimpArgs false
set_option linter.unusedVariables false
namespace Go.Proofs.YtlpfkbkpnljieaaGreat
open Go.RowKit Go.IntWalk

/-- Quotients in rows. -/
structure QE where
  n : Sl
  nb : Bool
  d : Sl
  db : Bool
  q : Rat
def QR : Rowed QE where
  z := 4
  cells e := [.slice e.n.ao e.n.n e.n.c, .bool e.nb, .slice e.d.ao e.d.n e.d.c, .bool e.db]
  len _ := rfl
  fact L e := QF e.n e.nb e.d e.db (L, e.q)

section
variable {Γ : List Fact} {L M : Nat}
end

end Go.Proofs.YtlpfkbkpnljieaaGreat
