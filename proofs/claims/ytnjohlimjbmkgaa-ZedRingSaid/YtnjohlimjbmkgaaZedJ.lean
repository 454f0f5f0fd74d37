/- Whole numbers with a sign, in memory; the contracts of both sides. -/
import Derived.Test.YtnjohlimjbmkgaaProg
import Derived.Test.YtnjohlimjbmkgaaZedC
import Derived.Test.YtnjohlimjbmkgaaRefY
import Derived.Test.YtnjohlimjbmkgaaMathY
namespace Go.Proofs.Ytnjohlimjbmkgaa
open Go.RowKit

/-- A number of zed. -/
def ZS (w : World) (s : Sl) (b : Bool) (x : Int) : Prop := NatS w s x.natAbs ∧ b = decide (x < 0)
/-- A number of the reference. -/
def RS (w : World) (s : Sl) (S : Int) (x : Int) : Prop := RefS w s x.natAbs ∧ S = x.sign
theorem ZS.grew {W w : World} {s : Sl} {b : Bool} {x : Int} (h : ZS W s b x) (hg : Grew W w) : ZS w s b x := ⟨h.1.grew hg, h.2⟩
theorem RS.grew {W w : World} {s : Sl} {b : Int} {x : Int} (h : RS W s b x) (hg : Grew W w) : RS w s b x := ⟨h.1.grew hg, h.2⟩
theorem ZS.up {W w : World} {s : Sl} {b : Bool} {x : Int} (h : ZS W s b x) (hg : Below W.heap.size W w) : ZS w s b x := ⟨h.1.up hg, h.2⟩
theorem RS.up {W w : World} {s : Sl} {b : Int} {x : Int} (h : RS W s b x) (hg : Below W.heap.size W w) : RS w s b x := ⟨h.1.up hg, h.2⟩
theorem ZS.kp {W w : World} {s : Sl} {b : Bool} {x : Int} (h : ZS W s b x) (hg : Kp W w) : ZS w s b x := ⟨h.1.kp hg, h.2⟩
theorem RS.kp {W w : World} {s : Sl} {b : Int} {x : Int} (h : RS W s b x) (hg : Kp W w) : RS w s b x := ⟨h.1.kp hg, h.2⟩
/-- Which is greater. -/
def cmpZ (x y : Int) : Int := if x < y then -1 else if x = y then 0 else 1
/-- A number's text. -/
def ztxt (x : Int) : ByteArray := if x < 0 then ⟨#[45]⟩ ++ txt (dec x.natAbs) else txt (dec x.natAbs)
theorem sgn_n {x : Int} (h : x < 0) : x.sign = -1 := Int.sign_eq_neg_one_of_neg h
theorem sgn_z {x : Int} (h : x = 0) : x.sign = 0 := by rw [h]; rfl
theorem sgn_p {x : Int} (h : 0 < x) : x.sign = 1 := Int.sign_eq_one_of_pos h
theorem mul_nn {x y : Int} (hx : x < 0) (hy : y < 0) : 0 ≤ x * y := Int.le_of_lt (Int.mul_pos_of_neg_of_neg hx hy)
theorem mul_np {x y : Int} (hx : x < 0) (hy : 0 ≤ y) : x * y ≤ 0 := Int.mul_nonpos_of_nonpos_of_nonneg (Int.le_of_lt hx) hy
theorem mul_pn {x y : Int} (hx : 0 ≤ x) (hy : y < 0) : x * y ≤ 0 := Int.mul_nonpos_of_nonneg_of_nonpos hx (Int.le_of_lt hy)
theorem cmpN_abs_p {x y : Int} (hx : 0 ≤ x) (hy : 0 ≤ y) : cmpN x.natAbs y.natAbs = cmpZ x y := by
  unfold cmpN cmpZ
  have e1 : x.natAbs < y.natAbs ↔ x < y := by omega
  have e2 : x.natAbs = y.natAbs ↔ x = y := by omega
  simp only [e1, e2]
theorem cmpN_abs_n {x y : Int} (hx : x < 0) (hy : y < 0) : cmpN y.natAbs x.natAbs = cmpZ x y := by
  unfold cmpN cmpZ
  have e1 : y.natAbs < x.natAbs ↔ x < y := by omega
  have e2 : y.natAbs = x.natAbs ↔ x = y := by omega
  simp only [e1, e2]

theorem zadd {w : World} {s t : Sl} {b c : Bool} {x y : Int} (h : ZS w s b x) (h' : ZS w t c y) (hn : s.n ≤ 100000000000) (hm : t.n ≤ 100000000000) :
    Calls Try.prog 24 #[.agg #[.slice s.ao s.n s.c, .bool b], .agg #[.slice t.ao t.n t.c, .bool c]] w fun e w' => ∃ (u : Sl) (d : Bool), e = .returned (.agg #[.slice u.ao u.n u.c, .bool d]) ∧ ZS w' u d (x + y) ∧ u.n ≤ max s.n t.n + 1 ∧ Below w.heap.size w w' := by
  obtain ⟨h, rfl⟩ := h
  obtain ⟨h', rfl⟩ := h'
  by_cases hx : x < 0 <;> by_cases hy : y < 0
  · rw [show decide (x < 0) = true from decide_eq_true (by omega), show decide (y < 0) = true from decide_eq_true (by omega)]
    refine (zadd_same_true h h' hn hm).mono ?_
    rintro e w' ⟨u, rfl, hu, hun, hb⟩
    exact ⟨u, _, rfl, ⟨by rw [show (x + y).natAbs = x.natAbs + y.natAbs by omega]; exact hu, by simp only [Bool.true_and, decide_eq_decide]; omega⟩, hun, hb⟩
  · rw [show decide (x < 0) = true from decide_eq_true (by omega), show decide (y < 0) = false from decide_eq_false (by omega)]
    rcases Nat.lt_or_ge x.natAbs y.natAbs with hxy | hxy
    · refine (zadd_lt_true h h' hn hm hxy).mono ?_
      rintro e w' ⟨u, rfl, hu, hun, hb⟩
      exact ⟨u, _, rfl, ⟨by rw [show (x + y).natAbs = y.natAbs - x.natAbs by omega]; exact hu, by simp only [Bool.false_and]; exact (decide_eq_false (by omega)).symm⟩, hun, hb⟩
    · refine (zadd_ge_true h h' hn hm hxy).mono ?_
      rintro e w' ⟨u, rfl, hu, hun, hb⟩
      exact ⟨u, _, rfl, ⟨by rw [show (x + y).natAbs = x.natAbs - y.natAbs by omega]; exact hu, by simp only [Bool.true_and, decide_eq_decide]; omega⟩, hun, hb⟩
  · rw [show decide (x < 0) = false from decide_eq_false (by omega), show decide (y < 0) = true from decide_eq_true (by omega)]
    rcases Nat.lt_or_ge x.natAbs y.natAbs with hxy | hxy
    · refine (zadd_lt_false h h' hn hm hxy).mono ?_
      rintro e w' ⟨u, rfl, hu, hun, hb⟩
      exact ⟨u, _, rfl, ⟨by rw [show (x + y).natAbs = y.natAbs - x.natAbs by omega]; exact hu, by simp only [Bool.true_and, decide_eq_decide]; omega⟩, hun, hb⟩
    · refine (zadd_ge_false h h' hn hm hxy).mono ?_
      rintro e w' ⟨u, rfl, hu, hun, hb⟩
      exact ⟨u, _, rfl, ⟨by rw [show (x + y).natAbs = x.natAbs - y.natAbs by omega]; exact hu, by simp only [Bool.false_and]; exact (decide_eq_false (by omega)).symm⟩, hun, hb⟩
  · rw [show decide (x < 0) = false from decide_eq_false (by omega), show decide (y < 0) = false from decide_eq_false (by omega)]
    refine (zadd_same_false h h' hn hm).mono ?_
    rintro e w' ⟨u, rfl, hu, hun, hb⟩
    exact ⟨u, _, rfl, ⟨by rw [show (x + y).natAbs = x.natAbs + y.natAbs by omega]; exact hu, by simp only [Bool.false_and]; exact (decide_eq_false (by omega)).symm⟩, hun, hb⟩

theorem zmul {w : World} {s t : Sl} {b c : Bool} {x y : Int} (h : ZS w s b x) (h' : ZS w t c y) (hn : s.n ≤ 100000000000) (hm : t.n ≤ 100000000000) :
    Calls Try.prog 31 #[.agg #[.slice s.ao s.n s.c, .bool b], .agg #[.slice t.ao t.n t.c, .bool c]] w fun e w' => ∃ (u : Sl) (d : Bool), e = .returned (.agg #[.slice u.ao u.n u.c, .bool d]) ∧ ZS w' u d (x * y) ∧ u.n ≤ s.n + t.n ∧ Below w.heap.size w w' := by
  obtain ⟨h, rfl⟩ := h
  obtain ⟨h', rfl⟩ := h'
  have ha := Int.natAbs_mul x y
  by_cases hx : x < 0 <;> by_cases hy : y < 0
  · have hs : 0 ≤ x * y := mul_nn hx hy
    rw [show decide (x < 0) = true from decide_eq_true (by omega), show decide (y < 0) = true from decide_eq_true (by omega)]
    refine (zmul_true_true h h' hn hm).mono ?_
    rintro e w' ⟨u, rfl, hu, hun, hb⟩
    exact ⟨u, _, rfl, ⟨by rw [ha]; exact hu, by rw [← ha]; generalize x * y = p at *; simp only [Bool.false_and]; exact (decide_eq_false (by omega)).symm⟩, hun, hb⟩
  · have hs : x * y ≤ 0 := mul_np hx (by omega)
    rw [show decide (x < 0) = true from decide_eq_true (by omega), show decide (y < 0) = false from decide_eq_false (by omega)]
    refine (zmul_true_false h h' hn hm).mono ?_
    rintro e w' ⟨u, rfl, hu, hun, hb⟩
    exact ⟨u, _, rfl, ⟨by rw [ha]; exact hu, by rw [← ha]; generalize x * y = p at *; simp only [Bool.true_and, decide_eq_decide]; omega⟩, hun, hb⟩
  · have hs : x * y ≤ 0 := mul_pn (by omega) hy
    rw [show decide (x < 0) = false from decide_eq_false (by omega), show decide (y < 0) = true from decide_eq_true (by omega)]
    refine (zmul_false_true h h' hn hm).mono ?_
    rintro e w' ⟨u, rfl, hu, hun, hb⟩
    exact ⟨u, _, rfl, ⟨by rw [ha]; exact hu, by rw [← ha]; generalize x * y = p at *; simp only [Bool.true_and, decide_eq_decide]; omega⟩, hun, hb⟩
  · have hs : 0 ≤ x * y := Int.mul_nonneg (by omega) (by omega)
    rw [show decide (x < 0) = false from decide_eq_false (by omega), show decide (y < 0) = false from decide_eq_false (by omega)]
    refine (zmul_false_false h h' hn hm).mono ?_
    rintro e w' ⟨u, rfl, hu, hun, hb⟩
    exact ⟨u, _, rfl, ⟨by rw [ha]; exact hu, by rw [← ha]; generalize x * y = p at *; simp only [Bool.false_and]; exact (decide_eq_false (by omega)).symm⟩, hun, hb⟩

theorem zneg {w : World} {s : Sl} {b : Bool} {x : Int} (h : ZS w s b x) (hn : s.n ≤ 100000000000) :
    Calls Try.prog 27 #[.agg #[.slice s.ao s.n s.c, .bool b]] w fun e w' => ∃ (u : Sl) (d : Bool), e = .returned (.agg #[.slice u.ao u.n u.c, .bool d]) ∧ ZS w' u d (-x) ∧ u.n ≤ s.n ∧ Below w.heap.size w w' := by
  obtain ⟨h, rfl⟩ := h
  by_cases hx : x < 0
  · rw [show decide (x < 0) = true from decide_eq_true (by omega)]
    refine (zneg_true h hn).mono ?_
    rintro e w' ⟨rfl, hb⟩
    exact ⟨s, _, rfl, ⟨by rw [Int.natAbs_neg]; exact h.up hb, by simp only [Bool.false_and]; exact (decide_eq_false (by omega)).symm⟩, Nat.le_refl _, hb⟩
  · rw [show decide (x < 0) = false from decide_eq_false (by omega)]
    refine (zneg_false h hn).mono ?_
    rintro e w' ⟨rfl, hb⟩
    exact ⟨s, _, rfl, ⟨by rw [Int.natAbs_neg]; exact h.up hb, by simp only [Bool.true_and, decide_eq_decide]; omega⟩, Nat.le_refl _, hb⟩

theorem ztext {w : World} {s : Sl} {b : Bool} {x : Int} (h : ZS w s b x) (hn : s.n ≤ 100000000000) :
    Calls Try.prog 38 #[.agg #[.slice s.ao s.n s.c, .bool b]] w fun e w' => e = .returned (.string (ztxt x)) ∧ Below w.heap.size w w' := by
  obtain ⟨h, rfl⟩ := h
  unfold ztxt
  by_cases hx : x < 0
  · rw [show decide (x < 0) = true from decide_eq_true (by omega), if_pos hx]
    exact ztext_true h hn
  · rw [show decide (x < 0) = false from decide_eq_false (by omega), if_neg hx]
    exact ztext_false h hn

theorem zsign {w : World} {s : Sl} {b : Bool} {x : Int} (h : ZS w s b x) (hn : s.n ≤ 100000000000) :
    Calls Try.prog 22 #[.agg #[.slice s.ao s.n s.c, .bool b]] w fun e w' => e = .returned (.int .i64 x.sign) ∧ Below w.heap.size w w' := by
  obtain ⟨h, rfl⟩ := h
  rcases Int.lt_trichotomy x 0 with hx | hx | hx
  · rw [show decide (x < 0) = true from decide_eq_true (by omega), sgn_n hx]
    exact zsign_neg s
  · rw [show decide (x < 0) = false from decide_eq_false (by omega), sgn_z hx]
    exact zsign_zero h hn (by omega)
  · rw [show decide (x < 0) = false from decide_eq_false (by omega), sgn_p hx]
    exact zsign_pos h hn (by omega)

theorem zcmp {w : World} {s t : Sl} {b c : Bool} {x y : Int} (h : ZS w s b x) (h' : ZS w t c y) (hn : s.n ≤ 100000000000) (hm : t.n ≤ 100000000000) :
    Calls Try.prog 29 #[.agg #[.slice s.ao s.n s.c, .bool b], .agg #[.slice t.ao t.n t.c, .bool c]] w fun e w' => e = .returned (.int .i64 (cmpZ x y)) ∧ Below w.heap.size w w' := by
  obtain ⟨h, rfl⟩ := h
  obtain ⟨h', rfl⟩ := h'
  by_cases hx : x < 0 <;> by_cases hy : y < 0
  · rw [show decide (x < 0) = true from decide_eq_true (by omega), show decide (y < 0) = true from decide_eq_true (by omega)]
    rw [← cmpN_abs_n hx hy]
    exact zcmp_same_true h h' hn hm
  · rw [show decide (x < 0) = true from decide_eq_true (by omega), show decide (y < 0) = false from decide_eq_false (by omega)]
    rw [show cmpZ x y = -1 from if_pos (by omega)]
    exact zcmp_part_true s t
  · rw [show decide (x < 0) = false from decide_eq_false (by omega), show decide (y < 0) = true from decide_eq_true (by omega)]
    rw [show cmpZ x y = 1 from by unfold cmpZ; rw [if_neg (by omega), if_neg (by omega)]]
    exact zcmp_part_false s t
  · rw [show decide (x < 0) = false from decide_eq_false (by omega), show decide (y < 0) = false from decide_eq_false (by omega)]
    rw [← cmpN_abs_p (by omega) (by omega)]
    exact zcmp_same_false h h' hn hm

theorem rzadd {w : World} {s t : Sl} {S T : Int} {x y : Int} (h : RS w s S x) (h' : RS w t T y) (hn : s.n ≤ 1000000) (hm : t.n ≤ 1000000) :
    Calls Try.prog 18 #[.agg #[.int .i64 S, .slice s.ao s.n s.c], .agg #[.int .i64 T, .slice t.ao t.n t.c]] w fun e w' => ∃ (u : Sl) (d : Int), e = .returned (.agg #[.int .i64 d, .slice u.ao u.n u.c]) ∧ RS w' u d (x + y) ∧ u.n ≤ max s.n t.n + 1 ∧ Below w.heap.size w w' := by
  obtain ⟨h, rfl⟩ := h
  obtain ⟨h', rfl⟩ := h'
  rcases Int.lt_trichotomy x 0 with hx | hx | hx <;> rcases Int.lt_trichotomy y 0 with hy | hy | hy
  · rw [sgn_n hx, sgn_n hy]
    refine (rzadd_nn h h' hn hm (show 0 < x.natAbs by omega) (show 0 < y.natAbs by omega)).mono ?_
    rintro e w' ⟨u, rfl, hu, hun, hb⟩
    exact ⟨u, _, rfl, ⟨by rw [show (x + y).natAbs = x.natAbs + y.natAbs by omega]; exact hu, (sgn_n (by omega)).symm⟩, hun, hb⟩
  · rw [sgn_n hx, sgn_z hy]
    refine (rzadd_nz h h' hn hm (show 0 < x.natAbs by omega) (show y.natAbs = 0 by omega)).mono ?_
    rintro e w' ⟨u, rfl, hu, hun, hb⟩
    exact ⟨u, _, rfl, ⟨by rw [show (x + y).natAbs = x.natAbs by omega]; exact hu, (sgn_n (by omega)).symm⟩, hun, hb⟩
  · rw [sgn_n hx, sgn_p hy]
    rcases Nat.lt_trichotomy x.natAbs y.natAbs with hc | hc | hc
    · refine (rzadd_np_lt h h' hn hm (show 0 < x.natAbs by omega) (show 0 < y.natAbs by omega) hc).mono ?_
      rintro e w' ⟨u, rfl, hu, hun, hb⟩
      exact ⟨u, _, rfl, ⟨by rw [show (x + y).natAbs = y.natAbs - x.natAbs by omega]; exact hu, (sgn_p (by omega)).symm⟩, hun, hb⟩
    · refine (rzadd_np_eq h h' hn hm (show 0 < x.natAbs by omega) (show 0 < y.natAbs by omega) hc).mono ?_
      rintro e w' ⟨u, rfl, hu, hun, hb⟩
      exact ⟨u, _, rfl, ⟨by rw [show (x + y).natAbs = x.natAbs - y.natAbs by omega]; exact hu, (sgn_z (by omega)).symm⟩, hun, hb⟩
    · refine (rzadd_np_gt h h' hn hm (show 0 < x.natAbs by omega) (show 0 < y.natAbs by omega) hc).mono ?_
      rintro e w' ⟨u, rfl, hu, hun, hb⟩
      exact ⟨u, _, rfl, ⟨by rw [show (x + y).natAbs = x.natAbs - y.natAbs by omega]; exact hu, (sgn_n (by omega)).symm⟩, hun, hb⟩
  · rw [sgn_z hx, sgn_n hy]
    refine (rzadd_zn h h' hn hm (show x.natAbs = 0 by omega) (show 0 < y.natAbs by omega)).mono ?_
    rintro e w' ⟨u, rfl, hu, hun, hb⟩
    exact ⟨u, _, rfl, ⟨by rw [show (x + y).natAbs = y.natAbs by omega]; exact hu, (sgn_n (by omega)).symm⟩, hun, hb⟩
  · rw [sgn_z hx, sgn_z hy]
    refine (rzadd_zz h h' hn hm (show x.natAbs = 0 by omega) (show y.natAbs = 0 by omega)).mono ?_
    rintro e w' ⟨u, rfl, hu, hun, hb⟩
    exact ⟨u, _, rfl, ⟨by rw [show (x + y).natAbs = y.natAbs by omega]; exact hu, (sgn_z (by omega)).symm⟩, hun, hb⟩
  · rw [sgn_z hx, sgn_p hy]
    refine (rzadd_zp h h' hn hm (show x.natAbs = 0 by omega) (show 0 < y.natAbs by omega)).mono ?_
    rintro e w' ⟨u, rfl, hu, hun, hb⟩
    exact ⟨u, _, rfl, ⟨by rw [show (x + y).natAbs = y.natAbs by omega]; exact hu, (sgn_p (by omega)).symm⟩, hun, hb⟩
  · rw [sgn_p hx, sgn_n hy]
    rcases Nat.lt_trichotomy x.natAbs y.natAbs with hc | hc | hc
    · refine (rzadd_pn_lt h h' hn hm (show 0 < x.natAbs by omega) (show 0 < y.natAbs by omega) hc).mono ?_
      rintro e w' ⟨u, rfl, hu, hun, hb⟩
      exact ⟨u, _, rfl, ⟨by rw [show (x + y).natAbs = y.natAbs - x.natAbs by omega]; exact hu, (sgn_n (by omega)).symm⟩, hun, hb⟩
    · refine (rzadd_pn_eq h h' hn hm (show 0 < x.natAbs by omega) (show 0 < y.natAbs by omega) hc).mono ?_
      rintro e w' ⟨u, rfl, hu, hun, hb⟩
      exact ⟨u, _, rfl, ⟨by rw [show (x + y).natAbs = x.natAbs - y.natAbs by omega]; exact hu, (sgn_z (by omega)).symm⟩, hun, hb⟩
    · refine (rzadd_pn_gt h h' hn hm (show 0 < x.natAbs by omega) (show 0 < y.natAbs by omega) hc).mono ?_
      rintro e w' ⟨u, rfl, hu, hun, hb⟩
      exact ⟨u, _, rfl, ⟨by rw [show (x + y).natAbs = x.natAbs - y.natAbs by omega]; exact hu, (sgn_p (by omega)).symm⟩, hun, hb⟩
  · rw [sgn_p hx, sgn_z hy]
    refine (rzadd_pz h h' hn hm (show 0 < x.natAbs by omega) (show y.natAbs = 0 by omega)).mono ?_
    rintro e w' ⟨u, rfl, hu, hun, hb⟩
    exact ⟨u, _, rfl, ⟨by rw [show (x + y).natAbs = x.natAbs by omega]; exact hu, (sgn_p (by omega)).symm⟩, hun, hb⟩
  · rw [sgn_p hx, sgn_p hy]
    refine (rzadd_pp h h' hn hm (show 0 < x.natAbs by omega) (show 0 < y.natAbs by omega)).mono ?_
    rintro e w' ⟨u, rfl, hu, hun, hb⟩
    exact ⟨u, _, rfl, ⟨by rw [show (x + y).natAbs = x.natAbs + y.natAbs by omega]; exact hu, (sgn_p (by omega)).symm⟩, hun, hb⟩

theorem rzmul {w : World} {s t : Sl} {S T : Int} {x y : Int} (h : RS w s S x) (h' : RS w t T y) (hn : s.n ≤ 1000000) (hm : t.n ≤ 1000000) :
    Calls Try.prog 32 #[.agg #[.int .i64 S, .slice s.ao s.n s.c], .agg #[.int .i64 T, .slice t.ao t.n t.c]] w fun e w' => ∃ (u : Sl) (d : Int), e = .returned (.agg #[.int .i64 d, .slice u.ao u.n u.c]) ∧ RS w' u d (x * y) ∧ u.n ≤ s.n + t.n ∧ Below w.heap.size w w' := by
  obtain ⟨h, rfl⟩ := h
  obtain ⟨h', rfl⟩ := h'
  have ha := Int.natAbs_mul x y
  rcases Int.lt_trichotomy x 0 with hx | hx | hx <;> rcases Int.lt_trichotomy y 0 with hy | hy | hy
  · rw [sgn_n hx, sgn_n hy]
    refine (rzmul_nn h h' hn hm (show 0 < x.natAbs by omega) (show 0 < y.natAbs by omega)).mono ?_
    rintro e w' ⟨u, rfl, hu, hun, hb⟩
    exact ⟨u, _, rfl, ⟨by rw [ha]; exact hu, (sgn_p (Int.mul_pos_of_neg_of_neg hx hy)).symm⟩, hun, hb⟩
  · rw [sgn_n hx, sgn_z hy]
    refine (rzmul_nz h h' hn hm (show 0 < x.natAbs by omega) (show y.natAbs = 0 by omega)).mono ?_
    rintro e w' ⟨u, rfl, hu, hun, hb⟩
    exact ⟨u, _, rfl, ⟨by rw [ha]; exact hu, (sgn_z (by rw [hy]; simp)).symm⟩, hun, hb⟩
  · rw [sgn_n hx, sgn_p hy]
    refine (rzmul_np h h' hn hm (show 0 < x.natAbs by omega) (show 0 < y.natAbs by omega)).mono ?_
    rintro e w' ⟨u, rfl, hu, hun, hb⟩
    exact ⟨u, _, rfl, ⟨by rw [ha]; exact hu, (sgn_n (Int.mul_neg_of_neg_of_pos hx hy)).symm⟩, hun, hb⟩
  · rw [sgn_z hx, sgn_n hy]
    refine (rzmul_zn h h' hn hm (show x.natAbs = 0 by omega) (show 0 < y.natAbs by omega)).mono ?_
    rintro e w' ⟨u, rfl, hu, hun, hb⟩
    exact ⟨u, _, rfl, ⟨by rw [ha]; exact hu, (sgn_z (by rw [hx]; simp)).symm⟩, hun, hb⟩
  · rw [sgn_z hx, sgn_z hy]
    refine (rzmul_zz h h' hn hm (show x.natAbs = 0 by omega) (show y.natAbs = 0 by omega)).mono ?_
    rintro e w' ⟨u, rfl, hu, hun, hb⟩
    exact ⟨u, _, rfl, ⟨by rw [ha]; exact hu, (sgn_z (by rw [hx]; simp)).symm⟩, hun, hb⟩
  · rw [sgn_z hx, sgn_p hy]
    refine (rzmul_zp h h' hn hm (show x.natAbs = 0 by omega) (show 0 < y.natAbs by omega)).mono ?_
    rintro e w' ⟨u, rfl, hu, hun, hb⟩
    exact ⟨u, _, rfl, ⟨by rw [ha]; exact hu, (sgn_z (by rw [hx]; simp)).symm⟩, hun, hb⟩
  · rw [sgn_p hx, sgn_n hy]
    refine (rzmul_pn h h' hn hm (show 0 < x.natAbs by omega) (show 0 < y.natAbs by omega)).mono ?_
    rintro e w' ⟨u, rfl, hu, hun, hb⟩
    exact ⟨u, _, rfl, ⟨by rw [ha]; exact hu, (sgn_n (Int.mul_neg_of_pos_of_neg hx hy)).symm⟩, hun, hb⟩
  · rw [sgn_p hx, sgn_z hy]
    refine (rzmul_pz h h' hn hm (show 0 < x.natAbs by omega) (show y.natAbs = 0 by omega)).mono ?_
    rintro e w' ⟨u, rfl, hu, hun, hb⟩
    exact ⟨u, _, rfl, ⟨by rw [ha]; exact hu, (sgn_z (by rw [hy]; simp)).symm⟩, hun, hb⟩
  · rw [sgn_p hx, sgn_p hy]
    refine (rzmul_pp h h' hn hm (show 0 < x.natAbs by omega) (show 0 < y.natAbs by omega)).mono ?_
    rintro e w' ⟨u, rfl, hu, hun, hb⟩
    exact ⟨u, _, rfl, ⟨by rw [ha]; exact hu, (sgn_p (Int.mul_pos hx hy)).symm⟩, hun, hb⟩

theorem rzcmp {w : World} {s t : Sl} {S T : Int} {x y : Int} (h : RS w s S x) (h' : RS w t T y) (hn : s.n ≤ 1000000) (hm : t.n ≤ 1000000) :
    Calls Try.prog 30 #[.agg #[.int .i64 S, .slice s.ao s.n s.c], .agg #[.int .i64 T, .slice t.ao t.n t.c]] w fun e w' => e = .returned (.int .i64 (cmpZ x y)) ∧ Below w.heap.size w w' := by
  obtain ⟨h, rfl⟩ := h
  obtain ⟨h', rfl⟩ := h'
  rcases Int.lt_trichotomy x 0 with hx | hx | hx <;> rcases Int.lt_trichotomy y 0 with hy | hy | hy
  · rw [sgn_n hx, sgn_n hy]
    rcases Nat.lt_trichotomy x.natAbs y.natAbs with hc | hc | hc
    · rw [show cmpZ x y = 1 from by unfold cmpZ; rw [if_neg (by omega), if_neg (by omega)]]
      exact rzcmp_nn_lt h h' hn hm hc
    · rw [show cmpZ x y = 0 from by unfold cmpZ; rw [if_neg (by omega), if_pos (by omega)]]
      exact rzcmp_nn_eq h h' hn hm hc
    · rw [show cmpZ x y = -1 from if_pos (by omega)]
      exact rzcmp_nn_gt h h' hn hm hc
  · rw [sgn_n hx, sgn_z hy]
    rw [show cmpZ x y = -1 from if_pos (by omega)]
    exact rzcmp_nz s t
  · rw [sgn_n hx, sgn_p hy]
    rw [show cmpZ x y = -1 from if_pos (by omega)]
    exact rzcmp_np s t
  · rw [sgn_z hx, sgn_n hy]
    rw [show cmpZ x y = 1 from by unfold cmpZ; rw [if_neg (by omega), if_neg (by omega)]]
    exact rzcmp_zn s t
  · rw [sgn_z hx, sgn_z hy]
    rcases Nat.lt_trichotomy x.natAbs y.natAbs with hc | hc | hc
    · omega
    · rw [show cmpZ x y = 0 from by unfold cmpZ; rw [if_neg (by omega), if_pos (by omega)]]
      exact rzcmp_zz_eq h h' hn hm hc
    · omega
  · rw [sgn_z hx, sgn_p hy]
    rw [show cmpZ x y = -1 from if_pos (by omega)]
    exact rzcmp_zp s t
  · rw [sgn_p hx, sgn_n hy]
    rw [show cmpZ x y = 1 from by unfold cmpZ; rw [if_neg (by omega), if_neg (by omega)]]
    exact rzcmp_pn s t
  · rw [sgn_p hx, sgn_z hy]
    rw [show cmpZ x y = 1 from by unfold cmpZ; rw [if_neg (by omega), if_neg (by omega)]]
    exact rzcmp_pz s t
  · rw [sgn_p hx, sgn_p hy]
    rcases Nat.lt_trichotomy x.natAbs y.natAbs with hc | hc | hc
    · rw [show cmpZ x y = -1 from if_pos (by omega)]
      exact rzcmp_pp_lt h h' hn hm hc
    · rw [show cmpZ x y = 0 from by unfold cmpZ; rw [if_neg (by omega), if_pos (by omega)]]
      exact rzcmp_pp_eq h h' hn hm hc
    · rw [show cmpZ x y = 1 from by unfold cmpZ; rw [if_neg (by omega), if_neg (by omega)]]
      exact rzcmp_pp_gt h h' hn hm hc

theorem rzneg {w : World} {s : Sl} {S : Int} {x : Int} (h : RS w s S x) (hn : s.n ≤ 1000000) :
    Calls Try.prog 28 #[.agg #[.int .i64 S, .slice s.ao s.n s.c]] w fun e w' => ∃ (u : Sl) (d : Int), e = .returned (.agg #[.int .i64 d, .slice u.ao u.n u.c]) ∧ RS w' u d (-x) ∧ u.n ≤ s.n ∧ Below w.heap.size w w' := by
  obtain ⟨h, rfl⟩ := h
  rcases Int.lt_trichotomy x 0 with hx | hx | hx
  · rw [sgn_n hx]
    refine (rneg_n h hn (show 0 < x.natAbs by omega)).mono ?_
    rintro e w' ⟨u, rfl, hu, hun, hb⟩
    exact ⟨u, _, rfl, ⟨by rw [Int.natAbs_neg]; exact hu, (sgn_p (by omega)).symm⟩, hun, hb⟩
  · rw [sgn_z hx]
    refine (rneg_z h hn (show x.natAbs = 0 by omega)).mono ?_
    rintro e w' ⟨u, rfl, hu, hun, hb⟩
    exact ⟨u, _, rfl, ⟨by rw [Int.natAbs_neg]; exact hu, (sgn_z (by omega)).symm⟩, hun, hb⟩
  · rw [sgn_p hx]
    refine (rneg_p h hn (show 0 < x.natAbs by omega)).mono ?_
    rintro e w' ⟨u, rfl, hu, hun, hb⟩
    exact ⟨u, _, rfl, ⟨by rw [Int.natAbs_neg]; exact hu, (sgn_n (by omega)).symm⟩, hun, hb⟩

theorem rztext {w : World} {s : Sl} {S : Int} {x : Int} (h : RS w s S x) (hn : s.n ≤ 1000000) :
    Calls Try.prog 66 #[.agg #[.int .i64 S, .slice s.ao s.n s.c]] w fun e w' => e = .returned (.string (ztxt x)) ∧ Below w.heap.size w w' := by
  obtain ⟨h, rfl⟩ := h
  unfold ztxt
  rcases Int.lt_trichotomy x 0 with hx | hx | hx
  · rw [sgn_n hx, if_pos hx]
    exact rztext_n h (by omega)
  · rw [sgn_z hx, if_neg (by omega)]
    exact rztext_z h (by omega)
  · rw [sgn_p hx, if_neg (by omega)]
    exact rztext_p h (by omega)


end Go.Proofs.Ytnjohlimjbmkgaa
