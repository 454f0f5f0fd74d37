
/- Quotients of whole numbers: plain laws. Texts of numbers are read as these. -/
import Derived.Test.YtabpaiboodllbaaGreatZl
set_option linter.unusedSimpArgs false
set_option linter.unusedVariables false
namespace Go.Proofs.YtabpaiboodllbaaGreat
open Go.RowKit Go.IntWalk

def cmpQ (x y : Rat) : Int := if x < y then -1 else if x = y then 0 else 1
def qfl (q : Rat) : Int := q.num / q.den
def qnr (q : Rat) : Int := if (q.num * 2 + q.den) % (q.den * 2) = 0 ∧ (q.num * 2 + q.den) / (q.den * 2) % 2 ≠ 0 then (q.num * 2 + q.den) / (q.den * 2) - 1 else (q.num * 2 + q.den) / (q.den * 2)

theorem low_pos {x y : Int} (hy : 0 < y) : (Rat.divInt x y).num = x / (Nat.gcd x.natAbs y.natAbs : Nat) ∧ ((Rat.divInt x y).den : Int) = y / (Nat.gcd x.natAbs y.natAbs : Nat) := by
  have hg : Int.gcd y x = Nat.gcd x.natAbs y.natAbs := by rw [Int.gcd_comm]; rfl
  refine ⟨?_, ?_⟩
  · rw [Rat.num_divInt, hg, Int.sign_eq_one_of_pos hy, Int.one_mul]
  · rw [Rat.den_divInt, if_neg (by omega), hg, Int.natCast_ediv, show ((y.natAbs : Nat) : Int) = y by omega]
theorem low_neg {x y : Int} (hy : y < 0) : (Rat.divInt x y).num = -(x / (Nat.gcd x.natAbs y.natAbs : Nat)) ∧ ((Rat.divInt x y).den : Int) = -(y / (Nat.gcd x.natAbs y.natAbs : Nat)) := by
  have hg : Int.gcd y x = Nat.gcd x.natAbs y.natAbs := by rw [Int.gcd_comm]; rfl
  have d1 : ((Nat.gcd x.natAbs y.natAbs : Nat) : Int) ∣ x := Int.ofNat_dvd_left.2 (Nat.gcd_dvd_left _ _)
  have d2 : ((Nat.gcd x.natAbs y.natAbs : Nat) : Int) ∣ y := Int.ofNat_dvd_left.2 (Nat.gcd_dvd_right _ _)
  refine ⟨?_, ?_⟩
  · rw [Rat.num_divInt, hg, Int.sign_eq_neg_one_of_neg hy, Int.neg_one_mul, Int.neg_ediv_of_dvd d1]
  · rw [Rat.den_divInt, if_neg (by omega), hg, Int.natCast_ediv, show ((y.natAbs : Nat) : Int) = -y by omega, Int.neg_ediv_of_dvd d2]
theorem abs_div_le (x : Int) (g : Nat) : (x / (g : Int)).natAbs ≤ x.natAbs ∨ x < 0 := by
  rcases Int.lt_or_le x 0 with h | h
  · exact .inr h
  · refine .inl ?_
    have h1 : 0 ≤ x / (g : Int) := Int.ediv_nonneg h (by omega)
    have h2 : x / (g : Int) ≤ x := Int.ediv_le_self _ h
    omega
theorem abs_div_dvd {x : Int} {g : Nat} (h : (g : Int) ∣ x) (hg : 0 < g) : (x / (g : Int)).natAbs ≤ x.natAbs := by
  obtain ⟨k, rfl⟩ := h
  rw [Int.mul_ediv_cancel_left _ (by omega), Int.natAbs_mul]
  show k.natAbs ≤ g * k.natAbs
  exact Nat.le_mul_of_pos_left _ hg

theorem den_pos' (q : Rat) : (0 : Int) < q.den := by
  have := q.den_pos
  omega
theorem q_add (a b : Rat) : Rat.divInt (a.num * b.den + b.num * a.den) (a.den * b.den) = a + b := by
  rw [Rat.add_def', ← Int.natCast_mul, Rat.divInt_ofNat]
theorem q_mul (a b : Rat) : Rat.divInt (a.num * b.num) (a.den * b.den) = a * b := by
  rw [Rat.mul_def', ← Int.natCast_mul, Rat.divInt_ofNat]
theorem q_div (a b : Rat) : Rat.divInt (a.num * b.den) (a.den * b.num) = a / b := by
  rw [Rat.div_def]
  conv => rhs; rw [← Rat.num_divInt_den a, ← Rat.num_divInt_den b, Rat.inv_divInt, Rat.divInt_mul_divInt]
theorem q_divInt1 (x : Int) : Rat.divInt x 1 = (x : Rat) := by
  rw [show (1 : Int) = ((1 : Nat) : Int) from rfl, Rat.divInt_ofNat, Rat.mkRat_one]
theorem eq_of_cross {n d : Int} {q : Rat} (hd : d ≠ 0) (h : n * q.den = q.num * d) : Rat.divInt n d = q := by
  conv => rhs; rw [← Rat.num_divInt_den q]
  rw [Rat.divInt_eq_divInt_iff hd (by have := q.den_pos; omega)]
  exact h
theorem cross_of_eq {n d : Int} {q : Rat} (hd : d ≠ 0) (h : q = Rat.divInt n d) : n * q.den = q.num * d := by
  have := (Rat.divInt_eq_divInt_iff (n₁ := n) (n₂ := q.num) hd (show (q.den : Int) ≠ 0 by have := q.den_pos; omega)).1 (by rw [Rat.num_divInt_den, h])
  exact this
/-- n/d in lowest terms: by which number both are multiplied. -/
theorem parts_of {n d : Int} {q : Rat} (hd : 0 < d) (h : q = Rat.divInt n d) : ∃ g : Int, 0 < g ∧ n = q.num * g ∧ d = q.den * g := by
  obtain ⟨hn, hdd⟩ := (show (Rat.divInt n d).num = n / (Nat.gcd n.natAbs d.natAbs : Nat) ∧ ((Rat.divInt n d).den : Int) = d / (Nat.gcd n.natAbs d.natAbs : Nat) by
    have hg : Int.gcd d n = Nat.gcd n.natAbs d.natAbs := by rw [Int.gcd_comm]; rfl
    refine ⟨?_, ?_⟩
    · rw [Rat.num_divInt, hg, Int.sign_eq_one_of_pos hd, Int.one_mul]
    · rw [Rat.den_divInt, if_neg (by omega), hg, Int.natCast_ediv, show ((d.natAbs : Nat) : Int) = d by omega])
  subst h
  have hgp : 0 < Nat.gcd n.natAbs d.natAbs := Nat.gcd_pos_of_pos_right _ (by omega)
  refine ⟨(Nat.gcd n.natAbs d.natAbs : Nat), by omega, ?_, ?_⟩
  · rw [hn]
    exact (Int.ediv_mul_cancel (Int.ofNat_dvd_left.2 (Nat.gcd_dvd_left _ _))).symm
  · rw [hdd]
    exact (Int.ediv_mul_cancel (Int.ofNat_dvd_left.2 (Nat.gcd_dvd_right _ _))).symm
theorem cmpQ_cross {n d m e : Int} {a b : Rat} (hd : 0 < d) (he : 0 < e) (ha : a = Rat.divInt n d) (hb : b = Rat.divInt m e) : cmpZ (n * e) (m * d) = cmpQ a b := by
  obtain ⟨g, hg, rfl, rfl⟩ := parts_of hd ha
  obtain ⟨k, hk, rfl, rfl⟩ := parts_of he hb
  have e1 : a.num * g * (b.den * k) = (a.num * b.den) * (g * k) := by grind
  have e2 : b.num * k * (a.den * g) = (b.num * a.den) * (g * k) := by grind
  have hgk : 0 < g * k := Int.mul_pos hg hk
  have h1 : (a.num * b.den * (g * k) < b.num * a.den * (g * k)) ↔ a < b := by
    rw [Rat.lt_iff]
    exact ⟨fun h => Int.lt_of_mul_lt_mul_right h (Int.le_of_lt hgk), fun h => Int.mul_lt_mul_of_pos_right h hgk⟩
  have h2 : (a.num * b.den * (g * k) = b.num * a.den * (g * k)) ↔ a = b := by
    rw [Int.mul_eq_mul_right_iff (by omega), Rat.eq_iff_mul_eq_mul]
  unfold cmpZ cmpQ
  rw [e1, e2]
  simp only [h1, h2]
theorem cmpQ_parts (a b : Rat) : cmpZ (a.num * b.den) (b.num * a.den) = cmpQ a b := cmpQ_cross (den_pos' a) (den_pos' b) (Rat.num_divInt_den a).symm (Rat.num_divInt_den b).symm
theorem floor_of {n d : Int} {q : Rat} (hd : 0 < d) (h : q = Rat.divInt n d) : n / d = qfl q := by
  obtain ⟨g, hg, rfl, rfl⟩ := parts_of hd h
  exact Int.mul_ediv_mul_of_pos_left _ _ hg
theorem sign_of {n d : Int} {q : Rat} (hd : 0 < d) (h : q = Rat.divInt n d) : n.sign = q.num.sign := by
  obtain ⟨g, hg, rfl, rfl⟩ := parts_of hd h
  rw [Int.sign_mul, Int.sign_eq_one_of_pos hg, Int.mul_one]
theorem cmpQ_lt {a b : Rat} : cmpQ a b < 0 ↔ a < b := by unfold cmpQ; grind
theorem cmpQ_eq {a b : Rat} : cmpQ a b = 0 ↔ a = b := by unfold cmpQ; grind
theorem cmpQ_gt {a b : Rat} : 0 < cmpQ a b ↔ b < a := by unfold cmpQ; grind
theorem cmpQ_ge {a b : Rat} : 0 ≤ cmpQ a b ↔ b ≤ a := by unfold cmpQ; grind
theorem cmpQ_le {a b : Rat} : cmpQ a b ≤ 0 ↔ a ≤ b := by unfold cmpQ; grind
theorem sign_lt0 {q : Rat} : q.num.sign < 0 ↔ q < 0 := by
  rw [Rat.lt_iff]; simp
theorem sign_eq0 {q : Rat} : q.num.sign = 0 ↔ q = 0 := by rw [Int.sign_eq_zero_iff_zero, Rat.num_eq_zero]
theorem sign_cmp {q : Rat} : q.num.sign = cmpQ q 0 := by
  unfold cmpQ
  by_cases h : q < 0
  · rw [if_pos h]
    rw [Rat.lt_iff] at h
    exact Int.sign_eq_neg_one_of_neg (by simpa using h)
  · rw [if_neg h]
    by_cases h0 : q = 0
    · rw [if_pos h0, h0]; rfl
    · rw [if_neg h0]
      rw [Rat.lt_iff] at h
      have : q.num ≠ 0 := fun e => h0 (Rat.num_eq_zero.1 e)
      have h : ¬ q.num < 0 := by simpa using h
      exact Int.sign_eq_one_of_pos (by omega)
/-- The floor's own law. -/
theorem qfl_le (q : Rat) : (qfl q : Rat) ≤ q := by
  rw [Rat.le_iff]
  unfold qfl
  show q.num / q.den * (q.den : Int) ≤ q.num * (1 : Nat)
  have := Int.ediv_mul_le q.num (show (q.den : Int) ≠ 0 by have := q.den_pos; omega)
  omega
theorem qfl_lt (q : Rat) : q < (qfl q : Rat) + 1 := by
  rw [show (qfl q : Rat) + 1 = ((qfl q + 1 : Int) : Rat) by rw [Rat.intCast_add]; rfl, Rat.lt_iff]
  unfold qfl
  show q.num * (1 : Nat) < (q.num / q.den + 1) * (q.den : Int)
  have := Int.lt_ediv_add_one_mul_self q.num (den_pos' q)
  omega
theorem qfl_unique {q : Rat} {z : Int} (h1 : (z : Rat) ≤ q) (h2 : q < (z : Rat) + 1) : qfl q = z := by
  have a1 := qfl_le q
  have a2 := qfl_lt q
  have b1 : (z : Rat) < (qfl q : Rat) + 1 := by grind
  have b2 : (qfl q : Rat) < (z : Rat) + 1 := by grind
  have b1' : ((z : Int) : Rat) < ((qfl q + 1 : Int) : Rat) := by rw [Rat.intCast_add]; exact b1
  have b2' : ((qfl q : Int) : Rat) < ((z + 1 : Int) : Rat) := by rw [Rat.intCast_add]; exact b2
  rw [Rat.intCast_lt_intCast] at b1' b2'
  omega
/-- The nearest, the even one of two. -/
theorem qnr_spec (q : Rat) : qnr q = if q - qfl q < (qfl q + 1) - q ∨ (q - qfl q = (qfl q + 1) - q ∧ qfl q % 2 = 0) then qfl q else qfl q + 1 := by
  obtain ⟨l, hl⟩ : ∃ l, l = qfl q := ⟨_, rfl⟩
  obtain ⟨r, hr⟩ : ∃ r, r = q.num % q.den := ⟨_, rfl⟩
  obtain ⟨D, hD⟩ : ∃ D : Int, D = q.den := ⟨_, rfl⟩
  have hDp : 0 < D := by rw [hD]; exact den_pos' q
  have hN : q.num = l * D + r := by
    have := Int.mul_ediv_add_emod q.num q.den
    rw [hl, hr, hD]
    unfold qfl
    rw [Int.mul_comm]
    omega
  have hr0 : 0 ≤ r := by rw [hr]; exact Int.emod_nonneg _ (by have := q.den_pos; omega)
  have hr1 : r < D := by rw [hr, hD]; exact Int.emod_lt_of_pos _ (den_pos' q)
  have hq : q = (l : Rat) + Rat.divInt r D := by
    rw [← q_divInt1, Rat.divInt_add_divInt _ _ (by omega) (by omega)]
    refine (eq_of_cross (by omega) ?_).symm
    rw [← hD, hN]
    grind
  have hX : q.num * 2 + q.den = l * (D * 2) + (r * 2 + D) := by rw [hN, ← hD]; grind
  have e1 : (q.num * 2 + q.den) / (q.den * 2) = l + (r * 2 + D) / (D * 2) := by
    rw [hX, ← hD, Int.add_comm, Int.add_mul_ediv_right _ _ (by omega), Int.add_comm]
  have e2 : (q.num * 2 + q.den) % (q.den * 2) = (r * 2 + D) % (D * 2) := by
    rw [hX, ← hD, Int.add_comm, Int.add_mul_emod_self_right]
  unfold qnr
  rw [e1, e2, ← hl]
  have key : q - l = Rat.divInt r D := by grind
  have k2 : (l : Rat) + 1 - q = Rat.divInt (D - r) D := by
    have : Rat.divInt (D - r) D = 1 - Rat.divInt r D := by
      rw [show (1 : Rat) = Rat.divInt 1 1 from rfl, Rat.divInt_sub_divInt _ _ (by omega) (by omega), Rat.divInt_eq_divInt_iff (by omega) (by omega)]
      grind
    rw [this]
    grind
  rw [key, k2]
  have c1 : (Rat.divInt r D < Rat.divInt (D - r) D) ↔ r * 2 < D := by
    have := cmpQ_cross (a := Rat.divInt r D) (b := Rat.divInt (D - r) D) hDp hDp rfl rfl
    rw [← cmpQ_lt, ← this]
    unfold cmpZ
    have h1 : (r * D < (D - r) * D) ↔ r < D - r := ⟨fun h => Int.lt_of_mul_lt_mul_right h (by omega), fun h => Int.mul_lt_mul_of_pos_right h hDp⟩
    have h2 : (r * D = (D - r) * D) ↔ r = D - r := Int.mul_eq_mul_right_iff (by omega)
    simp only [h1, h2]
    (repeat' split) <;> omega
  have c2 : (Rat.divInt r D = Rat.divInt (D - r) D) ↔ r * 2 = D := by
    rw [Rat.divInt_eq_divInt_iff (by omega) (by omega), Int.mul_eq_mul_right_iff (by omega)]
    omega
  simp only [c1, c2]
  rcases Int.lt_trichotomy (r * 2) D with h | h | h
  · have : (r * 2 + D) / (D * 2) = 0 := Int.ediv_eq_zero_of_lt (by omega) (by omega)
    have h3 : (r * 2 + D) % (D * 2) = r * 2 + D := Int.emod_eq_of_lt (by omega) (by omega)
    rw [this, h3, if_neg (by omega), if_pos (.inl h)]
    omega
  · have h4 : r * 2 + D = 1 * (D * 2) := by omega
    rw [h4, Int.mul_ediv_cancel _ (by omega), Int.mul_emod_left]
    by_cases hev : l % 2 = 0
    · rw [if_pos ⟨rfl, by omega⟩, if_pos (.inr ⟨h, hev⟩)]
      omega
    · rw [if_neg (by omega), if_neg (by omega)]
  · have h4 : r * 2 + D = 1 * (D * 2) + (r * 2 - D) := by omega
    have h5 : (r * 2 + D) / (D * 2) = 1 := by
      rw [h4, Int.add_comm, Int.add_mul_ediv_right _ _ (by omega), Int.ediv_eq_zero_of_lt (by omega) (by omega)]
      rfl
    have h6 : (r * 2 + D) % (D * 2) = r * 2 - D := by
      rw [h4, Int.add_comm, Int.add_mul_emod_self_right, Int.emod_eq_of_lt (by omega) (by omega)]
    rw [h5, h6, if_neg (by omega), if_neg (by omega)]

theorem dl_digs : ∀ (n x : Nat), x ≤ n → ∀ d ∈ dl x, d ≤ 9 := by
  intro n
  induction n with
  | zero => intro x h d hd; have : x = 0 := by omega
            subst this; rw [dl_zero] at hd; simp at hd
  | succ n ih =>
    intro x h d hd
    by_cases hx : x = 0
    · subst hx; rw [dl_zero] at hd; simp at hd
    · rw [dl_pos hx] at hd
      rcases List.mem_cons.1 hd with rfl | hd
      · omega
      · exact ih (x / 10) (by omega) d hd
theorem dl_last : ∀ (n x : Nat), x ≤ n → x ≠ 0 → ∃ a, (dl x).getLast? = some a ∧ 1 ≤ a := by
  intro n
  induction n with
  | zero => intro x h hx; omega
  | succ n ih =>
    intro x h hx
    rw [dl_pos hx]
    by_cases h1 : x / 10 = 0
    · rw [h1, dl_zero]
      exact ⟨x % 10, rfl, by omega⟩
    · obtain ⟨a, ha, h2⟩ := ih (x / 10) (by omega) h1
      refine ⟨a, ?_, h2⟩
      rw [List.getLast?_cons, ha]
      rfl
theorem dec_digs (x : Nat) : Digs (dec x) := by
  intro d hd
  unfold dec at hd
  split at hd
  · simp at hd; omega
  · have : ∃ a ∈ dl x, a + 48 = d := by simpa using hd
    obtain ⟨a, ha, rfl⟩ := this
    have := dl_digs x x (Nat.le_refl _) a ha
    omega
theorem dec_head {x : Nat} (hx : x ≠ 0) : ∃ a, (dec x).head? = some a ∧ 49 ≤ a := by
  obtain ⟨a, ha, h1⟩ := dl_last x x (Nat.le_refl _) hx
  refine ⟨a + 48, ?_, by omega⟩
  unfold dec
  rw [if_neg hx, List.head?_reverse, List.getLast?_map, ha]
  rfl
theorem dec_ne (x : Nat) : dec x ≠ [] := by
  by_cases hx : x = 0
  · subst hx; decide
  · intro e
    obtain ⟨a, ha, _⟩ := dec_head hx
    rw [e] at ha
    simp at ha
theorem dec_good {x : Nat} (h : (dec x).length ≤ 4096) : Good (dec x) := by
  refine ⟨dec_ne x, h, dec_digs x, fun hl => ?_⟩
  by_cases hx : x = 0
  · subst hx; simp [dec] at hl
  · obtain ⟨a, ha, h1⟩ := dec_head hx
    rw [ha]
    simp
    omega

/-- A quotient's text. -/
def qtxt (q : Rat) : ByteArray := if q.den = 1 then ztxt q.num else ztxt q.num ++ ⟨#[47]⟩ ++ ztxt q.den

theorem txt_size {l : List Nat} : (txt l).size = l.length := by
  show (List.map _ l).toArray.size = _
  simp
theorem bs_dec (x : Nat) : bs (txt (dec x)) = dec x := bs_txt (dec_lt x)
theorem perr_txt {x : Nat} (h : (txt (dec x)).size ≤ 4096) : perr (txt (dec x)) = 0 ∧ pval (txt (dec x)) = x := by
  rw [txt_size] at h
  have := perr_ok (s := txt (dec x)) (by rw [bs_dec]; exact dec_good h)
  rw [bs_dec, dval_dec] at this
  exact this
theorem txt_pos (x : Nat) : 0 < (txt (dec x)).size := by
  rw [txt_size]
  exact List.length_pos_iff.2 (dec_ne x)
theorem sneg_txt (x : Nat) : sneg (txt (dec x)) = false := by
  unfold sneg
  rw [bs_dec]
  cases he : dec x with
  | nil => rfl
  | cons a l =>
    have := dec_digs x a (by rw [he]; simp)
    simp
    omega
theorem bs_ext {s t : ByteArray} (h : bs s = bs t) : s = t := by
  apply ByteArray.ext
  apply Array.ext'
  unfold bs at h
  exact List.map_inj_right (fun a b hab => UInt8.toNat_inj.1 hab) |>.1 h
theorem sdig_minus (x : Nat) : sneg (⟨#[45]⟩ ++ txt (dec x)) = true ∧ sdig (⟨#[45]⟩ ++ txt (dec x)) = txt (dec x) := by
  have h1 : sneg (⟨#[45]⟩ ++ txt (dec x)) = true := by
    unfold sneg
    rw [show bs (⟨#[45]⟩ ++ txt (dec x)) = 45 :: bs (txt (dec x)) by unfold bs; simp]
    rfl
  refine ⟨h1, ?_⟩
  unfold sdig
  rw [if_pos h1]
  apply bs_ext
  rw [bs_drop]
  show List.drop 1 (bs (⟨#[45]⟩ ++ txt (dec x))) = _
  rw [show bs (⟨#[45]⟩ ++ txt (dec x)) = 45 :: bs (txt (dec x)) by unfold bs; simp]
  rfl
theorem zerr_ztxt {x : Int} (h : (txt (dec x.natAbs)).size ≤ 4096) : zerr (ztxt x) = 0 ∧ zval (ztxt x) = x := by
  obtain ⟨p1, p2⟩ := perr_txt h
  by_cases hx : x < 0
  · obtain ⟨h1, h2⟩ := sdig_minus x.natAbs
    have hz : ztxt x = ⟨#[45]⟩ ++ txt (dec x.natAbs) := by unfold ztxt; rw [if_pos hx]
    rw [← hz] at h1 h2
    have hs : (ztxt x).size ≤ 4097 := by rw [hz, ByteArray.size_append]; show 1 + _ ≤ _; omega
    obtain ⟨a, b⟩ := zperr_m (s := ztxt x) (by rw [h2]; exact p1) h1 (by rw [h2, p2]; omega)
    refine ⟨by rw [zerr_short (by omega) (by rw [h2]; omega)]; exact a, ?_⟩
    rw [b, h2, p2]
    omega
  · have h1 := sneg_txt x.natAbs
    have hz : ztxt x = txt (dec x.natAbs) := by unfold ztxt; rw [if_neg hx]
    rw [← hz] at h1
    have h2 := sdig_pos h1
    obtain ⟨a, b⟩ := zperr_p (s := ztxt x) (by rw [h2, hz]; exact p1) h1
    refine ⟨by rw [zerr_short (by rw [hz]; omega) (by rw [h2, hz]; omega)]; exact a, ?_⟩
    rw [b, h2, hz, p2]
    omega

abbrev qv (n : Sl) (nb : Bool) (d : Sl) (db : Bool) : Value := .agg #[.slice n.ao n.n n.c, .bool nb, .slice d.ao d.n d.c, .bool db]
abbrev pv (S : Int) (s : Sl) (R : Int) (t : Sl) : Value := .agg #[.int .i64 S, .slice s.ao s.n s.c, .int .i64 R, .slice t.ao t.n t.c]

/-- The place of the first stroke; the text's size, if there is none. -/
def sidx (s : ByteArray) : Nat := (bs s).findIdx (· == 47)
def over (s : ByteArray) : ByteArray := s.extract 0 (sidx s)
def under (s : ByteArray) : ByteArray := s.extract (sidx s + 1) s.size
/-- A quotient's text: which error. -/
def qerr (s : ByteArray) : Int := if zerr (over s) ≠ 0 then zerr (over s) else if sidx s < s.size then (if perr (under s) ≠ 0 then perr (under s) else if pval (under s) = 0 then 5 else 0) else 0
/-- Which quotient. -/
def qval (s : ByteArray) : Rat := if qerr s ≠ 0 then 0 else if sidx s < s.size then Rat.divInt (zval (over s)) (pval (under s)) else (zval (over s) : Rat)
theorem sidx_le (s : ByteArray) : sidx s ≤ s.size := by
  unfold sidx
  have := List.findIdx_le_length (p := (· == 47)) (xs := bs s)
  rwa [bs_size] at this
theorem over_all {s : ByteArray} (h : ¬ sidx s < s.size) : over s = s := by
  unfold over
  rw [show sidx s = s.size by have := sidx_le s; omega]
  exact ByteArray.extract_zero_size

end Go.Proofs.YtabpaiboodllbaaGreat
