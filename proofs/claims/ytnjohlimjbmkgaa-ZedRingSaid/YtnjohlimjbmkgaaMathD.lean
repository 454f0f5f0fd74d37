/- Plain laws of the division by limbs: the guess of a digit, the subtraction of a multiple, the way back. -/
import Derived.Test.YtnjohlimjbmkgaaMathB
namespace Go.Proofs.Ytnjohlimjbmkgaa

theorem dg_of_lt {B m : Nat} {l : List Nat} (hB : 0 < B) (h : val B l < B ^ m) (j : Nat) (hj : m ≤ j) : dg l j = 0 := by
  by_cases hl : j < l.length
  · apply Nat.eq_zero_of_not_pos
    intro hp
    have h1 := val_take_drop B l j (by omega)
    rw [List.drop_eq_getElem_cons hl, val_cons, ← dg_of hl] at h1
    have h2 : B ^ m ≤ B ^ j := Nat.pow_le_pow_right hB hj
    have h3 : B ^ j * 1 ≤ B ^ j * (dg l j + B * val B (l.drop (j + 1))) := Nat.mul_le_mul_left _ (by omega)
    omega
  · exact dg_big (by omega)

/-- Nothing above a place: the value is that of the digits up to it. -/
theorem val_upto {B : Nat} {l : List Nat} (m : Nat) (h : ∀ j, m ≤ j → dg l j = 0) : val B l = val B (l.take m) := by
  by_cases hm : m ≤ l.length
  · rw [val_take_drop B l m hm, val_zeros B (l.drop m)]
    · simp
    · intro d hd
      obtain ⟨i, hi, rfl⟩ := List.mem_iff_getElem.1 hd
      simp only [List.length_drop] at hi
      have := h (m + i) (by omega)
      rw [dg_of (by omega)] at this
      simpa using this
  · rw [val_take_all _ _ _ (by omega)]

theorem take_lt {B : Nat} {l : List Nat} (hB : 0 < B) (hl : ∀ d ∈ l, d < B) (m : Nat) : val B (l.take m) < B ^ m := by
  have h1 := val_lt B (l.take m) (fun d hd => hl d (List.mem_of_mem_take hd))
  have h2 : B ^ (l.take m).length ≤ B ^ m := Nat.pow_le_pow_right hB (by simp; omega)
  omega

/-! The guess. W: the window; D: the divisor; t, s: D's first digits; two, x: W's first digits; P: the weight of what is left out. -/
section
variable {B P t s D2 D two x W2 W : Nat}

theorem guess_lo (hD : D = (t * B + s) * P + D2) (hW : W = (two * B + x) * P + W2) (ht : 0 < t) (hx : x < B) (hW2 : W2 < P) : W / D ≤ two / t := by
  rw [Nat.le_div_iff_mul_le ht]
  have h1 : W / D * D ≤ W := Nat.div_mul_le_self W D
  generalize W / D = g at *
  apply Nat.le_of_not_lt
  intro hlt
  have h2 : (two + 1) * (B * P) ≤ g * t * (B * P) := Nat.mul_le_mul_right _ hlt
  have h3 : g * t * (B * P) ≤ g * D := by
    rw [hD]
    have : t * (B * P) ≤ (t * B + s) * P + D2 := by
      have : t * B * P ≤ (t * B + s) * P := Nat.mul_le_mul_right _ (by omega)
      rw [← Nat.mul_assoc]; omega
    rw [Nat.mul_assoc]
    exact Nat.mul_le_mul_left _ this
  have h4 : W < (two + 1) * (B * P) := by
    rw [hW]
    have : (two * B + x + 1) * P ≤ (two * B + B) * P := Nat.mul_le_mul_right _ (by omega)
    have e : (two + 1) * (B * P) = (two * B + B) * P := by grind
    rw [e]
    rw [Nat.add_mul _ 1] at this
    omega
  omega

theorem guess_dec {g left : Nat} (hD : D = (t * B + s) * P + D2) (hW : W = (two * B + x) * P + W2) (hW2 : W2 < P) (hD0 : 0 < D) (hWB : W < B * D) (_hg : W / D ≤ g) (hl : g * t + left = two)
    (hc : B ≤ g ∨ left * B + x < g * s) : W / D ≤ g - 1 ∧ 0 < g := by
  have key : W < g * D := by
    rcases hc with hc | hc
    · exact Nat.lt_of_lt_of_le hWB (Nat.mul_le_mul_right _ hc)
    · have h1 : two * B + x + 1 ≤ g * (t * B + s) := by
        rw [← hl]
        have : g * (t * B + s) = g * t * B + g * s := by grind
        rw [this, Nat.add_mul]
        omega
      have h2 : (two * B + x + 1) * P ≤ g * (t * B + s) * P := Nat.mul_le_mul_right _ h1
      have h3 : g * (t * B + s) * P ≤ g * D := by
        rw [hD, Nat.mul_assoc]
        exact Nat.mul_le_mul_left _ (by omega)
      rw [Nat.add_mul _ 1] at h2
      omega
  have : W / D < g := by
    rw [Nat.div_lt_iff_lt_mul hD0]; exact key
  generalize W / D = q at *
  omega

theorem guess_hi {g left : Nat} (hD : D = (t * B + s) * P + D2) (hW : W = (two * B + x) * P + W2) (hD2 : D2 < P) (ht : 0 < t) (hD0 : 0 < D) (hl : g * t + left = two) (hgB : g ≤ B)
    (hc : g * s ≤ left * B + x) : g ≤ W / D + 1 := by
  have h1 : g * (t * B + s) ≤ two * B + x := by
    rw [← hl]
    have : g * (t * B + s) = g * t * B + g * s := by grind
    rw [this, Nat.add_mul]
    omega
  have h2 : g * (t * B + s) * P ≤ (two * B + x) * P := Nat.mul_le_mul_right _ h1
  have h3 : g * D = g * (t * B + s) * P + g * D2 := by rw [hD]; grind
  have h4 : g * D2 ≤ B * D2 := Nat.mul_le_mul_right _ hgB
  have h5 : B * D2 ≤ B * P := Nat.mul_le_mul_left _ (by omega)
  have h6 : B * P ≤ D := by
    rw [hD]
    have : 1 * (B * P) ≤ t * (B * P) := Nat.mul_le_mul_right _ ht
    have e : (t * B + s) * P = t * (B * P) + s * P := by grind
    rw [e]; omega
  have h7 : g * D ≤ W + D := by omega
  have h8 : (g - 1) * D ≤ W := by
    rw [Nat.sub_mul, Nat.one_mul]; omega
  have := (Nat.le_div_iff_mul_le hD0).2 h8
  omega

theorem guess_break {g left : Nat} (hgB : g ≤ B) (hs : s < B) (hl : B ≤ left) : g * s ≤ left * B + x := by
  have h1 : g * s ≤ B * B := Nat.mul_le_mul hgB (by omega)
  have h2 : B * B ≤ left * B := Nat.mul_le_mul_right _ hl
  omega

/-- The first guess is at most B + 1. -/
theorem guess_first (hD : D = (t * B + s) * P + D2) (hW : W = (two * B + x) * P + W2) (hs : s < B) (hD2 : D2 < P) (ht2 : B ≤ 2 * t) (_hB : 0 < B) (hWB : W < B * D) : two / t ≤ B + 1 := by
  have ht : 0 < t := by omega
  have h1 : two < (t + 1) * B := by
    apply Nat.lt_of_not_le
    intro hle
    have h2 : (t + 1) * B * (B * P) ≤ two * (B * P) := Nat.mul_le_mul_right _ hle
    have h3 : two * (B * P) ≤ W := by
      rw [hW]
      have : two * B * P ≤ (two * B + x) * P := Nat.mul_le_mul_right _ (by omega)
      rw [← Nat.mul_assoc]; omega
    have h4 : D < (t + 1) * B * P := by
      rw [hD]
      have : (t * B + s + 1) * P ≤ (t + 1) * B * P := Nat.mul_le_mul_right _ (by rw [Nat.add_mul]; omega)
      rw [Nat.add_mul _ 1] at this
      omega
    have h5 : B * D ≤ B * ((t + 1) * B * P) := Nat.mul_le_mul_left _ (by omega)
    have e : (t + 1) * B * (B * P) = B * ((t + 1) * B * P) := by grind
    omega
  have h6 : two / t < B + 2 := by
    rw [Nat.div_lt_iff_lt_mul ht]
    have : (t + 1) * B = t * B + B := by grind
    have : (B + 2) * t = t * B + 2 * t := by grind
    omega
  omega
end

/-- One limb of the subtraction of a multiple. -/
theorem msub_step {B i k g c bo bo' y z x' R : Nat} {p d : List Nat} (hp : i + k < p.length) (hz : dg p (i + k) = z) (hy : dg d k = y)
    (hx : x' + (c + g * y) % B + bo = z + B * bo')
    (h : val B p + B ^ i * (g * val B (d.take k)) = R + B ^ (i + k) * (c + bo)) :
    val B (p.set (i + k) x') + B ^ i * (g * val B (d.take (k + 1))) = R + B ^ (i + (k + 1)) * ((c + g * y) / B + bo') := by
  have h1 := val_set B p (i + k) x' hp
  rw [hz] at h1
  rw [val_take_next B d k, hy]
  have h2 := Nat.div_add_mod (c + g * y) B
  generalize (c + g * y) / B = u at *
  generalize (c + g * y) % B = v at *
  have e1 : B ^ (i + (k + 1)) = B ^ (i + k) * B := by rw [← Nat.add_assoc, Nat.pow_succ]
  have e2 : B ^ (i + k) = B ^ i * B ^ k := Nat.pow_add B i k
  have e3 : B ^ i * (g * (val B (d.take k) + B ^ k * y)) = B ^ i * (g * val B (d.take k)) + B ^ (i + k) * (g * y) := by rw [e2]; grind
  rw [e3, e1]
  generalize B ^ i * (g * val B (d.take k)) = S at *
  generalize B ^ (i + k) = Q at *
  generalize val B (p.set (i + k) x') = V' at *
  generalize val B p = V at *
  have h3 : Q * (x' + v + bo) = Q * (z + B * bo') := by rw [hx]
  have h4 : Q * (B * u + v) = Q * (c + g * y) := by rw [h2]
  generalize g * y = G at *
  grind

/-- The highest limb, where nothing was borrowed. -/
theorem msub_fits {B i n z cb R S : Nat} {p : List Nat} (hp : i + n < p.length) (hz : dg p (i + n) = z) (hzc : cb ≤ z)
    (h : val B p + S = R + B ^ (i + n) * cb) : val B (p.set (i + n) (z - cb)) + S = R := by
  have h1 := val_set B p (i + n) (z - cb) hp
  rw [hz] at h1
  obtain ⟨y, rfl⟩ : ∃ y, z = cb + y := ⟨z - cb, by omega⟩
  rw [Nat.add_sub_cancel_left] at *
  rw [Nat.mul_add] at h1
  omega

theorem msub_less {B i n z cb R S : Nat} {p : List Nat} (hp : i + n < p.length) (hz : dg p (i + n) = z) (hzc : z < cb) (hcb : cb ≤ z + B)
    (h : val B p + S = R + B ^ (i + n) * cb) : val B (p.set (i + n) (z + B - cb)) + S = R + B ^ (i + n) * B := by
  have h1 := val_set B p (i + n) (z + B - cb) hp
  rw [hz] at h1
  obtain ⟨y, hy⟩ : ∃ y, z + B = cb + y := ⟨z + B - cb, by omega⟩
  have e : z + B - cb = y := by omega
  rw [e] at h1 ⊢
  have h2 : B ^ (i + n) * (z + B) = B ^ (i + n) * (cb + y) := by rw [hy]
  rw [Nat.mul_add, Nat.mul_add] at h2
  omega

/-- One limb of the way back. -/
theorem back_step {B i k c y z R : Nat} {p d : List Nat} (hp : i + k < p.length) (hz : dg p (i + k) = z) (hy : dg d k = y)
    (h : val B p + B ^ (i + k) * c = R + B ^ i * val B (d.take k)) :
    val B (p.set (i + k) ((c + (z + y)) % B)) + B ^ (i + (k + 1)) * ((c + (z + y)) / B) = R + B ^ i * val B (d.take (k + 1)) := by
  have h1 := val_set B p (i + k) ((c + (z + y)) % B) hp
  rw [hz] at h1
  rw [val_take_next B d k, hy]
  have h2 := Nat.div_add_mod (c + (z + y)) B
  generalize (c + (z + y)) / B = u at *
  generalize (c + (z + y)) % B = v at *
  have e1 : B ^ (i + (k + 1)) = B ^ (i + k) * B := by rw [← Nat.add_assoc, Nat.pow_succ]
  have e2 : B ^ (i + k) = B ^ i * B ^ k := Nat.pow_add B i k
  have e3 : B ^ i * (val B (d.take k) + B ^ k * y) = B ^ i * val B (d.take k) + B ^ (i + k) * y := by rw [e2]; grind
  rw [e3, e1]
  generalize B ^ i * val B (d.take k) = S at *
  generalize B ^ (i + k) = Q at *
  have h4 : Q * (B * u + v) = Q * (c + (z + y)) := by rw [h2]
  grind

/-- The highest limb of the way back: what is left is the rest, and the limb comes to 0. -/
theorem back_end {B m z c T : Nat} {p : List Nat} (hB : 1 < B) (hp : m < p.length) (hl : ∀ d ∈ p, d < B) (hz : dg p m = z) (hab : ∀ j, m < j → dg p j = 0) (hT : T < B ^ m)
    (h : val B p + B ^ m * c = T + B ^ m * B) : z + c = B ∧ val B (p.set m 0) = T := by
  have h1 := val_set B p m 0 hp
  rw [hz] at h1
  have h2 : val B p = val B (p.take m) + B ^ m * z := by
    rw [val_upto (B := B) (m + 1) (fun j hj => hab j (by omega)), val_take_next, hz]
  have h3 := take_lt (B := B) (by omega) hl m
  have hP : 0 < B ^ m := Nat.pow_pos (by omega)
  have h4 : val B (p.take m) + B ^ m * (z + c) = T + B ^ m * B := by rw [Nat.mul_add]; omega
  have h5 : z + c = B := by
    have e1 : (val B (p.take m) + B ^ m * (z + c)) / B ^ m = z + c := by rw [Nat.add_mul_div_left _ _ hP, Nat.div_eq_of_lt h3, Nat.zero_add]
    have e2 : (T + B ^ m * B) / B ^ m = B := by rw [Nat.add_mul_div_left _ _ hP, Nat.div_eq_of_lt hT, Nat.zero_add]
    rw [← e1, h4, e2]
  refine ⟨h5, ?_⟩
  rw [h5] at h4
  omega

/-- The window's digits. -/
theorem window {B i n : Nat} {p : List Nat} (hB : 0 < B) (hl : ∀ d ∈ p, d < B) (hab : ∀ j, i + (n + 2) < j → dg p j = 0) (_hi : i ≤ p.length) :
    val B p / B ^ i = ((dg p (i + (n + 2)) * B + dg p (i + (n + 1))) * B + dg p (i + n)) * B ^ n + val B ((p.drop i).take n) := by
  rw [← val_drop B hB p i hl]
  have h1 : val B (p.drop i) = val B ((p.drop i).take (n + 3)) := val_upto (n + 3) (fun j hj => by rw [dg_drop]; exact hab _ (by omega))
  rw [h1, val_take_next, val_take_next, val_take_next, dg_drop, dg_drop, dg_drop]
  have e1 : B ^ (n + 1) = B ^ n * B := Nat.pow_succ ..
  have e2 : B ^ (n + 2) = B ^ n * B * B := by rw [show n + 2 = (n + 1) + 1 from rfl, Nat.pow_succ, Nat.pow_succ]
  rw [show n + 1 + 1 = n + 2 from rfl, e1, e2]
  grind

theorem top_two {B n : Nat} {d : List Nat} (h : d.length = n + 2) : val B d = (dg d (n + 1) * B + dg d n) * B ^ n + val B (d.take n) := by
  have h1 : val B d = val B (d.take (n + 2)) := by rw [val_take_all _ _ _ (by omega)]
  rw [h1, val_take_next, val_take_next, Nat.pow_succ]
  grind

/-- What a digit of the quotient does. -/
theorem digit_done {B i g D R V : Nat} (hD : 0 < D) (hB : 0 < B ^ i) (hlo : R / B ^ i / D ≤ g) (h : V + B ^ i * (g * D) = R) : g = R / B ^ i / D ∧ V < D * B ^ i := by
  have h1 : g * D ≤ R / B ^ i := by
    rw [Nat.le_div_iff_mul_le hB, Nat.mul_comm]; omega
  have h2 : g ≤ R / B ^ i / D := by rw [Nat.le_div_iff_mul_le hD]; exact h1
  have h3 : g = R / B ^ i / D := by omega
  refine ⟨h3, ?_⟩
  have h4 : R / B ^ i < (g + 1) * D := by
    rw [h3, ← Nat.div_lt_iff_lt_mul hD]; omega
  have h5 : R < (g + 1) * D * B ^ i := by
    rw [← Nat.div_lt_iff_lt_mul hB]; exact h4
  have e : (g + 1) * D * B ^ i = B ^ i * (g * D) + D * B ^ i := by grind
  omega

theorem div_put {B j g D R U V : Nat} {qs : List Nat} (hj : j < qs.length) (h1 : V + B ^ j * (g * D) = R) (h2 : R + D * (B ^ (j + 1) * val B (qs.drop (j + 1))) = U) :
    V + D * (B ^ j * val B ((qs.set j g).drop j)) = U := by
  have h3 : (qs.set j g).drop j = g :: qs.drop (j + 1) := by
    rw [List.drop_eq_getElem_cons (by simp; omega), List.getElem_set_self, List.drop_set_of_lt (by omega)]
  rw [h3, val_cons, ← h2, ← h1, Nat.pow_succ]
  grind

/-- Where the highest limb is too small, the guess was too great. -/
theorem msub_over {B j M g D z cb R : Nat} {p : List Nat} (hB : 1 < B) (hl : ∀ d ∈ p, d < B) (hz : dg p M = z) (hzc : z < cb) (hab : ∀ j', M < j' → dg p j' = 0) (hD : 0 < D)
    (h : val B p + B ^ j * (g * D) = R + B ^ M * cb) : R / B ^ j / D < g := by
  have h2 : val B p = val B (p.take M) + B ^ M * z := by
    rw [val_upto (B := B) (M + 1) (fun j' hj => hab j' (by omega)), val_take_next, hz]
  have h3 := take_lt (B := B) (by omega) hl M
  have h4 : B ^ M * (z + 1) ≤ B ^ M * cb := Nat.mul_le_mul_left _ hzc
  rw [Nat.mul_add, Nat.mul_one] at h4
  rw [Nat.div_lt_iff_lt_mul hD, Nat.div_lt_iff_lt_mul (Nat.pow_pos (by omega))]
  have e : g * D * B ^ j = B ^ j * (g * D) := Nat.mul_comm _ _
  omega

/-- What is left behind the way back. -/
theorem back_T {B j M g D R V V3 c : Nat} (hB : 1 < B) (hD : 0 < D) (hDM : D * B ^ j ≤ B ^ M) (hg : R / B ^ j / D = g) (h : V + B ^ j * ((g + 1) * D) = R + B ^ M * B) (h3 : V3 + B ^ M * c = V + B ^ j * D) :
    ∃ T, V3 + B ^ M * c = T + B ^ M * B ∧ T < B ^ M ∧ T + B ^ j * (g * D) = R := by
  have hP : 0 < B ^ j := Nat.pow_pos (by omega)
  have h4 : B ^ j * (g * D) ≤ R := by
    have h5 : g * D ≤ R / B ^ j := by rw [← hg]; exact Nat.div_mul_le_self _ _
    have := (Nat.le_div_iff_mul_le hP).1 h5
    rw [Nat.mul_comm]; exact this
  obtain ⟨T, hT⟩ : ∃ T, R = T + B ^ j * (g * D) := ⟨R - B ^ j * (g * D), by omega⟩
  have h6 : T < D * B ^ j := (digit_done (B := B) (i := j) (g := g) (D := D) (R := R) (V := T) hD hP (by omega) hT.symm).2
  refine ⟨T, ?_, by omega, hT.symm⟩
  have e : B ^ j * ((g + 1) * D) = B ^ j * (g * D) + B ^ j * D := by grind
  omega

theorem div_unshift {p q x y P : Nat} (hP : 0 < P) (hy : 0 < y) (h : p + y * P * q = x * P) (hp : p < y * P) : q = x / y ∧ p / P = x % y := by
  have e : x * P = y * P * q + p := by omega
  have h1 : x * P / (y * P) = q := by
    rw [e, Nat.mul_add_div (Nat.mul_pos hy hP), Nat.div_eq_of_lt hp, Nat.add_zero]
  have h2 : x * P % (y * P) = p := by
    rw [e, Nat.mul_add_mod, Nat.mod_eq_of_lt hp]
  rw [Nat.mul_div_mul_right _ _ hP] at h1
  rw [Nat.mul_mod_mul_right] at h2
  exact ⟨h1.symm, by rw [← h2, Nat.mul_div_cancel _ hP]⟩

end Go.Proofs.Ytnjohlimjbmkgaa
