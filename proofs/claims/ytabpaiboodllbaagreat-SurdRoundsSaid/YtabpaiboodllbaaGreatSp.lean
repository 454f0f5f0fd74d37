
/- How near to 0 a number with two roots can come. Plain laws. -/
import Derived.Test.YtabpaiboodllbaaGreatSk
import Derived.Test.YtabpaiboodllbaaGreatBq
set_option linter.unusedSimpArgs false
set_option linter.unusedVariables false
namespace Go.Proofs.YtabpaiboodllbaaGreat
open Go.RowKit Go.IntWalk

/-- 2^a. -/
def tw (a : Nat) : Rat := (((2 ^ a : Nat) : Int) : Rat)
theorem tw_eq (a : Nat) : tw a = ((2 ^ a : Int) : Rat) := by unfold tw; push_cast; rfl
theorem tw_pos (a : Nat) : 0 < tw a := by rw [tw_eq]; exact two_pos a
theorem tw_add (a b : Nat) : tw (a + b) = tw a * tw b := by unfold tw; rw [← natCast_mul', Nat.pow_add]
theorem tw_zero : tw 0 = 1 := rfl
theorem tw_one : tw 1 = 2 := rfl
theorem tw_mono {a b : Nat} (h : a ≤ b) : tw a ≤ tw b := nat_le_rat (Nat.pow_le_pow_right (by decide) h)
theorem tk_tw (a : Nat) : tk a * tw a = 1 := by rw [tw_eq]; exact tk_mul a
theorem tk_add (a b : Nat) : tk (a + b) * tw b = tk a := by
  have h1 := tk_tw (a + b)
  have h2 := tk_tw a
  rw [tw_add] at h1
  have h3 : 0 ≤ (tk (a + b) * tw b - tk a) * tw a := by grind
  have h4 : 0 ≤ (tk a - tk (a + b) * tw b) * tw a := by grind
  have := nonneg_of_mul (tw_pos a) h3
  have := nonneg_of_mul (tw_pos a) h4
  grind
theorem tk_succ (a : Nat) : tk (a + 1) + tk (a + 1) = tk a := by
  have := tk_add a 1
  rw [tw_one] at this
  grind
theorem tk_lt {a b : Nat} (h : a < b) : tk b < tk a := by
  obtain ⟨d, rfl⟩ : ∃ d, b = a + 1 + d := ⟨b - (a + 1), by omega⟩
  have h1 := tk_add (a + 1) d
  have h2 := tk_succ a
  have h3 := tk_pos (a + 1 + d)
  have h4 := tk_pos (a + 1)
  have h5 := tw_mono (Nat.zero_le d)
  rw [tw_zero] at h5
  have := Rat.mul_nonneg (Rat.le_of_lt h3) (show 0 ≤ tw d - 1 by grind)
  grind

/-- So great at most, with a denominator so great at most. -/
def md (a d : Nat) (x : Rat) : Prop := -(tw a) ≤ x ∧ x ≤ tw a ∧ x.den ≤ 2 ^ d
theorem md.mono {a d a' d' : Nat} {x : Rat} (h : md a d x) (ha : a ≤ a') (hd : d ≤ d') : md a' d' x := by
  have := tw_mono ha
  exact ⟨by have := h.1; grind, by have := h.2.1; grind, Nat.le_trans h.2.2 (Nat.pow_le_pow_right (by decide) hd)⟩
theorem den_of {n d : Int} {q : Rat} (hd : 0 < d) (h : q = Rat.divInt n d) : q.den ≤ d.natAbs := by
  obtain ⟨g, hg, e1, e2⟩ := parts_of hd h
  have hdd : d.natAbs = q.den * g.natAbs := by rw [e2, Int.natAbs_mul]; rfl
  have : q.den * 1 ≤ q.den * g.natAbs := Nat.mul_le_mul_left _ (by omega)
  omega
theorem md.mul {a d b e : Nat} {x y : Rat} (hx : md a d x) (hy : md b e y) : md (a + b) (d + e) (x * y) := by
  have p1 := tw_pos a
  have p2 := tw_pos b
  obtain ⟨x1, x2, x3⟩ := hx
  obtain ⟨y1, y2, y3⟩ := hy
  rw [md, tw_add]
  have q1 := Rat.mul_nonneg (show 0 ≤ tw a - x by grind) (show 0 ≤ tw b + y by grind)
  have q2 := Rat.mul_nonneg (show 0 ≤ tw a + x by grind) (show 0 ≤ tw b - y by grind)
  have q3 := Rat.mul_nonneg (show 0 ≤ tw a - x by grind) (show 0 ≤ tw b - y by grind)
  have q4 := Rat.mul_nonneg (show 0 ≤ tw a + x by grind) (show 0 ≤ tw b + y by grind)
  refine ⟨by grind, by grind, ?_⟩
  have := den_of (by have := den_pos' x; have := den_pos' y; exact Int.mul_pos (by assumption) (by assumption)) (q_mul x y).symm
  rw [Int.natAbs_mul] at this
  rw [Nat.pow_add]
  exact Nat.le_trans this (Nat.mul_le_mul x3 y3)
theorem md.add {a d b e : Nat} {x y : Rat} (hx : md a d x) (hy : md b e y) : md (max a b + 1) (d + e) (x + y) := by
  obtain ⟨x1, x2, x3⟩ := hx
  obtain ⟨y1, y2, y3⟩ := hy
  have m1 := tw_mono (Nat.le_max_left a b)
  have m2 := tw_mono (Nat.le_max_right a b)
  rw [md, tw_add (max a b) 1, tw_one]
  refine ⟨by grind, by grind, ?_⟩
  have := den_of (by have := den_pos' x; have := den_pos' y; exact Int.mul_pos (by assumption) (by assumption)) (q_add x y).symm
  rw [Int.natAbs_mul] at this
  rw [Nat.pow_add]
  exact Nat.le_trans this (Nat.mul_le_mul x3 y3)
theorem md.neg {a d : Nat} {x : Rat} (hx : md a d x) : md a d (-x) := by
  obtain ⟨x1, x2, x3⟩ := hx
  exact ⟨by grind, by grind, by rw [Rat.neg_den]; exact x3⟩
theorem md.sub {a d b e : Nat} {x y : Rat} (hx : md a d x) (hy : md b e y) : md (max a b + 1) (d + e) (x - y) := by
  rw [Rat.sub_eq_add_neg]
  exact hx.add hy.neg
theorem md.int {a : Nat} {z : Int} (h : z.natAbs ≤ 2 ^ a) : md a 0 (z : Rat) := by
  have h1 : ((z.natAbs : Int) : Rat) ≤ tw a := nat_le_rat h
  have h2 : (z : Rat) ≤ ((z.natAbs : Int) : Rat) := Rat.intCast_le_intCast.2 (by omega)
  have h3 : -((z.natAbs : Int) : Rat) ≤ (z : Rat) := by rw [← Rat.intCast_neg]; exact Rat.intCast_le_intCast.2 (by omega)
  exact ⟨by grind, by grind, Nat.le_refl 1⟩
theorem md.zero (a d : Nat) : md a d 0 := (md.int (a := 0) (z := 0) (by decide)).mono (Nat.zero_le _) (Nat.zero_le _)
theorem bq.md {b : Nat} {x : Rat} (h : bq b x) : md b b x := by
  have h1 := rat_den x
  have hd : (1 : Rat) ≤ ((x.den : Int) : Rat) := by exact_mod_cast (show (1 : Int) ≤ x.den by have := x.den_pos; omega)
  obtain ⟨g1, g2, _⟩ := md.int (a := b) (z := x.num) (Nat.le_of_lt h.1)
  have hp := tw_pos b
  refine ⟨?_, ?_, Nat.le_of_lt h.2⟩
  · have := nonneg_of_mul (show 0 < ((x.den : Int) : Rat) by grind) (show 0 ≤ (x + tw b) * ((x.den : Int) : Rat) by
      have := Rat.mul_nonneg (Rat.le_of_lt hp) (show 0 ≤ ((x.den : Int) : Rat) - 1 by grind)
      grind)
    grind
  · have := nonneg_of_mul (show 0 < ((x.den : Int) : Rat) by grind) (show 0 ≤ (tw b - x) * ((x.den : Int) : Rat) by
      have := Rat.mul_nonneg (Rat.le_of_lt hp) (show 0 ≤ ((x.den : Int) : Rat) - 1 by grind)
      grind)
    grind
/-- It is not near to 0 but 0. -/
theorem md.nz {a d : Nat} {x : Rat} (h : md a d x) (h0 : x ≠ 0) : tk d ≤ x ∨ x ≤ -tk d := by
  have h1 := rat_den x
  have hd : (0 : Rat) < ((x.den : Int) : Rat) := by exact_mod_cast (show (0 : Int) < x.den by have := x.den_pos; omega)
  have hD : ((x.den : Int) : Rat) ≤ tw d := nat_le_rat h.2.2
  have hn : x.num ≠ 0 := fun e => h0 (Rat.num_eq_zero.1 e)
  have ht := tk_tw d
  have hp := tw_pos d
  by_cases hs : 0 < x.num
  · left
    have h2 : (1 : Rat) ≤ ((x.num : Int) : Rat) := by exact_mod_cast (show (1 : Int) ≤ x.num by omega)
    have hx : 0 ≤ x := nonneg_of_mul hd (by grind)
    have := Rat.mul_nonneg hx (show 0 ≤ tw d - ((x.den : Int) : Rat) by grind)
    have := nonneg_of_mul hp (show 0 ≤ (x - tk d) * tw d by grind)
    grind
  · right
    have h2 : ((x.num : Int) : Rat) ≤ ((-1 : Int) : Rat) := Rat.intCast_le_intCast.2 (by omega)
    have e : ((-1 : Int) : Rat) = -1 := rfl
    rw [e] at h2
    have hx : 0 ≤ -x := nonneg_of_mul hd (by grind)
    have := Rat.mul_nonneg hx (show 0 ≤ tw d - ((x.den : Int) : Rat) by grind)
    have := nonneg_of_mul hp (show 0 ≤ (-x - tk d) * tw d by grind)
    grind

/-- A root that is not whole is no quotient. -/
theorem irr {d : Int} (hd : 0 ≤ d) (h : isSq d = false) {x y : Rat} (e : x * x = d * (y * y)) : y = 0 := by
  by_cases hy : y = 0
  · exact hy
  exfalso
  have hmul : y * y⁻¹ = 1 := Rat.mul_inv_cancel _ hy
  obtain ⟨t, ht⟩ : ∃ t : Rat, t * t = d := ⟨x * y⁻¹, by
    generalize y⁻¹ = i at *
    have : x * i * (x * i) = d * ((y * i) * (y * i)) := by grind
    rw [this, hmul]
    grind⟩
  have h1 := rat_den t
  have h2 : ((t.num * t.num : Int) : Rat) = ((d * (t.den * t.den) : Int) : Rat) := by
    rw [Rat.intCast_mul, Rat.intCast_mul, Rat.intCast_mul, ← h1, ← ht]
    grind
  have h3 : t.num * t.num = d * (t.den * t.den) := Rat.intCast_inj.1 h2
  have h4 : t.num.natAbs * t.num.natAbs = d.natAbs * (t.den * t.den) := by
    have := congrArg Int.natAbs h3
    rw [Int.natAbs_mul, Int.natAbs_mul, Int.natAbs_mul] at this
    exact this
  have hc : Nat.Coprime t.den t.num.natAbs := (t.reduced).symm
  have h5 : t.den ∣ t.num.natAbs * t.num.natAbs := ⟨d.natAbs * t.den, by rw [h4]; grind⟩
  have h6 : t.den ∣ t.num.natAbs := hc.dvd_of_dvd_mul_left h5
  have h7 : t.den = 1 := by
    have := Nat.dvd_gcd (Nat.dvd_refl t.den) h6
    rw [hc] at this
    exact Nat.dvd_one.1 this
  rw [h7] at h4
  have h8 : isq d.natAbs = t.num.natAbs := by rw [show d.natAbs = t.num.natAbs * t.num.natAbs by omega]; exact isq_sq _
  unfold isSq at h
  rw [h8, h4] at h
  simp at h
theorem irr' {d : Int} (hd : 0 ≤ d) (h : isSq d = false) {x y : Rat} (e : x * x = d * (y * y)) : x = 0 ∧ y = 0 := by
  have hy := irr hd h e
  refine ⟨?_, hy⟩
  rw [hy] at e
  have : x * x = 0 := by rw [e]; grind
  rcases Rat.mul_eq_zero.1 this with h | h <;> exact h
theorem apx_le {m : Int} (hm : 0 ≤ m) {c : Nat} (h : m.natAbs ≤ 2 ^ c) (k : Nat) : 0 ≤ apx m k ∧ apx m k + 1 ≤ tw (c + 2) := by
  obtain ⟨h1, h2, _⟩ := apx_spec hm k
  obtain ⟨_, g2, _⟩ := md.int (a := c) (z := m) h
  have hm' : (0 : Rat) ≤ (m : Rat) := by exact_mod_cast hm
  refine ⟨h1, ?_⟩
  have hp : (1 : Rat) ≤ tw c := by have := tw_mono (Nat.zero_le c); rw [tw_zero] at this; exact this
  have h4 : tw 2 = 4 := rfl
  rw [tw_add, h4]
  by_cases hh : apx m k ≤ (m : Rat) + 1
  · grind
  · have h3 : 0 ≤ (apx m k - 1) * apx m k := Rat.mul_nonneg (by grind) h1
    grind
theorem le_neg' {a b : Rat} (h : a ≤ b) : -b ≤ -a := by grind
theorem neg_le' {a b : Rat} (h : -b ≤ a) : -a ≤ b := by grind
/-- What times something not great is not near to 0 is not near to 0. -/
theorem away {v c : Nat → Rat} {N : Rat} {C e : Nat} (hN : tk e ≤ N ∨ N ≤ -tk e) (hc : ∀ k, -(tw C) ≤ c k ∧ c k ≤ tw C) (hn : Nul (fun k => v k * c k - N)) :
    ∃ K, ∀ k, K ≤ k → tk (e + 1 + C) ≤ v k ∨ v k ≤ -tk (e + 1 + C) := by
  obtain ⟨K, hK⟩ := hn (tk (e + 1)) (tk_pos _)
  refine ⟨K, fun k hk => ?_⟩
  have h1 : -tk (e + 1) ≤ v k * c k - N ∧ v k * c k - N ≤ tk (e + 1) := hK k hk
  have h2 := hc k
  have h3 := tk_succ e
  have h4 := tk_add (e + 1) C
  have h5 := tk_pos (e + 1 + C)
  have h6 := tw_pos C
  generalize tk (e + 1 + C) = t at *
  generalize tw C = P at *
  generalize v k = x at *
  generalize c k = y at *
  by_cases a1 : t ≤ x
  · exact .inl a1
  by_cases a2 : x ≤ -t
  · exact .inr a2
  exfalso
  have key : ∀ z : Rat, -t < z → z < t → z * y < t * P := by
    intro z z1 z2
    by_cases hy : 0 < P + y
    · have q1 := Rat.mul_pos (show 0 < t - z by grind) hy
      have q2 := Rat.mul_nonneg (show 0 ≤ t + z by grind) (show 0 ≤ P - y by grind)
      grind
    · have q1 := Rat.mul_pos (show 0 < t + z by grind) (show 0 < P - y by grind)
      have q2 := Rat.mul_nonneg (show 0 ≤ t - z by grind) (show 0 ≤ P + y by grind)
      grind
  have k1 := key x (by grind) (by grind)
  have k2 := key (-x) (by grind) (by grind)
  rcases hN with h | h <;> grind

section
variable {A D c : Nat}
theorem sep2 {x y : Rat} {d : Int} (hd : 0 ≤ d) (hs : isSq d = false) (hc : d.natAbs ≤ 2 ^ c) (hx : md A D x) (hy : md A D y) (h0 : x ≠ 0 ∨ y ≠ 0) :
    ∃ K, ∀ k, K ≤ k → tk (4 * D + A + c + 4) ≤ x + y * apx d k ∨ x + y * apx d k ≤ -tk (4 * D + A + c + 4) := by
  have hN : md _ (4 * D) (x * x - d * (y * y)) := ((hx.mul hx).sub ((md.int hc).mul (hy.mul hy))).mono (Nat.le_refl _) (by omega)
  have hne : x * x - d * (y * y) ≠ 0 := fun e => by
    obtain ⟨h1, h2⟩ := irr' hd hs (x := x) (y := y) (by grind)
    rcases h0 with h | h <;> contradiction
  have := away (v := fun k => x + y * apx d k) (c := fun k => x - y * apx d k) (C := A + c + 3) (hN.nz hne) (fun k => by
    obtain ⟨a1, a2⟩ := apx_le hd hc k
    obtain ⟨x1, x2, _⟩ := hx
    obtain ⟨y1, y2, _⟩ := hy
    have p1 := tw_pos A
    have p2 := tw_pos (c + 2)
    have q1 := Rat.mul_nonneg (show 0 ≤ tw A - y by grind) a1
    have q2 := Rat.mul_nonneg (show 0 ≤ tw A + y by grind) a1
    have q3 := Rat.mul_nonneg (Rat.le_of_lt p1) (show 0 ≤ tw (c + 2) - (apx d k + 1) by grind)
    have e : tw (A + c + 3) = tw A * tw (c + 2) * 2 := by rw [show A + c + 3 = A + (c + 2) + 1 by omega, tw_add, tw_add, tw_one]
    rw [e]
    have q4 := Rat.mul_nonneg (Rat.le_of_lt p1) (Rat.le_of_lt p2)
    constructor <;> grind) (((apx_nul hd).mul (Bdd.const (-(y * y)))).congr (fun k => by grind))
  rwa [show 4 * D + 1 + (A + c + 3) = 4 * D + A + c + 4 by omega] at this
theorem sep4 {p q r s : Rat} {m n : Int} (hm : 0 ≤ m) (hn : 0 ≤ n) (sm : isSq m = false) (sn : isSq n = false) (smn : isSq (m * n) = false) (cm : m.natAbs ≤ 2 ^ c) (cn : n.natAbs ≤ 2 ^ c)
    (hp : md A D p) (hq : md A D q) (hr : md A D r) (hs : md A D s) (h0 : ¬ (p = 0 ∧ q = 0 ∧ r = 0 ∧ s = 0)) :
    ∃ K, ∀ k, K ≤ k → tk (24 * D + 3 * A + 4 * c + 14) ≤ p + q * apx m k + (r + s * apx m k) * apx n k ∨ p + q * apx m k + (r + s * apx m k) * apx n k ≤ -tk (24 * D + 3 * A + 4 * c + 14) := by
  obtain ⟨X, hX⟩ : ∃ X, X = p * p + m * (q * q) - n * (r * r + m * (s * s)) := ⟨_, rfl⟩
  obtain ⟨Y, hY⟩ : ∃ Y, Y = (2 : Int) * (p * q - n * (r * s)) := ⟨_, rfl⟩
  have c2 : ((2 : Int) : Rat) = 2 := rfl
  have mm := md.int cm
  have mn := md.int cn
  have dX : md (2 * A + 2 * c + 2) (8 * D) X := by
    rw [hX]
    exact (((hp.mul hp).add (mm.mul (hq.mul hq))).sub (mn.mul ((hr.mul hr).add (mm.mul (hs.mul hs))))).mono (by omega) (by omega)
  have dY : md (2 * A + c + 2) (4 * D) Y := by
    rw [hY]
    exact ((md.int (a := 1) (z := 2) (by decide)).mul ((hp.mul hq).sub (mn.mul (hr.mul hs)))).mono (by omega) (by omega)
  have dN : md _ (24 * D) (X * X - m * (Y * Y)) := ((dX.mul dX).sub (mm.mul (dY.mul dY))).mono (Nat.le_refl _) (by omega)
  have hne : X * X - m * (Y * Y) ≠ 0 := fun e => by
    obtain ⟨h1, h2⟩ := irr' hm sm (x := X) (y := Y) (by grind)
    rw [hX] at h1
    rw [hY, c2] at h2
    have z1 : (p * r - m * (q * s)) * (p * r - m * (q * s)) + m * ((q * r - p * s) * (q * r - p * s)) - n * ((r * r - m * (s * s)) * (r * r - m * (s * s))) = (r * r + m * (s * s)) * (p * p + m * (q * q) - n * (r * r + m * (s * s))) - 2 * m * r * s * (2 * (p * q - n * (r * s))) := by grind
    have z2 : 2 * ((p * r - m * (q * s)) * (q * r - p * s)) = (r * r + m * (s * s)) * (2 * (p * q - n * (r * s))) - 2 * r * s * (p * p + m * (q * q) - n * (r * r + m * (s * s))) := by grind
    rw [h1, h2] at z1 z2
    obtain ⟨C, hC⟩ : ∃ C, C = p * r - m * (q * s) := ⟨_, rfl⟩
    obtain ⟨E, hE⟩ : ∃ E, E = q * r - p * s := ⟨_, rfl⟩
    obtain ⟨B, hB⟩ : ∃ B, B = r * r - m * (s * s) := ⟨_, rfl⟩
    rw [← hC, ← hE, ← hB] at z1
    rw [← hC, ← hE] at z2
    have hCE : C * E = 0 := by grind
    have hB0 : B = 0 := by
      rcases Rat.mul_eq_zero.1 hCE with hc | he
      · rw [hc] at z1
        refine irr (Int.mul_nonneg hm hn) smn (x := (m : Rat) * E) (y := B) ?_
        rw [Rat.intCast_mul]
        have : (m : Rat) * (E * E) = n * (B * B) := by grind
        grind
      · rw [he] at z1
        exact irr hn sn (x := C) (y := B) (by grind)
    obtain ⟨r0, s0⟩ := irr' hm sm (x := r) (y := s) (by grind)
    rw [r0, s0] at h1
    have hm1 : (1 : Rat) ≤ (m : Rat) := by
      have : m ≠ 0 := fun e => by rw [e, isSq_zero] at sm; simp at sm
      exact_mod_cast (show (1 : Int) ≤ m by omega)
    have sq : ∀ x : Rat, 0 ≤ x * x := fun x => by
      by_cases h : 0 ≤ x
      · exact Rat.mul_nonneg h h
      · have := Rat.mul_nonneg (show 0 ≤ -x by grind) (show 0 ≤ -x by grind)
        grind
    have sp := sq p
    have sq' := sq q
    have := Rat.mul_nonneg (show 0 ≤ (m : Rat) - 1 by grind) sq'
    have q0 : q * q = 0 := by grind
    have p0 : p * p = 0 := by grind
    refine h0 ⟨?_, ?_, r0, s0⟩
    · rcases Rat.mul_eq_zero.1 p0 with h | h <;> exact h
    · rcases Rat.mul_eq_zero.1 q0 with h | h <;> exact h
  have bd := away (v := fun k => p + q * apx m k + (r + s * apx m k) * apx n k) (c := fun k => (p + q * apx m k + -(r + s * apx m k) * apx n k) * (X - Y * apx m k)) (C := 3 * A + 4 * c + 13) (dN.nz hne) (fun k => by
    obtain ⟨a1, a2⟩ := apx_le hm cm k
    obtain ⟨b1, b2⟩ := apx_le hn cn k
    have lin : ∀ {B F : Nat} {x y : Rat}, -(tw B) ≤ x → x ≤ tw B → -(tw B) ≤ y → y ≤ tw B → ∀ {g : Rat}, 0 ≤ g → g + 1 ≤ tw F → -(tw (B + F)) ≤ x + y * g ∧ x + y * g ≤ tw (B + F) := by
      intro B F x y x1 x2 y1 y2 g g1 g2
      have p1 := tw_pos B
      have q1 := Rat.mul_nonneg (show 0 ≤ tw B - y by grind) g1
      have q2 := Rat.mul_nonneg (show 0 ≤ tw B + y by grind) g1
      have q3 := Rat.mul_nonneg (Rat.le_of_lt p1) (show 0 ≤ tw F - (g + 1) by grind)
      rw [tw_add]
      constructor <;> grind
    obtain ⟨l1, l2⟩ := lin hp.1 hp.2.1 hq.1 hq.2.1 a1 a2
    obtain ⟨l3, l4⟩ := lin hr.1 hr.2.1 hs.1 hs.2.1 a1 a2
    obtain ⟨l5, l6⟩ := lin l1 l2 (y := -(r + s * apx m k)) (le_neg' l4) (neg_le' l3) b1 b2
    have hXm := dX.mono (show 2 * A + 2 * c + 2 ≤ 2 * A + 2 * c + 2 by omega) (Nat.le_refl _)
    have hYm := dY.mono (show 2 * A + c + 2 ≤ 2 * A + 2 * c + 2 by omega) (Nat.le_refl _)
    have yb : -(tw (2 * A + c + 2)) ≤ -Y ∧ -Y ≤ tw (2 * A + c + 2) := ⟨by have := dY.2.1; grind, by have := dY.1; grind⟩
    have xb : -(tw (2 * A + 2 * c + 5)) ≤ X - Y * apx m k ∧ X - Y * apx m k ≤ tw (2 * A + 2 * c + 5) := by
      have p1 := tw_pos (2 * A + c + 2)
      have q1 := Rat.mul_nonneg (show 0 ≤ tw (2 * A + c + 2) - (-Y) by grind) a1
      have q2 := Rat.mul_nonneg (show 0 ≤ tw (2 * A + c + 2) + (-Y) by grind) a1
      have q3 := Rat.mul_nonneg (Rat.le_of_lt p1) (show 0 ≤ tw (c + 2) - (apx m k + 1) by grind)
      have e1 : tw (2 * A + c + 2) * tw (c + 2) = tw (2 * A + 2 * c + 4) := by rw [← tw_add]; congr 1; omega
      have e2 : tw (2 * A + 2 * c + 5) = tw (2 * A + 2 * c + 4) * 2 := by rw [← tw_one, ← tw_add]
      have e3 := tw_mono (show 2 * A + 2 * c + 2 ≤ 2 * A + 2 * c + 4 by omega)
      obtain ⟨x1, x2, _⟩ := dX
      rw [e2]
      constructor <;> grind
    have pr : ∀ {B F : Nat} {x y : Rat}, -(tw B) ≤ x → x ≤ tw B → -(tw F) ≤ y → y ≤ tw F → -(tw (B + F)) ≤ x * y ∧ x * y ≤ tw (B + F) := by
      intro B F x y x1 x2 y1 y2
      rw [tw_add]
      have q1 := Rat.mul_nonneg (show 0 ≤ tw B - x by grind) (show 0 ≤ tw F + y by grind)
      have q2 := Rat.mul_nonneg (show 0 ≤ tw B + x by grind) (show 0 ≤ tw F - y by grind)
      have q3 := Rat.mul_nonneg (show 0 ≤ tw B - x by grind) (show 0 ≤ tw F - y by grind)
      have q4 := Rat.mul_nonneg (show 0 ≤ tw B + x by grind) (show 0 ≤ tw F + y by grind)
      constructor <;> grind
    have fin := pr l5 l6 xb.1 xb.2
    have e := tw_mono (show A + (c + 2) + (c + 2) + (2 * A + 2 * c + 5) ≤ 3 * A + 4 * c + 13 by omega)
    exact ⟨Rat.le_trans (le_neg' e) fin.1, Rat.le_trans fin.2 e⟩) (by
    have na := apx_nul hm
    have nb := apx_nul hn
    have ba := apx_bdd hm
    have bb := apx_bdd hn
    have t1 := (na.mul (Bdd.const (q * q - n * (s * s)))).add ((nb.mul (((Bdd.const r).add ((Bdd.const s).mul ba)).mul ((Bdd.const r).add ((Bdd.const s).mul ba)))).neg)
    have t2 := t1.mul ((Bdd.const X).add ((Bdd.const (-Y)).mul ba))
    have t3 := na.mul (Bdd.const (-(Y * Y)))
    refine (t2.add t3).congr (fun k => ?_)
    have hX' : X = p * p + m * (q * q) - n * (r * r + m * (s * s)) := hX
    have hY' : Y = 2 * (p * q - n * (r * s)) := by rw [hY, c2]
    clear hX hY dX dY dN hne t1 t2 t3 ba bb na nb
    have e1 : (p + q * apx m k + (r + s * apx m k) * apx n k) * (p + q * apx m k + -(r + s * apx m k) * apx n k) = X + Y * apx m k + ((apx m k * apx m k - m) * (q * q - n * (s * s)) + -((apx n k * apx n k - n) * ((r + s * apx m k) * (r + s * apx m k)))) := by
      rw [hX', hY']
      grind
    have e2 : (p + q * apx m k + (r + s * apx m k) * apx n k) * ((p + q * apx m k + -(r + s * apx m k) * apx n k) * (X - Y * apx m k)) = ((p + q * apx m k + (r + s * apx m k) * apx n k) * (p + q * apx m k + -(r + s * apx m k) * apx n k)) * (X - Y * apx m k) := by rw [Rat.mul_assoc]
    rw [e2, e1]
    clear e1 e2 hX' hY'
    grind)
  rwa [show 24 * D + 1 + (3 * A + 4 * c + 13) = 24 * D + 3 * A + 4 * c + 14 by omega] at bd
end
end Go.Proofs.YtabpaiboodllbaaGreat
