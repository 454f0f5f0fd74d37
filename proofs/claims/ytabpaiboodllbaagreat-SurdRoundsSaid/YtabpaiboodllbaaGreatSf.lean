
/- The floor and the nearest whole number of a number with two roots: what they are, plain laws. -/
import Derived.Test.YtabpaiboodllbaaGreatSc
import Derived.Test.YtabpaiboodllbaaGreatSg
set_option linter.unusedSimpArgs false
set_option linter.unusedVariables false
namespace Go.Proofs.YtabpaiboodllbaaGreat
open Go.RowKit Go.IntWalk

theorem rat_den (e : Rat) : e * ((e.den : Int) : Rat) = ((e.num : Int) : Rat) := by
  rw [← q_divInt1, ← q_divInt1]
  conv => lhs; rw [← Rat.num_divInt_den e]
  rw [Rat.divInt_mul_divInt, Rat.divInt_eq_divInt_iff (by have := e.den_pos; simp; omega) (by decide)]
  simp
theorem le_of_sq {a b : Rat} (hb : 0 ≤ b) (h : a * a ≤ b * b) : a ≤ b := by
  by_cases hh : a ≤ b
  · exact hh
  · have : 0 < (a - b) * (a + b) := Rat.mul_pos (by grind) (by grind)
    grind
theorem lt_of_sq {a b : Rat} (hb : 0 ≤ b) (h : a * a < b * b) : a < b := by
  by_cases hh : a < b
  · exact hh
  · have : 0 ≤ (a - b) * (a + b) := Rat.mul_nonneg (by grind) (by grind)
    grind
theorem nonneg_of_mul {a d : Rat} (hd : 0 < d) (h : 0 ≤ a * d) : 0 ≤ a := by
  by_cases hh : 0 ≤ a
  · exact hh
  · have := Rat.mul_pos (show 0 < -a by grind) hd
    grind
theorem qab_core {y N D A T R g e : Rat} (hD : 0 < D) (hy : y * D = N) (hN : 0 ≤ N) (hA1 : A * D ≤ T) (hA2 : T + 1 ≤ (A + 1) * D) (hT : 0 ≤ T) (t1 : T * T ≤ N * N * R * 65536) (t2 : N * N * R * 65536 < (T + 1) * (T + 1))
    (hg : 0 ≤ g) (g1 : g * g ≤ R) (g2 : R < (g + e) * (g + e)) (he : 0 ≤ e) : A ≤ 256 * (y * g) + 256 * (y * e) ∧ 256 * (y * g) ≤ A + 1 := by
  have hNN : 0 ≤ N * N := Rat.mul_nonneg hN hN
  have a1 : 256 * N * g ≤ T + 1 := le_of_sq (by grind) (by
    have := Rat.mul_nonneg hNN (show 0 ≤ R - g * g by grind)
    grind)
  have a2 : T ≤ 256 * N * (g + e) := le_of_sq (Rat.mul_nonneg (by grind) (by grind)) (by
    have := Rat.mul_nonneg hNN (show 0 ≤ (g + e) * (g + e) - R by grind)
    grind)
  constructor
  · have := nonneg_of_mul hD (show 0 ≤ (256 * (y * g) + 256 * (y * e) - A) * D by
      rw [show (256 * (y * g) + 256 * (y * e) - A) * D = 256 * (y * D) * (g + e) - A * D by grind, hy]
      grind)
    grind
  · have := nonneg_of_mul hD (show 0 ≤ (A + 1 - 256 * (y * g)) * D by
      rw [show (A + 1 - 256 * (y * g)) * D = (A + 1) * D - 256 * (y * D) * g by grind, hy]
      grind)
    grind
theorem natCast_mul' (a b : Nat) : (((a * b : Nat) : Int) : Rat) = ((a : Int) : Rat) * ((b : Int) : Rat) := by
  rw [Int.natCast_mul, Rat.intCast_mul]
theorem nat_le_rat {a b : Nat} (h : a ≤ b) : ((a : Int) : Rat) ≤ ((b : Int) : Rat) := Rat.intCast_le_intCast.2 (by exact_mod_cast h)
theorem nat_lt_rat {a b : Nat} (h : a < b) : ((a : Int) : Rat) < ((b : Int) : Rat) := Rat.intCast_lt_intCast.2 (by exact_mod_cast h)
theorem nat_succ_rat (a : Nat) : (((a + 1 : Nat) : Int) : Rat) = ((a : Int) : Rat) + 1 := by
  rw [Int.natCast_add, Rat.intCast_add]; rfl
/-- How near the search begins, a part alone. -/
theorem qab_near (x : Rat) {R : Int} (hR : 0 ≤ R) {g e : Nat → Rat} (hg : ∀ k, 0 ≤ g k ∧ g k * g k ≤ (R : Rat) ∧ (R : Rat) < (g k + e k) * (g k + e k)) (he0 : ∀ k, 0 ≤ e k) (he : Nul e) :
    ∃ K, ∀ k, K ≤ k → -1 ≤ ((qab x R 8 : Int) : Rat) - 256 * (x * g k) ∧ ((qab x R 8 : Int) : Rat) - 256 * (x * g k) ≤ 1 := by
  obtain ⟨h1, h2⟩ := isq_spec (x.num.natAbs * x.num.natAbs * R.natAbs * 2 ^ (2 * 8))
  unfold qab
  generalize isq (x.num.natAbs * x.num.natAbs * R.natAbs * 2 ^ (2 * 8)) = T at *
  have hden := x.den_pos
  have hdiv := Nat.div_add_mod T x.den
  have hmod := Nat.mod_lt T hden
  have e1 : ((T : Nat) : Int) / (x.den : Int) = ((T / x.den : Nat) : Int) := by omega
  simp only [e1]
  generalize T / x.den = A at *
  have hA1 : A * x.den ≤ T := by rw [Nat.mul_comm]; omega
  have hA2 : T + 1 ≤ (A + 1) * x.den := by rw [Nat.add_mul, Nat.mul_comm A]; omega
  have q1 := nat_le_rat hA1
  have q2 := nat_le_rat hA2
  have ep : (((2 ^ (2 * 8) : Nat) : Int) : Rat) = 65536 := by decide +kernel
  generalize 2 ^ (2 * 8) = P at *
  have q3 := nat_le_rat h1
  have q4 := nat_lt_rat h2
  simp only [natCast_mul', nat_succ_rat] at q1 q2 q3 q4
  have eR : ((R.natAbs : Int) : Rat) = (R : Rat) := by rw [show (R.natAbs : Int) = R by omega]
  rw [eR, ep] at q3 q4
  have hD : (0 : Rat) < ((x.den : Int) : Rat) := by exact_mod_cast (show (0 : Int) < x.den by omega)
  have hN : (0 : Rat) ≤ ((x.num.natAbs : Int) : Rat) := by exact_mod_cast (show (0 : Int) ≤ x.num.natAbs by omega)
  have hT : (0 : Rat) ≤ ((T : Int) : Rat) := by exact_mod_cast (show (0 : Int) ≤ T by omega)
  have hrd := rat_den x
  have key : ∀ y : Rat, y * ((x.den : Int) : Rat) = ((x.num.natAbs : Int) : Rat) → ∃ K, ∀ k, K ≤ k → -1 ≤ ((A : Int) : Rat) - 256 * (y * g k) ∧ ((A : Int) : Rat) - 256 * (y * g k) ≤ 1 := by
    intro y hy
    obtain ⟨K, hK⟩ := (he.mul (Bdd.const (256 * y))) 1 (by decide +kernel)
    refine ⟨K, fun k hk => ?_⟩
    obtain ⟨g1, g2, g3⟩ := hg k
    have := qab_core hD hy hN q1 q2 hT q3 q4 g1 g2 g3 (he0 k)
    have h3 := hK k hk
    constructor <;> grind
  by_cases hs : x.num.sign < 0
  · rw [if_pos hs]
    have hneg : x.num < 0 := Int.sign_neg_iff.1 hs
    obtain ⟨K, hK⟩ := key (-x) (by
      rw [Rat.neg_mul, hrd, ← Rat.intCast_neg]; exact congrArg (fun z : Int => (z : Rat)) (show -x.num = (x.num.natAbs : Int) by omega))
    refine ⟨K, fun k hk => ?_⟩
    have := hK k hk
    rw [Rat.intCast_neg]
    constructor <;> grind
  · rw [if_neg hs]
    have hpos : ¬ x.num < 0 := fun h => hs (Int.sign_neg_iff.2 h)
    exact key x (by rw [hrd]; exact congrArg (fun z : Int => (z : Rat)) (show x.num = (x.num.natAbs : Int) by omega))

theorem Nul.const0 : Nul (fun _ => 0) := Nul.zero
/-- The product of two that come near to roots. -/
theorem apx_two {m n : Int} (hm : 0 ≤ m) (hn : 0 ≤ n) (k : Nat) : 0 ≤ apx m k * apx n k ∧ (apx m k * apx n k) * (apx m k * apx n k) ≤ ((m * n : Int) : Rat) ∧ ((m * n : Int) : Rat) < (apx m k * apx n k + tk k * (apx m k + apx n k + tk k)) * (apx m k * apx n k + tk k * (apx m k + apx n k + tk k)) := by
  obtain ⟨a1, a2, a3⟩ := apx_spec hm k
  obtain ⟨b1, b2, b3⟩ := apx_spec hn k
  have ht := tk_pos k
  have hm' : (0 : Rat) ≤ (m : Rat) := by exact_mod_cast hm
  have hn' : (0 : Rat) ≤ (n : Rat) := by exact_mod_cast hn
  rw [Rat.intCast_mul]
  generalize apx m k = u at *
  generalize apx n k = v at *
  generalize tk k = t at *
  generalize (m : Rat) = m' at *
  generalize (n : Rat) = n' at *
  refine ⟨Rat.mul_nonneg a1 b1, ?_, ?_⟩
  · have h1 := Rat.mul_nonneg (show 0 ≤ m' - u * u by grind) hn'
    have h2 := Rat.mul_nonneg (Rat.mul_nonneg a1 a1) (show 0 ≤ n' - v * v by grind)
    grind
  · have h1 := Rat.mul_nonneg (show 0 ≤ (u + t) * (u + t) - m' by grind) hn'
    have h2 : 0 < (u + t) * (u + t) * ((v + t) * (v + t) - n') := Rat.mul_pos (Rat.mul_pos (by grind) (by grind)) (by grind)
    have e : u * v + t * (u + v + t) = (u + t) * (v + t) := by grind
    rw [e]
    grind
theorem one_near (k : Nat) : (0 : Rat) ≤ 1 ∧ (1 : Rat) * 1 ≤ ((1 : Int) : Rat) ∧ ((1 : Int) : Rat) < (1 + tk k) * (1 + tk k) := by
  have ht := tk_pos k
  have e : ((1 : Int) : Rat) = 1 := rfl
  rw [e]
  have := Rat.mul_pos ht ht
  refine ⟨by decide +kernel, by grind, by grind⟩
theorem low_near (S : Sn) (hm : 0 ≤ S.m) (hn : 0 ≤ S.n) : ∃ K, ∀ k, K ≤ k → 256 * ((S.low : Int) : Rat) - 4 ≤ 256 * S.v k ∧ 256 * S.v k ≤ 256 * ((S.low : Int) : Rat) + 259 := by
  have hmn : 0 ≤ S.m * S.n := Int.mul_nonneg hm hn
  obtain ⟨K1, h1⟩ := qab_near S.p (R := 1) (by decide) (g := fun _ => 1) (e := tk) one_near (fun k => Rat.le_of_lt (tk_pos k)) tk_nul
  obtain ⟨K2, h2⟩ := qab_near S.q hm (g := apx S.m) (e := tk) (apx_spec hm) (fun k => Rat.le_of_lt (tk_pos k)) tk_nul
  obtain ⟨K3, h3⟩ := qab_near S.r hn (g := apx S.n) (e := tk) (apx_spec hn) (fun k => Rat.le_of_lt (tk_pos k)) tk_nul
  obtain ⟨K4, h4⟩ := qab_near S.s hmn (g := fun k => apx S.m k * apx S.n k) (e := fun k => tk k * (apx S.m k + apx S.n k + tk k)) (apx_two hm hn)
    (fun k => Rat.mul_nonneg (Rat.le_of_lt (tk_pos k)) (by
      have := tk_pos k
      have := (apx_spec hm k).1
      have := (apx_spec hn k).1
      grind))
    (tk_nul.mul (((apx_bdd hm).add (apx_bdd hn)).add ⟨1, by decide +kernel, fun k => by
      have := tk_pos k
      have := tk_le1 k
      constructor <;> grind⟩))
  refine ⟨max (max K1 K2) (max K3 K4), fun k hk => ?_⟩
  have g1 := h1 k (by omega)
  have g2 := h2 k (by omega)
  have g3 := h3 k (by omega)
  have g4 := h4 k (by omega)
  have hz : 256 * S.low ≤ 0 + qab S.p 1 8 + qab S.q S.m 8 + qab S.r S.n 8 + qab S.s (S.m * S.n) 8 ∧ 0 + qab S.p 1 8 + qab S.q S.m 8 + qab S.r S.n 8 + qab S.s (S.m * S.n) 8 ≤ 256 * S.low + 255 := by
    unfold Sn.low
    omega
  have z1 : ((256 * S.low : Int) : Rat) ≤ ((0 + qab S.p 1 8 + qab S.q S.m 8 + qab S.r S.n 8 + qab S.s (S.m * S.n) 8 : Int) : Rat) := Rat.intCast_le_intCast.2 hz.1
  have z2 : ((0 + qab S.p 1 8 + qab S.q S.m 8 + qab S.r S.n 8 + qab S.s (S.m * S.n) 8 : Int) : Rat) ≤ ((256 * S.low + 255 : Int) : Rat) := Rat.intCast_le_intCast.2 hz.2
  simp only [Rat.intCast_add, Rat.intCast_mul] at z1 z2
  have c0 : ((0 : Int) : Rat) = 0 := rfl
  have c1 : ((256 : Int) : Rat) = 256 := rfl
  have c2 : ((255 : Int) : Rat) = 255 := rfl
  rw [c0, c1] at z1
  rw [c0, c1, c2] at z2
  have ev : S.v k = S.p * 1 + S.q * apx S.m k + S.r * apx S.n k + S.s * (apx S.m k * apx S.n k) := by
    unfold Sn.v v1
    grind
  rw [ev]
  generalize ((qab S.p 1 8 : Int) : Rat) = a at *
  generalize ((qab S.q S.m 8 : Int) : Rat) = b at *
  generalize ((qab S.r S.n 8 : Int) : Rat) = c at *
  generalize ((qab S.s (S.m * S.n) 8 : Int) : Rat) = d at *
  generalize ((S.low : Int) : Rat) = l at *
  generalize S.p * 1 = x at *
  generalize S.q * apx S.m k = y at *
  generalize S.r * apx S.n k = z at *
  generalize S.s * (apx S.m k * apx S.n k) = w at *
  constructor <;> grind

theorem Sn.lessq_v (S : Sn) (q : Int) (k : Nat) : (S.lessq q).v k = S.v k - (q : Rat) := by
  unfold Sn.v v1 Sn.lessq
  grind
/-- The order of numbers goes with their signs. -/
theorem sg_mono {S T : Sn} (hm : 0 ≤ S.m) (hn : 0 ≤ S.n) (em : T.m = S.m) (en : T.n = S.n) (h : ∃ K, ∀ k, K ≤ k → S.v k ≤ T.v k) : S.sg ≤ T.sg := by
  have s1 := sig2 S hm hn
  have s2 := sig2 T (by omega) (by omega)
  obtain ⟨K, hK⟩ := h
  rcases s1 with ⟨e1, e, he, K1, p1⟩ | ⟨e1, p1⟩ | ⟨e1, p1⟩
  · have : Sig T.v 1 := .inl ⟨rfl, e, he, max K K1, fun k hk => by
      have := hK k (by omega)
      have := p1 k (by omega)
      grind⟩
    rw [e1, s2.unique this]
    omega
  · rcases s2 with ⟨e2, _⟩ | ⟨e2, _⟩ | ⟨e2, e, he, K2, p2⟩
    · omega
    · omega
    · exfalso
      obtain ⟨g1, g2⟩ := half_pos he
      obtain ⟨K3, p3⟩ := p1 (e * Rat.divInt 1 2) g1
      have a1 := p3 (max K (max K2 K3)) (by omega)
      have a2 := p2 (max K (max K2 K3)) (by omega)
      have a3 := hK (max K (max K2 K3)) (by omega)
      grind
  · have := s2.tri
    omega
theorem lessq_mono (S : Sn) (hm : 0 ≤ S.m) (hn : 0 ≤ S.n) {a b : Int} (h : a ≤ b) : (S.lessq b).sg ≤ (S.lessq a).sg :=
  sg_mono hm hn rfl rfl ⟨0, fun k _ => by
    rw [Sn.lessq_v, Sn.lessq_v]
    have : (a : Rat) ≤ (b : Rat) := Rat.intCast_le_intCast.2 h
    grind⟩
theorem fl_lo (S : Sn) (hm : 0 ≤ S.m) (hn : 0 ≤ S.n) : (S.lessq (S.low - 1)).sg = 1 := by
  obtain ⟨K, hK⟩ := low_near S hm hn
  refine (sig2 (S.lessq (S.low - 1)) hm hn).unique (.inl ⟨rfl, Rat.divInt 1 2, by decide +kernel, K, fun k hk => ?_⟩)
  have := hK k hk
  rw [Sn.lessq_v, Rat.intCast_sub]
  have e : ((1 : Int) : Rat) = 1 := rfl
  have h2 : Rat.divInt 1 2 + Rat.divInt 1 2 = 1 := by decide +kernel
  rw [e]
  grind
theorem fl_hi (S : Sn) (hm : 0 ≤ S.m) (hn : 0 ≤ S.n) : (S.lessq (S.low + 2)).sg = -1 := by
  obtain ⟨K, hK⟩ := low_near S hm hn
  refine (sig2 (S.lessq (S.low + 2)) hm hn).unique (.inr (.inr ⟨rfl, Rat.divInt 1 2, by decide +kernel, K, fun k hk => ?_⟩))
  have := hK k hk
  simp only
  rw [Sn.lessq_v, Rat.intCast_add]
  have e : ((2 : Int) : Rat) = 2 := rfl
  have h2 : Rat.divInt 1 2 + Rat.divInt 1 2 = 1 := by decide +kernel
  rw [e]
  grind
/-- The greatest whole number that is not above it. -/
def Sn.fl (S : Sn) : Int := if (S.lessq S.low).sg < 0 then S.low - 1 else if (S.lessq (S.low + 1)).sg < 0 then S.low else S.low + 1
theorem Sn.fl_spec (S : Sn) (hm : 0 ≤ S.m) (hn : 0 ≤ S.n) : 0 ≤ (S.lessq S.fl).sg ∧ (S.lessq (S.fl + 1)).sg < 0 := by
  have h1 := fl_lo S hm hn
  have h2 := fl_hi S hm hn
  unfold Sn.fl
  split
  · refine ⟨by omega, ?_⟩
    rw [show S.low - 1 + 1 = S.low by omega]
    assumption
  · split
    · exact ⟨by omega, by assumption⟩
    · refine ⟨by omega, ?_⟩
      rw [show S.low + 1 + 1 = S.low + 2 by omega]
      omega
theorem Sn.fl_unique (S : Sn) (hm : 0 ≤ S.m) (hn : 0 ≤ S.n) {q : Int} (h1 : 0 ≤ (S.lessq q).sg) (h2 : (S.lessq (q + 1)).sg < 0) : S.fl = q := by
  obtain ⟨g1, g2⟩ := S.fl_spec hm hn
  rcases Int.lt_trichotomy S.fl q with h | h | h
  · have := lessq_mono S hm hn (show S.fl + 1 ≤ q by omega)
    omega
  · exact h
  · have := lessq_mono S hm hn (show q + 1 ≤ S.fl by omega)
    omega
/-- The nearest whole number. -/
def Sn.nr (S : Sn) : Int := if (S.half.lessq S.half.fl).sg = 0 ∧ (S.half.fl % 2).sign ≠ 0 then S.half.fl - 1 else S.half.fl
end Go.Proofs.YtabpaiboodllbaaGreat
