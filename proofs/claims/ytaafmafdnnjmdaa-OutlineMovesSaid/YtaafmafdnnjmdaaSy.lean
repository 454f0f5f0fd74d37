/- The sign that the code reckons is the sign of the real number: rows of quotients that come near it. The floor and the nearest whole number of a number with two roots: what they are, plain laws. The floor and the nearest whole number of a number with two roots: the contracts, whichever number it is. A number of a field out of one quotient; nearest whole numbers: plain laws. -/
import Derived.Test.YtaafmafdnnjmdaaSu
set_option linter.unusedSimpArgs false
set_option linter.unusedVariables false
namespace Go.Proofs.Ytaafmafdnnjmdaa
open Go.RowKit Go.IntWalk

/-- A row of quotients stays above some number above 0. -/
def Pos (f : Nat → Rat) : Prop := ∃ e : Rat, 0 < e ∧ ∃ K, ∀ k, K ≤ k → e ≤ f k
/-- It comes as near to 0 as one likes. -/
def Nul (f : Nat → Rat) : Prop := ∀ e : Rat, 0 < e → ∃ K, ∀ k, K ≤ k → -e ≤ f k ∧ f k ≤ e
def Bdd (f : Nat → Rat) : Prop := ∃ C : Rat, 0 < C ∧ ∀ k, -C ≤ f k ∧ f k ≤ C
def Sig (f : Nat → Rat) (s : Int) : Prop := (s = 1 ∧ Pos f) ∨ (s = 0 ∧ Nul f) ∨ (s = -1 ∧ Pos (fun k => -f k))

theorem half_pos {e : Rat} (h : 0 < e) : 0 < e * Rat.divInt 1 2 ∧ e * Rat.divInt 1 2 + e * Rat.divInt 1 2 = e := by
  have h2 : Rat.divInt 1 2 + Rat.divInt 1 2 = 1 := by decide +kernel
  have h3 : (0 : Rat) < Rat.divInt 1 2 := by decide +kernel
  exact ⟨Rat.mul_pos h h3, by rw [← Rat.mul_add, h2, Rat.mul_one]⟩
theorem Pos.congr {f g : Nat → Rat} (h : Pos f) (e : ∀ k, f k = g k) : Pos g := by rwa [funext e] at h
theorem Nul.congr {f g : Nat → Rat} (h : Nul f) (e : ∀ k, f k = g k) : Nul g := by rwa [funext e] at h
theorem Bdd.congr {f g : Nat → Rat} (h : Bdd f) (e : ∀ k, f k = g k) : Bdd g := by rwa [funext e] at h
theorem Sig.eqf {f g : Nat → Rat} {s : Int} (h : Sig f s) (e : ∀ k, f k = g k) : Sig g s := by rwa [funext e] at h
theorem Pos.add_nul {f g : Nat → Rat} (h : Pos f) (h' : Nul g) : Pos (fun k => f k + g k) := by
  obtain ⟨e, he, K, hK⟩ := h
  obtain ⟨h1, h2⟩ := half_pos he
  obtain ⟨K', hK'⟩ := h' _ h1
  refine ⟨_, h1, max K K', fun k hk => ?_⟩
  have a := hK k (by omega)
  have b := (hK' k (by omega)).1
  grind
theorem Pos.add {f g : Nat → Rat} (h : Pos f) (h' : Pos g) : Pos (fun k => f k + g k) := by
  obtain ⟨e, he, K, hK⟩ := h
  obtain ⟨e', he', K', hK'⟩ := h'
  refine ⟨e, he, max K K', fun k hk => ?_⟩
  have a := hK k (by omega)
  have b := hK' k (by omega)
  grind
theorem Pos.mul {f g : Nat → Rat} (h : Pos f) (h' : Pos g) : Pos (fun k => f k * g k) := by
  obtain ⟨e, he, K, hK⟩ := h
  obtain ⟨e', he', K', hK'⟩ := h'
  refine ⟨e * e', Rat.mul_pos he he', max K K', fun k hk => ?_⟩
  have a := hK k (by omega)
  have b := hK' k (by omega)
  have h1 : 0 ≤ (f k - e) * g k := Rat.mul_nonneg (by grind) (by grind)
  have h2 : 0 ≤ e * (g k - e') := Rat.mul_nonneg (by grind) (by grind)
  grind
theorem Nul.neg {f : Nat → Rat} (h : Nul f) : Nul (fun k => -f k) := by
  intro e he
  obtain ⟨K, hK⟩ := h e he
  exact ⟨K, fun k hk => by have := hK k hk; grind⟩
theorem Nul.add {f g : Nat → Rat} (h : Nul f) (h' : Nul g) : Nul (fun k => f k + g k) := by
  intro e he
  obtain ⟨h1, h2⟩ := half_pos he
  obtain ⟨K, hK⟩ := h _ h1
  obtain ⟨K', hK'⟩ := h' _ h1
  refine ⟨max K K', fun k hk => ?_⟩
  have a := hK k (by omega)
  have b := hK' k (by omega)
  grind
theorem inv_pos' {c : Rat} (h : 0 < c) : ∃ d : Rat, 0 < d ∧ d * c = 1 := by
  refine ⟨c⁻¹, Rat.inv_pos.2 h, Rat.inv_mul_cancel _ (by grind)⟩
theorem Nul.mul {f g : Nat → Rat} (h : Nul f) (h' : Bdd g) : Nul (fun k => f k * g k) := by
  intro e he
  obtain ⟨C, hC, hg⟩ := h'
  obtain ⟨d, hd, hdc⟩ := inv_pos' hC
  obtain ⟨K, hK⟩ := h (e * d) (Rat.mul_pos he hd)
  refine ⟨K, fun k hk => ?_⟩
  obtain ⟨a1, a2⟩ := hK k hk
  obtain ⟨b1, b2⟩ := hg k
  have hb : e * d * C = e := by rw [Rat.mul_assoc, hdc, Rat.mul_one]
  have h1 : 0 ≤ (e * d - f k) * (C - g k) := Rat.mul_nonneg (by grind) (by grind)
  have h2 : 0 ≤ (e * d - f k) * (C + g k) := Rat.mul_nonneg (by grind) (by grind)
  have h3 : 0 ≤ (e * d + f k) * (C - g k) := Rat.mul_nonneg (by grind) (by grind)
  have h4 : 0 ≤ (e * d + f k) * (C + g k) := Rat.mul_nonneg (by grind) (by grind)
  constructor <;> grind
theorem Bdd.const (x : Rat) : Bdd (fun _ => x) := by
  by_cases h : 0 ≤ x
  · exact ⟨x + 1, by grind, fun k => by constructor <;> grind⟩
  · exact ⟨1 - x, by grind, fun k => by constructor <;> grind⟩
theorem Bdd.add {f g : Nat → Rat} (h : Bdd f) (h' : Bdd g) : Bdd (fun k => f k + g k) := by
  obtain ⟨C, hC, hf⟩ := h
  obtain ⟨D, hD, hg⟩ := h'
  exact ⟨C + D, by grind, fun k => by have := hf k; have := hg k; constructor <;> grind⟩
theorem Bdd.neg {f : Nat → Rat} (h : Bdd f) : Bdd (fun k => -f k) := by
  obtain ⟨C, hC, hf⟩ := h
  exact ⟨C, hC, fun k => by have := hf k; constructor <;> grind⟩
theorem Bdd.mul {f g : Nat → Rat} (h : Bdd f) (h' : Bdd g) : Bdd (fun k => f k * g k) := by
  obtain ⟨C, hC, hf⟩ := h
  obtain ⟨D, hD, hg⟩ := h'
  refine ⟨C * D, Rat.mul_pos hC hD, fun k => ?_⟩
  obtain ⟨a1, a2⟩ := hf k
  obtain ⟨b1, b2⟩ := hg k
  have h1 : 0 ≤ (C - f k) * (D - g k) := Rat.mul_nonneg (by grind) (by grind)
  have h2 : 0 ≤ (C - f k) * (D + g k) := Rat.mul_nonneg (by grind) (by grind)
  have h3 : 0 ≤ (C + f k) * (D - g k) := Rat.mul_nonneg (by grind) (by grind)
  have h4 : 0 ≤ (C + f k) * (D + g k) := Rat.mul_nonneg (by grind) (by grind)
  constructor <;> grind
theorem Pos.not_nul {f : Nat → Rat} (h : Pos f) (h' : Nul f) : False := by
  obtain ⟨e, he, K, hK⟩ := h
  obtain ⟨h1, h2⟩ := half_pos he
  obtain ⟨K', hK'⟩ := h' _ h1
  have a := hK (max K K') (by omega)
  have b := (hK' (max K K') (by omega)).2
  grind
theorem Pos.not_neg {f : Nat → Rat} (h : Pos f) (h' : Pos (fun k => -f k)) : False := by
  obtain ⟨e, he, K, hK⟩ := h
  obtain ⟨e', he', K', hK'⟩ := h'
  have a := hK (max K K') (by omega)
  have b := hK' (max K K') (by omega)
  grind
theorem Sig.unique {f : Nat → Rat} {s t : Int} (h : Sig f s) (h' : Sig f t) : s = t := by
  have nn : ∀ {g : Nat → Rat}, Nul (fun k => -g k) → Nul g := fun {g} h => h.neg.congr (fun k => by grind)
  rcases h with ⟨rfl, h⟩ | ⟨rfl, h⟩ | ⟨rfl, h⟩ <;> rcases h' with ⟨rfl, h'⟩ | ⟨rfl, h'⟩ | ⟨rfl, h'⟩
  · rfl
  · exact (h.not_nul h').elim
  · exact (h.not_neg h').elim
  · exact (h'.not_nul h).elim
  · rfl
  · exact (h'.not_nul h.neg).elim
  · exact (h'.not_neg h).elim
  · exact (h.not_nul h'.neg).elim
  · rfl
theorem Sig.neg {f : Nat → Rat} {s : Int} (h : Sig f s) : Sig (fun k => -f k) (-s) := by
  rcases h with ⟨rfl, h⟩ | ⟨rfl, h⟩ | ⟨rfl, h⟩
  · exact .inr (.inr ⟨rfl, h.congr (fun k => by grind)⟩)
  · exact .inr (.inl ⟨rfl, h.neg⟩)
  · exact .inl ⟨rfl, h⟩
theorem Sig.add_nul {f g : Nat → Rat} {s : Int} (h : Sig f s) (h' : Nul g) : Sig (fun k => f k + g k) s := by
  rcases h with ⟨rfl, h⟩ | ⟨rfl, h⟩ | ⟨rfl, h⟩
  · exact .inl ⟨rfl, h.add_nul h'⟩
  · exact .inr (.inl ⟨rfl, h.add h'⟩)
  · exact .inr (.inr ⟨rfl, (h.add_nul h'.neg).congr (fun k => by grind)⟩)
theorem Sig.add {f g : Nat → Rat} {s t : Int} (h : Sig f s) (h' : Sig g t) (hst : t = 0 ∨ s = t) : Sig (fun k => f k + g k) s := by
  rcases h' with ⟨rfl, h'⟩ | ⟨rfl, h'⟩ | ⟨rfl, h'⟩
  · rcases h with ⟨rfl, h⟩ | ⟨rfl, h⟩ | ⟨rfl, h⟩
    · exact .inl ⟨rfl, h.add h'⟩
    · simp at hst
    · simp at hst
  · exact h.add_nul h'
  · rcases h with ⟨rfl, h⟩ | ⟨rfl, h⟩ | ⟨rfl, h⟩
    · simp at hst
    · simp at hst
    · exact .inr (.inr ⟨rfl, (h.add h').congr (fun k => by grind)⟩)
theorem Sig.mul {f g : Nat → Rat} {s t : Int} (h : Sig f s) (h' : Sig g t) (bf : Bdd f) (bg : Bdd g) : Sig (fun k => f k * g k) (s * t) := by
  rcases h with ⟨rfl, h⟩ | ⟨rfl, h⟩ | ⟨rfl, h⟩ <;> rcases h' with ⟨rfl, h'⟩ | ⟨rfl, h'⟩ | ⟨rfl, h'⟩
  · exact .inl ⟨rfl, h.mul h'⟩
  · exact .inr (.inl ⟨rfl, (h'.mul bf).congr (fun k => by grind)⟩)
  · exact .inr (.inr ⟨rfl, (h.mul h').congr (fun k => by grind)⟩)
  · exact .inr (.inl ⟨rfl, h.mul bg⟩)
  · exact .inr (.inl ⟨rfl, h.mul bg⟩)
  · exact .inr (.inl ⟨rfl, h.mul bg⟩)
  · exact .inr (.inr ⟨rfl, (h.mul h').congr (fun k => by grind)⟩)
  · exact .inr (.inl ⟨rfl, (h'.mul bf).congr (fun k => by grind)⟩)
  · exact .inl ⟨rfl, (h.mul h').congr (fun k => by grind)⟩
theorem Sig.congr {f g : Nat → Rat} {s : Int} (h : Sig f s) (hn : Nul (fun k => g k - f k)) : Sig g s := (h.add_nul hn).eqf (fun k => by grind)
theorem Pos.div {f g : Nat → Rat} (hg : Pos g) (bg : Bdd g) (h : Pos (fun k => f k * g k)) : Pos f := by
  obtain ⟨e, he, K, hK⟩ := hg
  obtain ⟨C, hC, hb⟩ := bg
  obtain ⟨d, hd, K', hK'⟩ := h
  obtain ⟨i, hi, hic⟩ := inv_pos' hC
  refine ⟨d * i, Rat.mul_pos hd hi, max K K', fun k hk => ?_⟩
  have a := hK k (by omega)
  have b := hK' k (by omega)
  have c := (hb k).2
  have hg0 : 0 < g k := by grind
  have hf0 : 0 ≤ f k := by
    by_cases h : 0 ≤ f k
    · exact h
    · have : 0 ≤ -f k * g k := Rat.mul_nonneg (by grind) (by grind)
      grind
  have h1 : 0 ≤ f k * (C - g k) := Rat.mul_nonneg hf0 (by grind)
  have h2 : 0 ≤ (f k * C - d) * i := Rat.mul_nonneg (by grind) (by grind)
  have h3 : f k * C * i = f k := by rw [Rat.mul_assoc, Rat.mul_comm C i, hic, Rat.mul_one]
  grind
theorem Nul.div {f g : Nat → Rat} (hg : Pos g) (h : Nul (fun k => f k * g k)) : Nul f := by
  intro δ hδ
  obtain ⟨e, he, K, hK⟩ := hg
  obtain ⟨K', hK'⟩ := h (δ * e) (Rat.mul_pos hδ he)
  refine ⟨max K K', fun k hk => ?_⟩
  have a := hK k (by omega)
  obtain ⟨b1, b2⟩ := hK' k (by omega)
  constructor
  · by_cases hh : -δ ≤ f k
    · exact hh
    · have h1 : 0 < (-δ - f k) * g k := Rat.mul_pos (by grind) (by grind)
      have h2 : 0 ≤ δ * (g k - e) := Rat.mul_nonneg (by grind) (by grind)
      grind
  · by_cases hh : f k ≤ δ
    · exact hh
    · have h1 : 0 < (f k - δ) * g k := Rat.mul_pos (by grind) (by grind)
      have h2 : 0 ≤ δ * (g k - e) := Rat.mul_nonneg (by grind) (by grind)
      grind
theorem Sig.div {f g : Nat → Rat} {s c : Int} (hg : Sig g s) (hs : s ≠ 0) (bg : Bdd g) (h : Sig (fun k => f k * g k) c) : Sig f (s * c) := by
  have pos : ∀ {g : Nat → Rat} {c : Int}, Pos g → Bdd g → Sig (fun k => f k * g k) c → Sig f c := by
    intro g c hg bg h
    rcases h with ⟨rfl, h⟩ | ⟨rfl, h⟩ | ⟨rfl, h⟩
    · exact .inl ⟨rfl, hg.div bg h⟩
    · exact .inr (.inl ⟨rfl, Nul.div hg h⟩)
    · exact .inr (.inr ⟨rfl, hg.div bg (h.congr (fun k => by grind))⟩)
  rcases hg with ⟨rfl, hg⟩ | ⟨rfl, hg⟩ | ⟨rfl, hg⟩
  · rw [Int.one_mul]
    exact pos hg bg h
  · simp at hs
  · rw [Int.neg_one_mul]
    exact pos hg bg.neg (h.neg.eqf (fun k => by grind))
theorem Sig.const (x : Rat) : Sig (fun _ => x) x.num.sign := by
  rw [sign_cmp]
  unfold cmpQ
  by_cases h : x < 0
  · rw [if_pos h]
    exact .inr (.inr ⟨rfl, -x, by grind, 0, fun _ _ => by grind⟩)
  · rw [if_neg h]
    by_cases h0 : x = 0
    · rw [if_pos h0]
      exact .inr (.inl ⟨rfl, fun e he => ⟨0, fun _ _ => by constructor <;> grind⟩⟩)
    · rw [if_neg h0]
      exact .inl ⟨rfl, x, by grind, 0, fun _ _ => by grind⟩
theorem Nul.zero : Nul (fun _ => 0) := fun e he => ⟨0, fun _ _ => by constructor <;> grind⟩
theorem Sig.cmp (x y : Rat) : Sig (fun _ => x - y) (cmpQ x y) := by
  have e : cmpQ x y = (x - y).num.sign := by
    rw [sign_cmp]
    unfold cmpQ
    grind
  rw [e]
  exact Sig.const _

/-- 2^-k. -/
def tk (k : Nat) : Rat := Rat.divInt 1 (2 ^ k)
theorem tk_mul (k : Nat) : tk k * ((2 ^ k : Int) : Rat) = 1 := by
  have hp : (2 : Int) ^ k ≠ 0 := by have := Int.pow_pos (n := (2 : Int)) (m := k) (by decide); omega
  unfold tk
  rw [← q_divInt1, Rat.divInt_mul_divInt, show (1 : Rat) = Rat.divInt 1 1 from rfl, Rat.divInt_eq_divInt_iff (by simpa using hp) (by decide)]
  grind
theorem two_pos (k : Nat) : (0 : Rat) < ((2 ^ k : Int) : Rat) := by
  have := Int.pow_pos (n := (2 : Int)) (m := k) (by decide)
  exact Rat.intCast_pos.2 this
theorem tk_pos (k : Nat) : 0 < tk k := by
  have h := tk_mul k
  have h2 := two_pos k
  by_cases hh : 0 < tk k
  · exact hh
  · have : 0 ≤ -tk k * ((2 ^ k : Int) : Rat) := Rat.mul_nonneg (by grind) (by grind)
    grind
theorem tk_nul : Nul tk := by
  intro e he
  refine ⟨e.den, fun k hk => ⟨by have := tk_pos k; grind, ?_⟩⟩
  by_cases hh : tk k ≤ e
  · exact hh
  · exfalso
    have h1 : 0 < (tk k - e) * ((2 ^ k : Int) : Rat) := Rat.mul_pos (by grind) (two_pos k)
    have h2 := tk_mul k
    have hlt : (e.den : Int) ≤ 2 ^ k := by
      have : e.den < 2 ^ e.den := Nat.lt_two_pow_self
      have h3 : (2 : Nat) ^ e.den ≤ 2 ^ k := Nat.pow_le_pow_right (by decide) hk
      have : e.den ≤ 2 ^ k := by omega
      exact_mod_cast this
    have h3 : ((e.den : Int) : Rat) ≤ ((2 ^ k : Int) : Rat) := Rat.intCast_le_intCast.2 hlt
    have h4 : 0 ≤ e * (((2 ^ k : Int) : Rat) - ((e.den : Int) : Rat)) := Rat.mul_nonneg (by grind) (by grind)
    have h5 : e * ((e.den : Int) : Rat) = ((e.num : Int) : Rat) := by
      rw [← q_divInt1, ← q_divInt1]
      conv => lhs; rw [← Rat.num_divInt_den e]
      rw [Rat.divInt_mul_divInt, Rat.divInt_eq_divInt_iff (by have := e.den_pos; simp; omega) (by decide)]
      simp
    have h6 : (1 : Rat) ≤ ((e.num : Int) : Rat) := by
      have : 0 < e.num := by rw [Rat.lt_iff] at he; simpa using he
      exact_mod_cast (show (1 : Int) ≤ e.num by omega)
    grind

/-- A quotient near a root. -/
def apx (m : Int) (k : Nat) : Rat := ((isq (m.natAbs * 4 ^ k) : Int) : Rat) * tk k
theorem apx_zero (k : Nat) : apx 0 k = 0 := by
  unfold apx
  rw [show (0 : Int).natAbs * 4 ^ k = 0 by simp, show isq 0 = 0 by decide]
  exact Rat.zero_mul _
theorem apx_spec {m : Int} (hm : 0 ≤ m) (k : Nat) : 0 ≤ apx m k ∧ apx m k * apx m k ≤ m ∧ (m : Rat) < (apx m k + tk k) * (apx m k + tk k) := by
  obtain ⟨h1, h2⟩ := isq_spec (m.natAbs * 4 ^ k)
  unfold apx
  generalize isq (m.natAbs * 4 ^ k) = R at *
  have ht := tk_pos k
  have hm2 := tk_mul k
  have e4 : (4 : Nat) ^ k = 2 ^ k * 2 ^ k := by rw [← Nat.mul_pow]
  have z1 : (R : Int) * R ≤ m * (2 ^ k * 2 ^ k) := by
    have : ((R * R : Nat) : Int) ≤ ((m.natAbs * 4 ^ k : Nat) : Int) := by exact_mod_cast h1
    rw [e4] at this
    push_cast at this
    rwa [show ((m.natAbs : Int)) = m by omega] at this
  have z2 : m * (2 ^ k * 2 ^ k) < ((R : Int) + 1) * (R + 1) := by
    have : ((m.natAbs * 4 ^ k : Nat) : Int) < (((R + 1) * (R + 1) : Nat) : Int) := by exact_mod_cast h2
    rw [e4] at this
    push_cast at this
    rwa [show ((m.natAbs : Int)) = m by omega] at this
  have q1 : ((R : Int) : Rat) * ((R : Int) : Rat) ≤ (m : Rat) * (((2 ^ k : Int) : Rat) * ((2 ^ k : Int) : Rat)) := by
    rw [← Rat.intCast_mul, ← Rat.intCast_mul, ← Rat.intCast_mul]
    exact Rat.intCast_le_intCast.2 z1
  have q2 : (m : Rat) * (((2 ^ k : Int) : Rat) * ((2 ^ k : Int) : Rat)) < (((R : Int) : Rat) + 1) * (((R : Int) : Rat) + 1) := by
    have : ((R : Int) : Rat) + 1 = (((R : Int) + 1 : Int) : Rat) := by rw [Rat.intCast_add]; rfl
    rw [this, ← Rat.intCast_mul, ← Rat.intCast_mul, ← Rat.intCast_mul]
    exact Rat.intCast_lt_intCast.2 z2
  have hR : (0 : Rat) ≤ ((R : Int) : Rat) := by exact_mod_cast Int.natCast_nonneg R
  generalize ((R : Int) : Rat) = r at *
  generalize ((2 ^ k : Int) : Rat) = w at *
  generalize tk k = t at *
  have htt : 0 < t * t := Rat.mul_pos ht ht
  have one : t * t * (w * w) = 1 := by
    have : t * t * (w * w) = (t * w) * (t * w) := by grind
    rw [this, hm2]
    grind
  refine ⟨Rat.mul_nonneg hR (by grind), ?_, ?_⟩
  · have h := Rat.mul_nonneg (show 0 ≤ (m : Rat) * (w * w) - r * r by grind) (show 0 ≤ t * t by grind)
    have e : ((m : Rat) * (w * w) - r * r) * (t * t) = m * (t * t * (w * w)) - r * t * (r * t) := by grind
    rw [e, one] at h
    grind
  · have h := Rat.mul_pos (show 0 < (r + 1) * (r + 1) - (m : Rat) * (w * w) by grind) htt
    have e : ((r + 1) * (r + 1) - (m : Rat) * (w * w)) * (t * t) = (r * t + t) * (r * t + t) - m * (t * t * (w * w)) := by grind
    rw [e, one] at h
    grind

theorem apx_bdd {m : Int} (hm : 0 ≤ m) : Bdd (apx m) := by
  refine ⟨(m : Rat) + 1, ?_, fun k => ?_⟩
  · have : (0 : Rat) ≤ (m : Rat) := by exact_mod_cast hm
    grind
  · obtain ⟨h1, h2, _⟩ := apx_spec hm k
    have : (0 : Rat) ≤ (m : Rat) := by exact_mod_cast hm
    refine ⟨by grind, ?_⟩
    by_cases h : apx m k ≤ (m : Rat) + 1
    · exact h
    · have h3 : 0 ≤ (apx m k - 1) * apx m k := Rat.mul_nonneg (by grind) h1
      grind
theorem tk_le1 (k : Nat) : tk k ≤ 1 := by
  by_cases h : tk k ≤ 1
  · exact h
  · have h1 := tk_mul k
    have h2 : (1 : Rat) ≤ ((2 ^ k : Int) : Rat) := by
      have := Int.pow_pos (n := (2 : Int)) (m := k) (by decide)
      exact_mod_cast (show (1 : Int) ≤ 2 ^ k by omega)
    have h3 : 0 ≤ (tk k - 1) * (((2 ^ k : Int) : Rat) - 1) := Rat.mul_nonneg (by grind) (by grind)
    grind
theorem apx_nul {m : Int} (hm : 0 ≤ m) : Nul (fun k => apx m k * apx m k - m) := by
  intro e he
  have hm' : (0 : Rat) ≤ (m : Rat) := by exact_mod_cast hm
  obtain ⟨d, hd, hdc⟩ := inv_pos' (c := 2 * ((m : Rat) + 1) + 1) (by grind)
  obtain ⟨K, hK⟩ := tk_nul (e * d) (Rat.mul_pos he hd)
  refine ⟨K, fun k hk => ?_⟩
  obtain ⟨h1, h2, h3⟩ := apx_spec hm k
  have ht := tk_pos k
  have ht1 := tk_le1 k
  have hle := (hK k hk).2
  refine ⟨?_, by grind⟩
  have ha : apx m k ≤ (m : Rat) + 1 := by
    by_cases h : apx m k ≤ (m : Rat) + 1
    · exact h
    · have h3 : 0 ≤ (apx m k - 1) * apx m k := Rat.mul_nonneg (by grind) h1
      grind
  show -e ≤ apx m k * apx m k - (m : Rat)
  generalize apx m k = a at *
  generalize tk k = t at *
  have g1 : 0 ≤ (m + 1 - a) * t := Rat.mul_nonneg (by grind) (by grind)
  have g2 : 0 ≤ t * (1 - t) := Rat.mul_nonneg (by grind) (by grind)
  have s1 : (m : Rat) - a * a ≤ (2 * ((m : Rat) + 1) + 1) * t := by grind
  have s2 : (2 * ((m : Rat) + 1) + 1) * t ≤ e := by
    have g3 : 0 ≤ (e * d - t) * (2 * ((m : Rat) + 1) + 1) := Rat.mul_nonneg (by grind) (by grind)
    have g4 : e * d * (2 * ((m : Rat) + 1) + 1) = e := by rw [Rat.mul_assoc, hdc, Rat.mul_one]
    generalize 2 * ((m : Rat) + 1) + 1 = c at *
    clear g1 g2 h3 h2 ha s1 hK
    have g5 : (e * d - t) * c = e * d * c - c * t := by grind
    rw [g5, g4] at g3
    grind
  clear g1 g2 h3 hdc
  grind
theorem apx_pos {m : Int} (hm : 0 < m) : Pos (apx m) := by
  refine ⟨1, by decide +kernel, 0, fun k _ => ?_⟩
  obtain ⟨h1, h2⟩ := isq_spec (m.natAbs * 4 ^ k)
  unfold apx
  have e4 : (4 : Nat) ^ k = 2 ^ k * 2 ^ k := by rw [← Nat.mul_pow]
  have hge : 2 ^ k ≤ isq (m.natAbs * 4 ^ k) := by
    by_cases h : 2 ^ k ≤ isq (m.natAbs * 4 ^ k)
    · exact h
    · have g1 : (isq (m.natAbs * 4 ^ k) + 1) * (isq (m.natAbs * 4 ^ k) + 1) ≤ 2 ^ k * 2 ^ k := Nat.mul_le_mul (by omega) (by omega)
      have g2 : 1 * 4 ^ k ≤ m.natAbs * 4 ^ k := Nat.mul_le_mul_right _ (by omega)
      omega
  have h3 : ((2 ^ k : Int) : Rat) ≤ ((isq (m.natAbs * 4 ^ k) : Int) : Rat) := Rat.intCast_le_intCast.2 (by exact_mod_cast hge)
  have h4 : 0 ≤ (((isq (m.natAbs * 4 ^ k) : Int) : Rat) - ((2 ^ k : Int) : Rat)) * tk k := Rat.mul_nonneg (by grind) (by have := tk_pos k; grind)
  have h5 := tk_mul k
  grind
/-- A root's sign, times something. -/
theorem sig_times {m : Int} (hm : 0 ≤ m) {f : Nat → Rat} {t : Int} (h : Sig f t) (bf : Bdd f) : Sig (fun k => f k * apx m k) (if m.sign = 0 then 0 else t) := by
  by_cases h0 : m = 0
  · subst h0
    rw [if_pos (by rfl)]
    exact .inr (.inl ⟨rfl, Nul.zero.congr (fun k => by rw [apx_zero, Rat.mul_zero])⟩)
  · rw [if_neg (by rw [Int.sign_eq_one_of_pos (by omega)]; decide)]
    have := h.mul (.inl ⟨rfl, apx_pos (m := m) (by omega)⟩) bf (apx_bdd hm)
    rwa [Int.mul_one] at this
theorem Sig.tri {f : Nat → Rat} {s : Int} (h : Sig f s) : s = 1 ∨ s = 0 ∨ s = -1 := by
  rcases h with ⟨h, _⟩ | ⟨h, _⟩ | ⟨h, _⟩ <;> omega
/-- Of two numbers, and of what is left of their squares. -/
theorem sig_two {f g : Nat → Rat} {s t c : Int} (hf : Sig f s) (hg : Sig g t) (bf : Bdd f) (bg : Bdd g) (hc : Sig (fun k => f k * f k - g k * g k) c) :
    Sig (fun k => f k + g k) (if t = 0 ∨ s = t then s else if s = 0 then t else s * c) := by
  by_cases h1 : t = 0 ∨ s = t
  · rw [if_pos h1]
    exact hf.add hg h1
  · rw [if_neg h1]
    by_cases h2 : s = 0
    · rw [if_pos h2]
      exact (hg.add hf (.inl h2)).eqf (fun k => by grind)
    · rw [if_neg h2]
      have h3 : -t = s := by
        have := hf.tri
        have := hg.tri
        omega
      have hd : Sig (fun k => f k + -g k) s := hf.add hg.neg (.inr h3.symm)
      exact hd.div h2 (bf.add bg.neg) (hc.eqf (fun k => by grind))

def v1 (x y : Rat) (m : Int) (k : Nat) : Rat := x + y * apx m k
theorem v1_bdd {m : Int} (hm : 0 ≤ m) (x y : Rat) : Bdd (v1 x y m) := (Bdd.const x).add ((Bdd.const y).mul (apx_bdd hm))
theorem sig1 {m : Int} (hm : 0 ≤ m) (x y : Rat) : Sig (v1 x y m) (sg1 x y m) := by
  have hy := sig_times hm (Sig.const y) (Bdd.const y)
  refine (sig_two (Sig.const x) hy (Bdd.const x) ((Bdd.const y).mul (apx_bdd hm)) (c := cmpQ (x * x) (y * y * m)) ?_)
  refine (Sig.cmp (x * x) (y * y * m)).congr ?_
  exact ((apx_nul hm).mul (Bdd.const (-(y * y)))).congr (fun k => by grind)
def Sn.v (S : Sn) (k : Nat) : Rat := v1 S.p S.q S.m k + v1 S.r S.s S.m k * apx S.n k
theorem sig2 (S : Sn) (hm : 0 ≤ S.m) (hn : 0 ≤ S.n) : Sig S.v S.sg := by
  have hg := sig_times hn (sig1 hm S.r S.s) (v1_bdd hm _ _)
  refine (sig_two (sig1 hm S.p S.q) hg (v1_bdd hm _ _) ((v1_bdd hm _ _).mul (apx_bdd hn)) (c := sg1 (S.p * S.p + S.m * S.q * S.q - S.n * (S.r * S.r + S.m * S.s * S.s)) (2 * (S.p * S.q - S.n * S.r * S.s)) S.m) ?_)
  refine (sig1 hm _ _).congr ?_
  have n1 := (apx_nul hm).mul (Bdd.const (S.q * S.q - S.n * S.s * S.s))
  have n2 := (apx_nul hn).mul (((v1_bdd hm S.r S.s).mul (v1_bdd hm S.r S.s)).neg)
  exact (n1.add n2).congr (fun k => by unfold v1; grind)
end Go.Proofs.Ytaafmafdnnjmdaa

set_option linter.unusedSimpArgs false
set_option linter.unusedVariables false
namespace Go.Proofs.Ytaafmafdnnjmdaa
open Go.RowKit Go.IntWalk

theorem rat_den (e : Rat) : e * ((e.den : Int) : Rat) = ((e.num : Int) : Rat) := by
  rw [← q_divInt1, ← q_divInt1]
  conv => lhs; rw [← Rat.num_divInt_den e]
  rw [Rat.divInt_mul_divInt, Rat.divInt_eq_divInt_iff (by have := e.den_pos; simp; omega) (by decide)]
  simp
theorem le_of_sq {a b : Rat} (hb : 0 ≤ b) (h : a * a ≤ b * b) : a ≤ b := by
  by_cases hh : a ≤ b
  · exact hh
  · have : 0 < (a - b) * (a + b) := Rat.mul_pos (by grind) (by grind)
    grind
theorem nonneg_of_mul {a d : Rat} (hd : 0 < d) (h : 0 ≤ a * d) : 0 ≤ a := by
  by_cases hh : 0 ≤ a
  · exact hh
  · have := Rat.mul_pos (show 0 < -a by grind) hd
    grind
theorem qab_core {y N D A T R g e : Rat} (hD : 0 < D) (hy : y * D = N) (hN : 0 ≤ N) (hA1 : A * D ≤ T) (hA2 : T + 1 ≤ (A + 1) * D) (hT : 0 ≤ T) (t1 : T * T ≤ N * N * R * 65536) (t2 : N * N * R * 65536 < (T + 1) * (T + 1))
    (hg : 0 ≤ g) (g1 : g * g ≤ R) (g2 : R < (g + e) * (g + e)) (he : 0 ≤ e) : A ≤ 256 * (y * g) + 256 * (y * e) ∧ 256 * (y * g) ≤ A + 1 := by
  have hNN : 0 ≤ N * N := Rat.mul_nonneg hN hN
  have a1 : 256 * N * g ≤ T + 1 := le_of_sq (by grind) (by
    have := Rat.mul_nonneg hNN (show 0 ≤ R - g * g by grind)
    grind)
  have a2 : T ≤ 256 * N * (g + e) := le_of_sq (Rat.mul_nonneg (by grind) (by grind)) (by
    have := Rat.mul_nonneg hNN (show 0 ≤ (g + e) * (g + e) - R by grind)
    grind)
  constructor
  · have := nonneg_of_mul hD (show 0 ≤ (256 * (y * g) + 256 * (y * e) - A) * D by
      rw [show (256 * (y * g) + 256 * (y * e) - A) * D = 256 * (y * D) * (g + e) - A * D by grind, hy]
      grind)
    grind
  · have := nonneg_of_mul hD (show 0 ≤ (A + 1 - 256 * (y * g)) * D by
      rw [show (A + 1 - 256 * (y * g)) * D = (A + 1) * D - 256 * (y * D) * g by grind, hy]
      grind)
    grind
theorem natCast_mul' (a b : Nat) : (((a * b : Nat) : Int) : Rat) = ((a : Int) : Rat) * ((b : Int) : Rat) := by
  rw [Int.natCast_mul, Rat.intCast_mul]
theorem nat_le_rat {a b : Nat} (h : a ≤ b) : ((a : Int) : Rat) ≤ ((b : Int) : Rat) := Rat.intCast_le_intCast.2 (by exact_mod_cast h)
theorem nat_lt_rat {a b : Nat} (h : a < b) : ((a : Int) : Rat) < ((b : Int) : Rat) := Rat.intCast_lt_intCast.2 (by exact_mod_cast h)
theorem nat_succ_rat (a : Nat) : (((a + 1 : Nat) : Int) : Rat) = ((a : Int) : Rat) + 1 := by
  rw [Int.natCast_add, Rat.intCast_add]; rfl
/-- How near the search begins, a part alone. -/
theorem qab_near (x : Rat) {R : Int} (hR : 0 ≤ R) {g e : Nat → Rat} (hg : ∀ k, 0 ≤ g k ∧ g k * g k ≤ (R : Rat) ∧ (R : Rat) < (g k + e k) * (g k + e k)) (he0 : ∀ k, 0 ≤ e k) (he : Nul e) :
    ∃ K, ∀ k, K ≤ k → -1 ≤ ((qab x R 8 : Int) : Rat) - 256 * (x * g k) ∧ ((qab x R 8 : Int) : Rat) - 256 * (x * g k) ≤ 1 := by
  obtain ⟨h1, h2⟩ := isq_spec (x.num.natAbs * x.num.natAbs * R.natAbs * 2 ^ (2 * 8))
  unfold qab
  generalize isq (x.num.natAbs * x.num.natAbs * R.natAbs * 2 ^ (2 * 8)) = T at *
  have hden := x.den_pos
  have hdiv := Nat.div_add_mod T x.den
  have hmod := Nat.mod_lt T hden
  have e1 : ((T : Nat) : Int) / (x.den : Int) = ((T / x.den : Nat) : Int) := by omega
  simp only [e1]
  generalize T / x.den = A at *
  have hA1 : A * x.den ≤ T := by rw [Nat.mul_comm]; omega
  have hA2 : T + 1 ≤ (A + 1) * x.den := by rw [Nat.add_mul, Nat.mul_comm A]; omega
  have q1 := nat_le_rat hA1
  have q2 := nat_le_rat hA2
  have ep : (((2 ^ (2 * 8) : Nat) : Int) : Rat) = 65536 := by decide +kernel
  generalize 2 ^ (2 * 8) = P at *
  have q3 := nat_le_rat h1
  have q4 := nat_lt_rat h2
  simp only [natCast_mul', nat_succ_rat] at q1 q2 q3 q4
  have eR : ((R.natAbs : Int) : Rat) = (R : Rat) := by rw [show (R.natAbs : Int) = R by omega]
  rw [eR, ep] at q3 q4
  have hD : (0 : Rat) < ((x.den : Int) : Rat) := by exact_mod_cast (show (0 : Int) < x.den by omega)
  have hN : (0 : Rat) ≤ ((x.num.natAbs : Int) : Rat) := by exact_mod_cast (show (0 : Int) ≤ x.num.natAbs by omega)
  have hT : (0 : Rat) ≤ ((T : Int) : Rat) := by exact_mod_cast (show (0 : Int) ≤ T by omega)
  have hrd := rat_den x
  have key : ∀ y : Rat, y * ((x.den : Int) : Rat) = ((x.num.natAbs : Int) : Rat) → ∃ K, ∀ k, K ≤ k → -1 ≤ ((A : Int) : Rat) - 256 * (y * g k) ∧ ((A : Int) : Rat) - 256 * (y * g k) ≤ 1 := by
    intro y hy
    obtain ⟨K, hK⟩ := (he.mul (Bdd.const (256 * y))) 1 (by decide +kernel)
    refine ⟨K, fun k hk => ?_⟩
    obtain ⟨g1, g2, g3⟩ := hg k
    have := qab_core hD hy hN q1 q2 hT q3 q4 g1 g2 g3 (he0 k)
    have h3 := hK k hk
    constructor <;> grind
  by_cases hs : x.num.sign < 0
  · rw [if_pos hs]
    have hneg : x.num < 0 := Int.sign_neg_iff.1 hs
    obtain ⟨K, hK⟩ := key (-x) (by
      rw [Rat.neg_mul, hrd, ← Rat.intCast_neg]; exact congrArg (fun z : Int => (z : Rat)) (show -x.num = (x.num.natAbs : Int) by omega))
    refine ⟨K, fun k hk => ?_⟩
    have := hK k hk
    rw [Rat.intCast_neg]
    constructor <;> grind
  · rw [if_neg hs]
    have hpos : ¬ x.num < 0 := fun h => hs (Int.sign_neg_iff.2 h)
    exact key x (by rw [hrd]; exact congrArg (fun z : Int => (z : Rat)) (show x.num = (x.num.natAbs : Int) by omega))

/-- The product of two that come near to roots. -/
theorem apx_two {m n : Int} (hm : 0 ≤ m) (hn : 0 ≤ n) (k : Nat) : 0 ≤ apx m k * apx n k ∧ (apx m k * apx n k) * (apx m k * apx n k) ≤ ((m * n : Int) : Rat) ∧ ((m * n : Int) : Rat) < (apx m k * apx n k + tk k * (apx m k + apx n k + tk k)) * (apx m k * apx n k + tk k * (apx m k + apx n k + tk k)) := by
  obtain ⟨a1, a2, a3⟩ := apx_spec hm k
  obtain ⟨b1, b2, b3⟩ := apx_spec hn k
  have ht := tk_pos k
  have hm' : (0 : Rat) ≤ (m : Rat) := by exact_mod_cast hm
  have hn' : (0 : Rat) ≤ (n : Rat) := by exact_mod_cast hn
  rw [Rat.intCast_mul]
  generalize apx m k = u at *
  generalize apx n k = v at *
  generalize tk k = t at *
  generalize (m : Rat) = m' at *
  generalize (n : Rat) = n' at *
  refine ⟨Rat.mul_nonneg a1 b1, ?_, ?_⟩
  · have h1 := Rat.mul_nonneg (show 0 ≤ m' - u * u by grind) hn'
    have h2 := Rat.mul_nonneg (Rat.mul_nonneg a1 a1) (show 0 ≤ n' - v * v by grind)
    grind
  · have h1 := Rat.mul_nonneg (show 0 ≤ (u + t) * (u + t) - m' by grind) hn'
    have h2 : 0 < (u + t) * (u + t) * ((v + t) * (v + t) - n') := Rat.mul_pos (Rat.mul_pos (by grind) (by grind)) (by grind)
    have e : u * v + t * (u + v + t) = (u + t) * (v + t) := by grind
    rw [e]
    grind
theorem one_near (k : Nat) : (0 : Rat) ≤ 1 ∧ (1 : Rat) * 1 ≤ ((1 : Int) : Rat) ∧ ((1 : Int) : Rat) < (1 + tk k) * (1 + tk k) := by
  have ht := tk_pos k
  have e : ((1 : Int) : Rat) = 1 := rfl
  rw [e]
  have := Rat.mul_pos ht ht
  refine ⟨by decide +kernel, by grind, by grind⟩
theorem low_near (S : Sn) (hm : 0 ≤ S.m) (hn : 0 ≤ S.n) : ∃ K, ∀ k, K ≤ k → 256 * ((S.low : Int) : Rat) - 4 ≤ 256 * S.v k ∧ 256 * S.v k ≤ 256 * ((S.low : Int) : Rat) + 259 := by
  have hmn : 0 ≤ S.m * S.n := Int.mul_nonneg hm hn
  obtain ⟨K1, h1⟩ := qab_near S.p (R := 1) (by decide) (g := fun _ => 1) (e := tk) one_near (fun k => Rat.le_of_lt (tk_pos k)) tk_nul
  obtain ⟨K2, h2⟩ := qab_near S.q hm (g := apx S.m) (e := tk) (apx_spec hm) (fun k => Rat.le_of_lt (tk_pos k)) tk_nul
  obtain ⟨K3, h3⟩ := qab_near S.r hn (g := apx S.n) (e := tk) (apx_spec hn) (fun k => Rat.le_of_lt (tk_pos k)) tk_nul
  obtain ⟨K4, h4⟩ := qab_near S.s hmn (g := fun k => apx S.m k * apx S.n k) (e := fun k => tk k * (apx S.m k + apx S.n k + tk k)) (apx_two hm hn)
    (fun k => Rat.mul_nonneg (Rat.le_of_lt (tk_pos k)) (by
      have := tk_pos k
      have := (apx_spec hm k).1
      have := (apx_spec hn k).1
      grind))
    (tk_nul.mul (((apx_bdd hm).add (apx_bdd hn)).add ⟨1, by decide +kernel, fun k => by
      have := tk_pos k
      have := tk_le1 k
      constructor <;> grind⟩))
  refine ⟨max (max K1 K2) (max K3 K4), fun k hk => ?_⟩
  have g1 := h1 k (by omega)
  have g2 := h2 k (by omega)
  have g3 := h3 k (by omega)
  have g4 := h4 k (by omega)
  have hz : 256 * S.low ≤ 0 + qab S.p 1 8 + qab S.q S.m 8 + qab S.r S.n 8 + qab S.s (S.m * S.n) 8 ∧ 0 + qab S.p 1 8 + qab S.q S.m 8 + qab S.r S.n 8 + qab S.s (S.m * S.n) 8 ≤ 256 * S.low + 255 := by
    unfold Sn.low
    omega
  have z1 : ((256 * S.low : Int) : Rat) ≤ ((0 + qab S.p 1 8 + qab S.q S.m 8 + qab S.r S.n 8 + qab S.s (S.m * S.n) 8 : Int) : Rat) := Rat.intCast_le_intCast.2 hz.1
  have z2 : ((0 + qab S.p 1 8 + qab S.q S.m 8 + qab S.r S.n 8 + qab S.s (S.m * S.n) 8 : Int) : Rat) ≤ ((256 * S.low + 255 : Int) : Rat) := Rat.intCast_le_intCast.2 hz.2
  simp only [Rat.intCast_add, Rat.intCast_mul] at z1 z2
  have c0 : ((0 : Int) : Rat) = 0 := rfl
  have c1 : ((256 : Int) : Rat) = 256 := rfl
  have c2 : ((255 : Int) : Rat) = 255 := rfl
  rw [c0, c1] at z1
  rw [c0, c1, c2] at z2
  have ev : S.v k = S.p * 1 + S.q * apx S.m k + S.r * apx S.n k + S.s * (apx S.m k * apx S.n k) := by
    unfold Sn.v v1
    grind
  rw [ev]
  generalize ((qab S.p 1 8 : Int) : Rat) = a at *
  generalize ((qab S.q S.m 8 : Int) : Rat) = b at *
  generalize ((qab S.r S.n 8 : Int) : Rat) = c at *
  generalize ((qab S.s (S.m * S.n) 8 : Int) : Rat) = d at *
  generalize ((S.low : Int) : Rat) = l at *
  generalize S.p * 1 = x at *
  generalize S.q * apx S.m k = y at *
  generalize S.r * apx S.n k = z at *
  generalize S.s * (apx S.m k * apx S.n k) = w at *
  constructor <;> grind

theorem Sn.lessq_v (S : Sn) (q : Int) (k : Nat) : (S.lessq q).v k = S.v k - (q : Rat) := by
  unfold Sn.v v1 Sn.lessq
  grind
/-- The order of numbers goes with their signs. -/
theorem sg_mono {S T : Sn} (hm : 0 ≤ S.m) (hn : 0 ≤ S.n) (em : T.m = S.m) (en : T.n = S.n) (h : ∃ K, ∀ k, K ≤ k → S.v k ≤ T.v k) : S.sg ≤ T.sg := by
  have s1 := sig2 S hm hn
  have s2 := sig2 T (by omega) (by omega)
  obtain ⟨K, hK⟩ := h
  rcases s1 with ⟨e1, e, he, K1, p1⟩ | ⟨e1, p1⟩ | ⟨e1, p1⟩
  · have : Sig T.v 1 := .inl ⟨rfl, e, he, max K K1, fun k hk => by
      have := hK k (by omega)
      have := p1 k (by omega)
      grind⟩
    rw [e1, s2.unique this]
    omega
  · rcases s2 with ⟨e2, _⟩ | ⟨e2, _⟩ | ⟨e2, e, he, K2, p2⟩
    · omega
    · omega
    · exfalso
      obtain ⟨g1, g2⟩ := half_pos he
      obtain ⟨K3, p3⟩ := p1 (e * Rat.divInt 1 2) g1
      have a1 := p3 (max K (max K2 K3)) (by omega)
      have a2 := p2 (max K (max K2 K3)) (by omega)
      have a3 := hK (max K (max K2 K3)) (by omega)
      grind
  · have := s2.tri
    omega
theorem lessq_mono (S : Sn) (hm : 0 ≤ S.m) (hn : 0 ≤ S.n) {a b : Int} (h : a ≤ b) : (S.lessq b).sg ≤ (S.lessq a).sg :=
  sg_mono hm hn rfl rfl ⟨0, fun k _ => by
    rw [Sn.lessq_v, Sn.lessq_v]
    have : (a : Rat) ≤ (b : Rat) := Rat.intCast_le_intCast.2 h
    grind⟩
theorem fl_lo (S : Sn) (hm : 0 ≤ S.m) (hn : 0 ≤ S.n) : (S.lessq (S.low - 1)).sg = 1 := by
  obtain ⟨K, hK⟩ := low_near S hm hn
  refine (sig2 (S.lessq (S.low - 1)) hm hn).unique (.inl ⟨rfl, Rat.divInt 1 2, by decide +kernel, K, fun k hk => ?_⟩)
  have := hK k hk
  rw [Sn.lessq_v, Rat.intCast_sub]
  have e : ((1 : Int) : Rat) = 1 := rfl
  have h2 : Rat.divInt 1 2 + Rat.divInt 1 2 = 1 := by decide +kernel
  rw [e]
  grind
theorem fl_hi (S : Sn) (hm : 0 ≤ S.m) (hn : 0 ≤ S.n) : (S.lessq (S.low + 2)).sg = -1 := by
  obtain ⟨K, hK⟩ := low_near S hm hn
  refine (sig2 (S.lessq (S.low + 2)) hm hn).unique (.inr (.inr ⟨rfl, Rat.divInt 1 2, by decide +kernel, K, fun k hk => ?_⟩))
  have := hK k hk
  simp only
  rw [Sn.lessq_v, Rat.intCast_add]
  have e : ((2 : Int) : Rat) = 2 := rfl
  have h2 : Rat.divInt 1 2 + Rat.divInt 1 2 = 1 := by decide +kernel
  rw [e]
  grind
/-- The greatest whole number that is not above it. -/
def Sn.fl (S : Sn) : Int := if (S.lessq S.low).sg < 0 then S.low - 1 else if (S.lessq (S.low + 1)).sg < 0 then S.low else S.low + 1
theorem Sn.fl_spec (S : Sn) (hm : 0 ≤ S.m) (hn : 0 ≤ S.n) : 0 ≤ (S.lessq S.fl).sg ∧ (S.lessq (S.fl + 1)).sg < 0 := by
  have h1 := fl_lo S hm hn
  have h2 := fl_hi S hm hn
  unfold Sn.fl
  split
  · refine ⟨by omega, ?_⟩
    rw [show S.low - 1 + 1 = S.low by omega]
    assumption
  · split
    · exact ⟨by omega, by assumption⟩
    · refine ⟨by omega, ?_⟩
      rw [show S.low + 1 + 1 = S.low + 2 by omega]
      omega
/-- The nearest whole number. -/
def Sn.nr (S : Sn) : Int := if (S.half.lessq S.half.fl).sg = 0 ∧ (S.half.fl % 2).sign ≠ 0 then S.half.fl - 1 else S.half.fl
end Go.Proofs.Ytaafmafdnnjmdaa

set_option linter.unusedSimpArgs false
set_option linter.unusedVariables false
namespace Go.Proofs.Ytaafmafdnnjmdaa
open Go.RowKit Go.IntWalk

section
variable {fin : VS → List Fact → Prop} {Γ : List Fact} {L M K : Nat}
set_option maxHeartbeats 8000000 in
theorem p_xfl (x : Sw) {S : Sn} [Has (SF x) (L, S) Γ] (hm : 0 ≤ S.m) (hn : 0 ≤ S.n) (hL : L ≤ 300 := by omega) :
    PCalls tb Try.prog 88 [sv x] Γ (ZPost (10 * L + 210) S.fl) := by
  refine PCalls.of_W tbOk Try.func88 rfl (by kernel_rfl) ?_
  have z1 := fl_lo S hm hn
  have z2 := fl_hi S hm hn
  have hlow : S.low = ((((0 + (qab S.p 1 8)) + (qab S.q S.m 8)) + (qab S.r S.n 8)) + (qab S.s (S.m * S.n) 8)) / 256 := rfl
  refine W.more rfl (entZnil (L' := 0)) ?_
  refine W.sf x rfl ?_
  refine W.cl [] (by kernel_rfl) (p_zof 1 (by omega) (by omega)) ?_
  rintro _ _ ⟨u1, d1, rfl, rfl⟩   -- 1
  refine W.cl [] (by kernel_rfl) (p_zmul x.u x.d x.v x.e) ?_
  rintro _ _ ⟨u2, d2, rfl, rfl⟩   -- (S.m * S.n)
  refine W.unr [] 6 (by kernel_rfl) ?_
  refine W.cl [30] (by kernel_rfl) (p_xabout x.p.n x.p.a x.p.m x.p.b u1 d1 8 rfl) ?_
  rintro _ _ ⟨u3, d3, rfl, rfl⟩   -- (qab S.p 1 8)
  refine W.cl [] (by kernel_rfl) (p_zadd ⟨none, 0, 0⟩ false u3 d3) ?_
  rintro _ _ ⟨u4, d4, rfl, rfl⟩   -- (0 + (qab S.p 1 8))
  refine W.cl [30] (by kernel_rfl) (p_xabout x.q.n x.q.a x.q.m x.q.b x.u x.d 8 rfl) ?_
  rintro _ _ ⟨u5, d5, rfl, rfl⟩   -- (qab S.q S.m 8)
  refine W.cl [] (by kernel_rfl) (p_zadd u4 d4 u5 d5) ?_
  rintro _ _ ⟨u6, d6, rfl, rfl⟩   -- ((0 + (qab S.p 1 8)) + (qab S.q S.m 8))
  refine W.cl [30] (by kernel_rfl) (p_xabout x.r.n x.r.a x.r.m x.r.b x.v x.e 8 rfl) ?_
  rintro _ _ ⟨u7, d7, rfl, rfl⟩   -- (qab S.r S.n 8)
  refine W.cl [] (by kernel_rfl) (p_zadd u6 d6 u7 d7) ?_
  rintro _ _ ⟨u8, d8, rfl, rfl⟩   -- (((0 + (qab S.p 1 8)) + (qab S.q S.m 8)) + (qab S.r S.n 8))
  refine W.cl [30] (by kernel_rfl) (p_xabout x.s.n x.s.a x.s.m x.s.b u2 d2 8 rfl) ?_
  rintro _ _ ⟨u9, d9, rfl, rfl⟩   -- (qab S.s (S.m * S.n) 8)
  refine W.cl [] (by kernel_rfl) (p_zadd u8 d8 u9 d9) ?_
  rintro _ _ ⟨u10, d10, rfl, rfl⟩   -- ((((0 + (qab S.p 1 8)) + (qab S.q S.m 8)) + (qab S.r S.n 8)) + (qab S.s (S.m * S.n) 8))
  refine W.cl [30] (by kernel_rfl) (p_zof 256 (by omega) (by omega)) ?_
  rintro _ _ ⟨u11, d11, rfl, rfl⟩   -- 256
  refine W.cl [] (by kernel_rfl) (p_zfloor u10 d10 u11 d11 (by omega)) ?_
  rintro _ _ ⟨u12, d12, v12, e12, rfl, rfl⟩   -- (((((0 + (qab S.p 1 8)) + (qab S.q S.m 8)) + (qab S.r S.n 8)) + (qab S.s (S.m * S.n) 8)) / 256) (((((0 + (qab S.p 1 8)) + (qab S.q S.m 8)) + (qab S.r S.n 8)) + (qab S.s (S.m * S.n) 8)) % 256)
  refine W.unr [] 6 (by kernel_rfl) ?_
  refine W.cl [] (by kernel_rfl) (p_xless x u12 d12) ?_
  rintro _ _ ⟨rfl, rfl⟩
  by_cases h1 : (S.lessq S.low).sg < 0
  · refine W.dt [] 50 ((decide ((S.lessq (((((0 + (qab S.p 1 8)) + (qab S.q S.m 8)) + (qab S.r S.n 8)) + (qab S.s (S.m * S.n) 8)) / 256)).sg < 0))) (by kernel_rfl) (by rw [decide_eq_true_iff, ← hlow]; exact h1) ?_
    refine W.cl [50] (by kernel_rfl) (p_zsub u12 d12 u1 d1) ?_
    rintro _ _ ⟨u14, d14, rfl, rfl⟩   -- ((((((0 + (qab S.p 1 8)) + (qab S.q S.m 8)) + (qab S.r S.n 8)) + (qab S.s (S.m * S.n) 8)) / 256) - 1)
    refine W.cl [] (by kernel_rfl) (p_xless x u14 d14) ?_
    rintro _ _ ⟨rfl, rfl⟩
    refine W.df [] 50 ((decide ((S.lessq ((((((0 + (qab S.p 1 8)) + (qab S.q S.m 8)) + (qab S.r S.n 8)) + (qab S.s (S.m * S.n) 8)) / 256) - 1)).sg < 0))) (by kernel_rfl) (by rw [decide_eq_false_iff_not, ← hlow]; omega) ?_
    refine W.unr [50] 6 (by kernel_rfl) ?_
    refine W.cl [] (by kernel_rfl) (p_zadd u14 d14 u1 d1) ?_
    rintro _ _ ⟨u16, d16, rfl, rfl⟩   -- (((((((0 + (qab S.p 1 8)) + (qab S.q S.m 8)) + (qab S.r S.n 8)) + (qab S.s (S.m * S.n) 8)) / 256) - 1) + 1)
    refine W.cl [] (by kernel_rfl) (p_xless x u16 d16) ?_
    rintro _ _ ⟨rfl, rfl⟩
    refine W.df [] 59 (!(decide ((S.lessq (((((((0 + (qab S.p 1 8)) + (qab S.q S.m 8)) + (qab S.r S.n 8)) + (qab S.s (S.m * S.n) 8)) / 256) - 1) + 1)).sg < 0))) (by kernel_rfl) (by rw [Bool.not_eq_false', decide_eq_true_eq, ← hlow, show S.low - 1 + 1 = S.low by omega]; exact h1) ?_
    exact W.r [59] (zv u14 d14) (by kernel_rfl) ⟨_, _, rfl, rfl⟩ (entZ (by omega) (by unfold Sn.fl; rw [if_pos h1, hlow]))
  · by_cases h2 : (S.lessq (S.low + 1)).sg < 0
    · refine W.df [] 50 ((decide ((S.lessq (((((0 + (qab S.p 1 8)) + (qab S.q S.m 8)) + (qab S.r S.n 8)) + (qab S.s (S.m * S.n) 8)) / 256)).sg < 0))) (by kernel_rfl) (by rw [decide_eq_false_iff_not, ← hlow]; exact h1) ?_
      refine W.unr [50] 6 (by kernel_rfl) ?_
      refine W.cl [] (by kernel_rfl) (p_zadd u12 d12 u1 d1) ?_
      rintro _ _ ⟨u14, d14, rfl, rfl⟩   -- ((((((0 + (qab S.p 1 8)) + (qab S.q S.m 8)) + (qab S.r S.n 8)) + (qab S.s (S.m * S.n) 8)) / 256) + 1)
      refine W.cl [] (by kernel_rfl) (p_xless x u14 d14) ?_
      rintro _ _ ⟨rfl, rfl⟩
      refine W.df [] 59 (!(decide ((S.lessq ((((((0 + (qab S.p 1 8)) + (qab S.q S.m 8)) + (qab S.r S.n 8)) + (qab S.s (S.m * S.n) 8)) / 256) + 1)).sg < 0))) (by kernel_rfl) (by rw [Bool.not_eq_false', decide_eq_true_eq, ← hlow]; exact h2) ?_
      exact W.r [59] (zv u12 d12) (by kernel_rfl) ⟨_, _, rfl, rfl⟩ (entZ (by omega) (by unfold Sn.fl; rw [if_neg h1, if_pos h2, hlow]))
    · refine W.df [] 50 ((decide ((S.lessq (((((0 + (qab S.p 1 8)) + (qab S.q S.m 8)) + (qab S.r S.n 8)) + (qab S.s (S.m * S.n) 8)) / 256)).sg < 0))) (by kernel_rfl) (by rw [decide_eq_false_iff_not, ← hlow]; exact h1) ?_
      refine W.unr [50] 6 (by kernel_rfl) ?_
      refine W.cl [] (by kernel_rfl) (p_zadd u12 d12 u1 d1) ?_
      rintro _ _ ⟨u14, d14, rfl, rfl⟩   -- ((((((0 + (qab S.p 1 8)) + (qab S.q S.m 8)) + (qab S.r S.n 8)) + (qab S.s (S.m * S.n) 8)) / 256) + 1)
      refine W.cl [] (by kernel_rfl) (p_xless x u14 d14) ?_
      rintro _ _ ⟨rfl, rfl⟩
      refine W.dt [] 59 (!(decide ((S.lessq ((((((0 + (qab S.p 1 8)) + (qab S.q S.m 8)) + (qab S.r S.n 8)) + (qab S.s (S.m * S.n) 8)) / 256) + 1)).sg < 0))) (by kernel_rfl) (by rw [Bool.not_eq_true', decide_eq_false_iff_not, ← hlow]; exact h2) ?_
      refine W.cl [59] (by kernel_rfl) (p_zadd u12 d12 u1 d1) ?_
      rintro _ _ ⟨u16, d16, rfl, rfl⟩   -- ((((((0 + (qab S.p 1 8)) + (qab S.q S.m 8)) + (qab S.r S.n 8)) + (qab S.s (S.m * S.n) 8)) / 256) + 1)
      refine W.cl [] (by kernel_rfl) (p_zadd u16 d16 u1 d1) ?_
      rintro _ _ ⟨u17, d17, rfl, rfl⟩   -- (((((((0 + (qab S.p 1 8)) + (qab S.q S.m 8)) + (qab S.r S.n 8)) + (qab S.s (S.m * S.n) 8)) / 256) + 1) + 1)
      refine W.cl [] (by kernel_rfl) (p_xless x u17 d17) ?_
      rintro _ _ ⟨rfl, rfl⟩
      refine W.df [] 59 (!(decide ((S.lessq (((((((0 + (qab S.p 1 8)) + (qab S.q S.m 8)) + (qab S.r S.n 8)) + (qab S.s (S.m * S.n) 8)) / 256) + 1) + 1)).sg < 0))) (by kernel_rfl) (by rw [Bool.not_eq_false', decide_eq_true_eq, ← hlow, show S.low + 1 + 1 = S.low + 2 by omega]; omega) ?_
      exact W.r [59] (zv u16 d16) (by kernel_rfl) ⟨_, _, rfl, rfl⟩ (entZ (by omega) (by unfold Sn.fl; rw [if_neg h1, if_neg h2, hlow]))
set_option maxHeartbeats 4000000 in
theorem p_xnr (x : Sw) {S : Sn} [Has (SF x) (L, S) Γ] (hm : 0 ≤ S.m) (hn : 0 ≤ S.n) (hL : L ≤ 280 := by omega) :
    PCalls tb Try.prog 46 [sv x] Γ (ZPost (10 * L + 520) S.nr) := by
  refine PCalls.of_W tbOk Try.func46 rfl (by kernel_rfl) ?_
  refine W.sf x rfl ?_
  refine W.cl [] (by kernel_rfl) (p_qof 1 2 (by omega) (by omega) (by omega) (by omega) (by omega)) ?_
  rintro _ _ ⟨n1, a1, m1, b1, rfl, rfl⟩   -- (Rat.divInt 1 2)
  refine W.cl [] (by kernel_rfl) (p_qadd x.p.n x.p.a x.p.m x.p.b n1 a1 m1 b1) ?_
  rintro _ _ ⟨n2, a2, m2, b2, rfl, rfl⟩   -- (S.p + (Rat.divInt 1 2))
  refine W.cx [] (by kernel_rfl) (entS (x := ⟨x.u, x.d, x.v, x.e, ⟨n2, a2, m2, b2⟩, x.q, x.r, x.s⟩) (L' := L + 10) (S := S.half) rfl rfl rfl rfl rfl rfl (by omega)) (p_xfl (S := S.half) ⟨x.u, x.d, x.v, x.e, ⟨n2, a2, m2, b2⟩, x.q, x.r, x.s⟩ hm hn) ?_
  rintro _ _ ⟨u3, d3, rfl, rfl⟩   -- S.half.fl
  refine W.cl [] (by kernel_rfl) (p_qwhole u3 d3) ?_
  rintro _ _ ⟨n4, a4, m4, b4, rfl, rfl⟩   -- (S.half.fl : Rat)
  refine W.cl [] (by kernel_rfl) (p_qsub n2 a2 m2 b2 n4 a4 m4 b4) ?_
  rintro _ _ ⟨n5, a5, m5, b5, rfl, rfl⟩   -- ((S.p + (Rat.divInt 1 2)) - (S.half.fl : Rat))
  refine W.cl [] (by kernel_rfl) (p_zof 2 (by omega) (by omega)) ?_
  rintro _ _ ⟨u6, d6, rfl, rfl⟩   -- 2
  refine W.cl [] (by kernel_rfl) (p_zfloor u3 d3 u6 d6 (by omega)) ?_
  rintro _ _ ⟨u7, d7, v7, e7, rfl, rfl⟩   -- (S.half.fl / 2) (S.half.fl % 2)
  refine W.cx [] (by kernel_rfl) (entS (x := ⟨x.u, x.d, x.v, x.e, ⟨n5, a5, m5, b5⟩, x.q, x.r, x.s⟩) (L' := 12 * L + 400) (S := (S.half.lessq S.half.fl)) rfl rfl rfl rfl rfl rfl (by omega)) (p_xsign ⟨x.u, x.d, x.v, x.e, ⟨n5, a5, m5, b5⟩, x.q, x.r, x.s⟩) ?_
  rintro _ _ ⟨rfl, rfl⟩
  refine W.d [] 42 ((S.half.lessq S.half.fl).sg == 0) (by kernel_rfl) (fun hb => ?_) (fun hb => ?_)
  · have hb' := hb
    refine W.cl [42] (by kernel_rfl) (p_zsign v7 e7) ?_
    rintro _ _ ⟨rfl, rfl⟩
    refine W.d [42] 46 (((S.half.fl % 2)).sign != 0) (by kernel_rfl) (fun hb => ?_) (fun hb => ?_)
    · skip
      refine W.cl [46] (by kernel_rfl) (p_zof 1 (by omega) (by omega)) ?_
      rintro _ _ ⟨u10, d10, rfl, rfl⟩   -- 1
      refine W.cl [] (by kernel_rfl) (p_zsub u3 d3 u10 d10) ?_
      rintro _ _ ⟨u11, d11, rfl, rfl⟩   -- (S.half.fl - 1)
      exact W.r [] (zv u11 d11) (by kernel_rfl) ⟨_, _, rfl, rfl⟩ (entZ (by omega) (by unfold Sn.nr; rw [if_pos ⟨eq_of_beq hb', fun h => by rw [h] at hb; simp at hb⟩]))
    · skip
      exact W.r [46] (zv u3 d3) (by kernel_rfl) ⟨_, _, rfl, rfl⟩ (entZ (by omega) (by unfold Sn.nr; rw [if_neg (fun h => h.2 (by simpa using hb))]))
  · skip
    exact W.r [46, 42] (zv u3 d3) (by kernel_rfl) ⟨_, _, rfl, rfl⟩ (entZ (by omega) (by unfold Sn.nr; rw [if_neg (fun h => ne_of_beq_false hb h.1)]))
end
end Go.Proofs.Ytaafmafdnnjmdaa

set_option linter.unusedSimpArgs false
set_option linter.unusedVariables false
namespace Go.Proofs.Ytaafmafdnnjmdaa
open Go.RowKit Go.IntWalk

section
variable {fin : VS → List Fact → Prop} {Γ : List Fact} {L M K : Nat}
theorem p_xof1 (u : Sl) (d : Bool) (v : Sl) (e : Bool) (B : Nat) (a : Qw) {m n : Int} {x : Rat} {L1 : Nat} [h1 : Has (ZF u d) (L, m) Γ] [h2 : Has (ZF v e) (M, n) Γ] [hr : Has (RowF B) ([(⟨a.n, a.a, a.m, a.b, x⟩ : QE)].flatMap QR.cells) Γ] [ha : Has (QG a) (L1, x) Γ] (hm : 0 ≤ m) (hn : 0 ≤ n)
    (hL : L ≤ 100000 := by omega) (hM : M ≤ 100000 := by omega) :
    PCalls tb Try.prog 54 [zv u d, zv v e, .slice (some ⟨B, 0, none⟩) 1 1] Γ (SOk (max (max L M) L1) ⟨m, n, x, 0, 0, 0⟩) :=
  (p_xof (Γ := OL QR (some ⟨B, 0, none⟩) (L1, [(⟨a.n, a.a, a.m, a.b, x⟩ : QE)]) :: Γ) u d v e (some ⟨B, 0, none⟩) 1 1 rfl (by omega) hm hn).weak (fun I w hd hh => Holds.cons ⟨fun q hq => by
    simp at hq
    subst hq
    exact ha.p hh, RA.of_row (hr.p hh) (fun _ _ h => h)⟩ hh) (fun _ _ h => h)
end

theorem Sn.nr_cases (S : Sn) (hm : 0 ≤ S.m) (hn : 0 ≤ S.n) : (S.sub ⟨S.m, S.n, (S.nr : Rat) + Rat.divInt 1 2, 0, 0, 0⟩).sg ≤ 0 ∧ 0 ≤ (S.sub ⟨S.m, S.n, (S.nr : Rat) - Rat.divInt 1 2, 0, 0, 0⟩).sg ∧
    (((S.sub ⟨S.m, S.n, (S.nr : Rat) + Rat.divInt 1 2, 0, 0, 0⟩).sg < 0 ∧ 0 < (S.sub ⟨S.m, S.n, (S.nr : Rat) - Rat.divInt 1 2, 0, 0, 0⟩).sg) ∨ (S.nr % 2).sign = 0) := by
  obtain ⟨g1, g2⟩ := S.half.fl_spec hm hn
  have h2 : Rat.divInt 1 2 + Rat.divInt 1 2 = 1 := by decide +kernel
  have c1 : ((1 : Int) : Rat) = 1 := rfl
  have up : ∀ f : Int, S.sub ⟨S.m, S.n, (f : Rat) + Rat.divInt 1 2, 0, 0, 0⟩ = S.half.lessq (f + 1) := fun f => by
    refine Sn.ext' rfl rfl ?_ ?_ ?_ ?_ <;> simp only [Sn.sub, Sn.lessq, Sn.half, Sn.up, Rat.intCast_add, c1] <;> grind
  have down : ∀ f : Int, S.sub ⟨S.m, S.n, (f : Rat) - Rat.divInt 1 2, 0, 0, 0⟩ = S.half.lessq f := fun f => by
    refine Sn.ext' rfl rfl ?_ ?_ ?_ ?_ <;> simp only [Sn.sub, Sn.lessq, Sn.half, Sn.up] <;> grind
  rw [up, down]
  unfold Sn.nr
  split
  · rename_i h
    rw [show S.half.fl - 1 + 1 = S.half.fl by omega]
    have := lessq_mono S.half hm hn (show S.half.fl - 1 ≤ S.half.fl by omega)
    refine ⟨by omega, by omega, .inr ?_⟩
    rw [show (S.half.fl - 1) % 2 = 0 by
      have : S.half.fl % 2 ≠ 0 := fun e => h.2 (by rw [e]; rfl)
      omega]
    rfl
  · rename_i h
    refine ⟨by omega, g1, ?_⟩
    by_cases h0 : (S.half.lessq S.half.fl).sg = 0
    · exact .inr (by
        by_cases h3 : (S.half.fl % 2).sign = 0
        · exact h3
        · exact absurd ⟨h0, h3⟩ h)
    · exact .inl ⟨g2, by omega⟩
end Go.Proofs.Ytaafmafdnnjmdaa
