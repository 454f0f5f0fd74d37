
/- The sign that the code reckons is the sign of the real number: rows of quotients that come near it. -/
import Derived.Test.YtabpaiboodllbaaGreatSb
set_option linter.unusedSimpArgs false
set_option linter.unusedVariables false
namespace Go.Proofs.YtabpaiboodllbaaGreat
open Go.RowKit Go.IntWalk

/-- A row of quotients stays above some number above 0. -/
def Pos (f : Nat → Rat) : Prop := ∃ e : Rat, 0 < e ∧ ∃ K, ∀ k, K ≤ k → e ≤ f k
/-- It comes as near to 0 as one likes. -/
def Nul (f : Nat → Rat) : Prop := ∀ e : Rat, 0 < e → ∃ K, ∀ k, K ≤ k → -e ≤ f k ∧ f k ≤ e
def Bdd (f : Nat → Rat) : Prop := ∃ C : Rat, 0 < C ∧ ∀ k, -C ≤ f k ∧ f k ≤ C
def Sig (f : Nat → Rat) (s : Int) : Prop := (s = 1 ∧ Pos f) ∨ (s = 0 ∧ Nul f) ∨ (s = -1 ∧ Pos (fun k => -f k))

theorem half_pos {e : Rat} (h : 0 < e) : 0 < e * Rat.divInt 1 2 ∧ e * Rat.divInt 1 2 + e * Rat.divInt 1 2 = e := by
  have h2 : Rat.divInt 1 2 + Rat.divInt 1 2 = 1 := by decide +kernel
  have h3 : (0 : Rat) < Rat.divInt 1 2 := by decide +kernel
  exact ⟨Rat.mul_pos h h3, by rw [← Rat.mul_add, h2, Rat.mul_one]⟩
theorem Pos.congr {f g : Nat → Rat} (h : Pos f) (e : ∀ k, f k = g k) : Pos g := by rwa [funext e] at h
theorem Nul.congr {f g : Nat → Rat} (h : Nul f) (e : ∀ k, f k = g k) : Nul g := by rwa [funext e] at h
theorem Bdd.congr {f g : Nat → Rat} (h : Bdd f) (e : ∀ k, f k = g k) : Bdd g := by rwa [funext e] at h
theorem Sig.eqf {f g : Nat → Rat} {s : Int} (h : Sig f s) (e : ∀ k, f k = g k) : Sig g s := by rwa [funext e] at h
theorem Pos.add_nul {f g : Nat → Rat} (h : Pos f) (h' : Nul g) : Pos (fun k => f k + g k) := by
  obtain ⟨e, he, K, hK⟩ := h
  obtain ⟨h1, h2⟩ := half_pos he
  obtain ⟨K', hK'⟩ := h' _ h1
  refine ⟨_, h1, max K K', fun k hk => ?_⟩
  have a := hK k (by omega)
  have b := (hK' k (by omega)).1
  grind
theorem Pos.add {f g : Nat → Rat} (h : Pos f) (h' : Pos g) : Pos (fun k => f k + g k) := by
  obtain ⟨e, he, K, hK⟩ := h
  obtain ⟨e', he', K', hK'⟩ := h'
  refine ⟨e, he, max K K', fun k hk => ?_⟩
  have a := hK k (by omega)
  have b := hK' k (by omega)
  grind
theorem Pos.mul {f g : Nat → Rat} (h : Pos f) (h' : Pos g) : Pos (fun k => f k * g k) := by
  obtain ⟨e, he, K, hK⟩ := h
  obtain ⟨e', he', K', hK'⟩ := h'
  refine ⟨e * e', Rat.mul_pos he he', max K K', fun k hk => ?_⟩
  have a := hK k (by omega)
  have b := hK' k (by omega)
  have h1 : 0 ≤ (f k - e) * g k := Rat.mul_nonneg (by grind) (by grind)
  have h2 : 0 ≤ e * (g k - e') := Rat.mul_nonneg (by grind) (by grind)
  grind
theorem Nul.neg {f : Nat → Rat} (h : Nul f) : Nul (fun k => -f k) := by
  intro e he
  obtain ⟨K, hK⟩ := h e he
  exact ⟨K, fun k hk => by have := hK k hk; grind⟩
theorem Nul.add {f g : Nat → Rat} (h : Nul f) (h' : Nul g) : Nul (fun k => f k + g k) := by
  intro e he
  obtain ⟨h1, h2⟩ := half_pos he
  obtain ⟨K, hK⟩ := h _ h1
  obtain ⟨K', hK'⟩ := h' _ h1
  refine ⟨max K K', fun k hk => ?_⟩
  have a := hK k (by omega)
  have b := hK' k (by omega)
  grind
theorem inv_pos' {c : Rat} (h : 0 < c) : ∃ d : Rat, 0 < d ∧ d * c = 1 := by
  refine ⟨c⁻¹, Rat.inv_pos.2 h, Rat.inv_mul_cancel _ (by grind)⟩
theorem Nul.mul {f g : Nat → Rat} (h : Nul f) (h' : Bdd g) : Nul (fun k => f k * g k) := by
  intro e he
  obtain ⟨C, hC, hg⟩ := h'
  obtain ⟨d, hd, hdc⟩ := inv_pos' hC
  obtain ⟨K, hK⟩ := h (e * d) (Rat.mul_pos he hd)
  refine ⟨K, fun k hk => ?_⟩
  obtain ⟨a1, a2⟩ := hK k hk
  obtain ⟨b1, b2⟩ := hg k
  have hb : e * d * C = e := by rw [Rat.mul_assoc, hdc, Rat.mul_one]
  have h1 : 0 ≤ (e * d - f k) * (C - g k) := Rat.mul_nonneg (by grind) (by grind)
  have h2 : 0 ≤ (e * d - f k) * (C + g k) := Rat.mul_nonneg (by grind) (by grind)
  have h3 : 0 ≤ (e * d + f k) * (C - g k) := Rat.mul_nonneg (by grind) (by grind)
  have h4 : 0 ≤ (e * d + f k) * (C + g k) := Rat.mul_nonneg (by grind) (by grind)
  constructor <;> grind
theorem Bdd.const (x : Rat) : Bdd (fun _ => x) := by
  by_cases h : 0 ≤ x
  · exact ⟨x + 1, by grind, fun k => by constructor <;> grind⟩
  · exact ⟨1 - x, by grind, fun k => by constructor <;> grind⟩
theorem Bdd.add {f g : Nat → Rat} (h : Bdd f) (h' : Bdd g) : Bdd (fun k => f k + g k) := by
  obtain ⟨C, hC, hf⟩ := h
  obtain ⟨D, hD, hg⟩ := h'
  exact ⟨C + D, by grind, fun k => by have := hf k; have := hg k; constructor <;> grind⟩
theorem Bdd.neg {f : Nat → Rat} (h : Bdd f) : Bdd (fun k => -f k) := by
  obtain ⟨C, hC, hf⟩ := h
  exact ⟨C, hC, fun k => by have := hf k; constructor <;> grind⟩
theorem Bdd.mul {f g : Nat → Rat} (h : Bdd f) (h' : Bdd g) : Bdd (fun k => f k * g k) := by
  obtain ⟨C, hC, hf⟩ := h
  obtain ⟨D, hD, hg⟩ := h'
  refine ⟨C * D, Rat.mul_pos hC hD, fun k => ?_⟩
  obtain ⟨a1, a2⟩ := hf k
  obtain ⟨b1, b2⟩ := hg k
  have h1 : 0 ≤ (C - f k) * (D - g k) := Rat.mul_nonneg (by grind) (by grind)
  have h2 : 0 ≤ (C - f k) * (D + g k) := Rat.mul_nonneg (by grind) (by grind)
  have h3 : 0 ≤ (C + f k) * (D - g k) := Rat.mul_nonneg (by grind) (by grind)
  have h4 : 0 ≤ (C + f k) * (D + g k) := Rat.mul_nonneg (by grind) (by grind)
  constructor <;> grind
theorem Pos.not_nul {f : Nat → Rat} (h : Pos f) (h' : Nul f) : False := by
  obtain ⟨e, he, K, hK⟩ := h
  obtain ⟨h1, h2⟩ := half_pos he
  obtain ⟨K', hK'⟩ := h' _ h1
  have a := hK (max K K') (by omega)
  have b := (hK' (max K K') (by omega)).2
  grind
theorem Pos.not_neg {f : Nat → Rat} (h : Pos f) (h' : Pos (fun k => -f k)) : False := by
  obtain ⟨e, he, K, hK⟩ := h
  obtain ⟨e', he', K', hK'⟩ := h'
  have a := hK (max K K') (by omega)
  have b := hK' (max K K') (by omega)
  grind
theorem Sig.unique {f : Nat → Rat} {s t : Int} (h : Sig f s) (h' : Sig f t) : s = t := by
  have nn : ∀ {g : Nat → Rat}, Nul (fun k => -g k) → Nul g := fun {g} h => h.neg.congr (fun k => by grind)
  rcases h with ⟨rfl, h⟩ | ⟨rfl, h⟩ | ⟨rfl, h⟩ <;> rcases h' with ⟨rfl, h'⟩ | ⟨rfl, h'⟩ | ⟨rfl, h'⟩
  · rfl
  · exact (h.not_nul h').elim
  · exact (h.not_neg h').elim
  · exact (h'.not_nul h).elim
  · rfl
  · exact (h'.not_nul h.neg).elim
  · exact (h'.not_neg h).elim
  · exact (h.not_nul h'.neg).elim
  · rfl
theorem Sig.neg {f : Nat → Rat} {s : Int} (h : Sig f s) : Sig (fun k => -f k) (-s) := by
  rcases h with ⟨rfl, h⟩ | ⟨rfl, h⟩ | ⟨rfl, h⟩
  · exact .inr (.inr ⟨rfl, h.congr (fun k => by grind)⟩)
  · exact .inr (.inl ⟨rfl, h.neg⟩)
  · exact .inl ⟨rfl, h⟩
theorem Sig.add_nul {f g : Nat → Rat} {s : Int} (h : Sig f s) (h' : Nul g) : Sig (fun k => f k + g k) s := by
  rcases h with ⟨rfl, h⟩ | ⟨rfl, h⟩ | ⟨rfl, h⟩
  · exact .inl ⟨rfl, h.add_nul h'⟩
  · exact .inr (.inl ⟨rfl, h.add h'⟩)
  · exact .inr (.inr ⟨rfl, (h.add_nul h'.neg).congr (fun k => by grind)⟩)
theorem Sig.add {f g : Nat → Rat} {s t : Int} (h : Sig f s) (h' : Sig g t) (hst : t = 0 ∨ s = t) : Sig (fun k => f k + g k) s := by
  rcases h' with ⟨rfl, h'⟩ | ⟨rfl, h'⟩ | ⟨rfl, h'⟩
  · rcases h with ⟨rfl, h⟩ | ⟨rfl, h⟩ | ⟨rfl, h⟩
    · exact .inl ⟨rfl, h.add h'⟩
    · simp at hst
    · simp at hst
  · exact h.add_nul h'
  · rcases h with ⟨rfl, h⟩ | ⟨rfl, h⟩ | ⟨rfl, h⟩
    · simp at hst
    · simp at hst
    · exact .inr (.inr ⟨rfl, (h.add h').congr (fun k => by grind)⟩)
theorem Sig.mul {f g : Nat → Rat} {s t : Int} (h : Sig f s) (h' : Sig g t) (bf : Bdd f) (bg : Bdd g) : Sig (fun k => f k * g k) (s * t) := by
  rcases h with ⟨rfl, h⟩ | ⟨rfl, h⟩ | ⟨rfl, h⟩ <;> rcases h' with ⟨rfl, h'⟩ | ⟨rfl, h'⟩ | ⟨rfl, h'⟩
  · exact .inl ⟨rfl, h.mul h'⟩
  · exact .inr (.inl ⟨rfl, (h'.mul bf).congr (fun k => by grind)⟩)
  · exact .inr (.inr ⟨rfl, (h.mul h').congr (fun k => by grind)⟩)
  · exact .inr (.inl ⟨rfl, h.mul bg⟩)
  · exact .inr (.inl ⟨rfl, h.mul bg⟩)
  · exact .inr (.inl ⟨rfl, h.mul bg⟩)
  · exact .inr (.inr ⟨rfl, (h.mul h').congr (fun k => by grind)⟩)
  · exact .inr (.inl ⟨rfl, (h'.mul bf).congr (fun k => by grind)⟩)
  · exact .inl ⟨rfl, (h.mul h').congr (fun k => by grind)⟩
theorem Sig.congr {f g : Nat → Rat} {s : Int} (h : Sig f s) (hn : Nul (fun k => g k - f k)) : Sig g s := (h.add_nul hn).eqf (fun k => by grind)
theorem Pos.div {f g : Nat → Rat} (hg : Pos g) (bg : Bdd g) (h : Pos (fun k => f k * g k)) : Pos f := by
  obtain ⟨e, he, K, hK⟩ := hg
  obtain ⟨C, hC, hb⟩ := bg
  obtain ⟨d, hd, K', hK'⟩ := h
  obtain ⟨i, hi, hic⟩ := inv_pos' hC
  refine ⟨d * i, Rat.mul_pos hd hi, max K K', fun k hk => ?_⟩
  have a := hK k (by omega)
  have b := hK' k (by omega)
  have c := (hb k).2
  have hg0 : 0 < g k := by grind
  have hf0 : 0 ≤ f k := by
    by_cases h : 0 ≤ f k
    · exact h
    · have : 0 ≤ -f k * g k := Rat.mul_nonneg (by grind) (by grind)
      grind
  have h1 : 0 ≤ f k * (C - g k) := Rat.mul_nonneg hf0 (by grind)
  have h2 : 0 ≤ (f k * C - d) * i := Rat.mul_nonneg (by grind) (by grind)
  have h3 : f k * C * i = f k := by rw [Rat.mul_assoc, Rat.mul_comm C i, hic, Rat.mul_one]
  grind
theorem Nul.div {f g : Nat → Rat} (hg : Pos g) (h : Nul (fun k => f k * g k)) : Nul f := by
  intro δ hδ
  obtain ⟨e, he, K, hK⟩ := hg
  obtain ⟨K', hK'⟩ := h (δ * e) (Rat.mul_pos hδ he)
  refine ⟨max K K', fun k hk => ?_⟩
  have a := hK k (by omega)
  obtain ⟨b1, b2⟩ := hK' k (by omega)
  constructor
  · by_cases hh : -δ ≤ f k
    · exact hh
    · have h1 : 0 < (-δ - f k) * g k := Rat.mul_pos (by grind) (by grind)
      have h2 : 0 ≤ δ * (g k - e) := Rat.mul_nonneg (by grind) (by grind)
      grind
  · by_cases hh : f k ≤ δ
    · exact hh
    · have h1 : 0 < (f k - δ) * g k := Rat.mul_pos (by grind) (by grind)
      have h2 : 0 ≤ δ * (g k - e) := Rat.mul_nonneg (by grind) (by grind)
      grind
theorem Sig.div {f g : Nat → Rat} {s c : Int} (hg : Sig g s) (hs : s ≠ 0) (bg : Bdd g) (h : Sig (fun k => f k * g k) c) : Sig f (s * c) := by
  have pos : ∀ {g : Nat → Rat} {c : Int}, Pos g → Bdd g → Sig (fun k => f k * g k) c → Sig f c := by
    intro g c hg bg h
    rcases h with ⟨rfl, h⟩ | ⟨rfl, h⟩ | ⟨rfl, h⟩
    · exact .inl ⟨rfl, hg.div bg h⟩
    · exact .inr (.inl ⟨rfl, Nul.div hg h⟩)
    · exact .inr (.inr ⟨rfl, hg.div bg (h.congr (fun k => by grind))⟩)
  rcases hg with ⟨rfl, hg⟩ | ⟨rfl, hg⟩ | ⟨rfl, hg⟩
  · rw [Int.one_mul]
    exact pos hg bg h
  · simp at hs
  · rw [Int.neg_one_mul]
    exact pos hg bg.neg (h.neg.eqf (fun k => by grind))
theorem Sig.const (x : Rat) : Sig (fun _ => x) x.num.sign := by
  rw [sign_cmp]
  unfold cmpQ
  by_cases h : x < 0
  · rw [if_pos h]
    exact .inr (.inr ⟨rfl, -x, by grind, 0, fun _ _ => by grind⟩)
  · rw [if_neg h]
    by_cases h0 : x = 0
    · rw [if_pos h0]
      exact .inr (.inl ⟨rfl, fun e he => ⟨0, fun _ _ => by constructor <;> grind⟩⟩)
    · rw [if_neg h0]
      exact .inl ⟨rfl, x, by grind, 0, fun _ _ => by grind⟩
theorem Nul.zero : Nul (fun _ => 0) := fun e he => ⟨0, fun _ _ => by constructor <;> grind⟩
theorem Sig.cmp (x y : Rat) : Sig (fun _ => x - y) (cmpQ x y) := by
  have e : cmpQ x y = (x - y).num.sign := by
    rw [sign_cmp]
    unfold cmpQ
    grind
  rw [e]
  exact Sig.const _

/-- 2^-k. -/
def tk (k : Nat) : Rat := Rat.divInt 1 (2 ^ k)
theorem tk_mul (k : Nat) : tk k * ((2 ^ k : Int) : Rat) = 1 := by
  have hp : (2 : Int) ^ k ≠ 0 := by have := Int.pow_pos (n := (2 : Int)) (m := k) (by decide); omega
  unfold tk
  rw [← q_divInt1, Rat.divInt_mul_divInt, show (1 : Rat) = Rat.divInt 1 1 from rfl, Rat.divInt_eq_divInt_iff (by simpa using hp) (by decide)]
  grind
theorem two_pos (k : Nat) : (0 : Rat) < ((2 ^ k : Int) : Rat) := by
  have := Int.pow_pos (n := (2 : Int)) (m := k) (by decide)
  exact Rat.intCast_pos.2 this
theorem tk_pos (k : Nat) : 0 < tk k := by
  have h := tk_mul k
  have h2 := two_pos k
  by_cases hh : 0 < tk k
  · exact hh
  · have : 0 ≤ -tk k * ((2 ^ k : Int) : Rat) := Rat.mul_nonneg (by grind) (by grind)
    grind
theorem tk_nul : Nul tk := by
  intro e he
  refine ⟨e.den, fun k hk => ⟨by have := tk_pos k; grind, ?_⟩⟩
  by_cases hh : tk k ≤ e
  · exact hh
  · exfalso
    have h1 : 0 < (tk k - e) * ((2 ^ k : Int) : Rat) := Rat.mul_pos (by grind) (two_pos k)
    have h2 := tk_mul k
    have hlt : (e.den : Int) ≤ 2 ^ k := by
      have : e.den < 2 ^ e.den := Nat.lt_two_pow_self
      have h3 : (2 : Nat) ^ e.den ≤ 2 ^ k := Nat.pow_le_pow_right (by decide) hk
      have : e.den ≤ 2 ^ k := by omega
      exact_mod_cast this
    have h3 : ((e.den : Int) : Rat) ≤ ((2 ^ k : Int) : Rat) := Rat.intCast_le_intCast.2 hlt
    have h4 : 0 ≤ e * (((2 ^ k : Int) : Rat) - ((e.den : Int) : Rat)) := Rat.mul_nonneg (by grind) (by grind)
    have h5 : e * ((e.den : Int) : Rat) = ((e.num : Int) : Rat) := by
      rw [← q_divInt1, ← q_divInt1]
      conv => lhs; rw [← Rat.num_divInt_den e]
      rw [Rat.divInt_mul_divInt, Rat.divInt_eq_divInt_iff (by have := e.den_pos; simp; omega) (by decide)]
      simp
    have h6 : (1 : Rat) ≤ ((e.num : Int) : Rat) := by
      have : 0 < e.num := by rw [Rat.lt_iff] at he; simpa using he
      exact_mod_cast (show (1 : Int) ≤ e.num by omega)
    grind

/-- A quotient near a root. -/
def apx (m : Int) (k : Nat) : Rat := ((isq (m.natAbs * 4 ^ k) : Int) : Rat) * tk k
theorem apx_zero (k : Nat) : apx 0 k = 0 := by
  unfold apx
  rw [show (0 : Int).natAbs * 4 ^ k = 0 by simp, show isq 0 = 0 by decide]
  exact Rat.zero_mul _
theorem apx_spec {m : Int} (hm : 0 ≤ m) (k : Nat) : 0 ≤ apx m k ∧ apx m k * apx m k ≤ m ∧ (m : Rat) < (apx m k + tk k) * (apx m k + tk k) := by
  obtain ⟨h1, h2⟩ := isq_spec (m.natAbs * 4 ^ k)
  unfold apx
  generalize isq (m.natAbs * 4 ^ k) = R at *
  have ht := tk_pos k
  have hm2 := tk_mul k
  have e4 : (4 : Nat) ^ k = 2 ^ k * 2 ^ k := by rw [← Nat.mul_pow]
  have z1 : (R : Int) * R ≤ m * (2 ^ k * 2 ^ k) := by
    have : ((R * R : Nat) : Int) ≤ ((m.natAbs * 4 ^ k : Nat) : Int) := by exact_mod_cast h1
    rw [e4] at this
    push_cast at this
    rwa [show ((m.natAbs : Int)) = m by omega] at this
  have z2 : m * (2 ^ k * 2 ^ k) < ((R : Int) + 1) * (R + 1) := by
    have : ((m.natAbs * 4 ^ k : Nat) : Int) < (((R + 1) * (R + 1) : Nat) : Int) := by exact_mod_cast h2
    rw [e4] at this
    push_cast at this
    rwa [show ((m.natAbs : Int)) = m by omega] at this
  have q1 : ((R : Int) : Rat) * ((R : Int) : Rat) ≤ (m : Rat) * (((2 ^ k : Int) : Rat) * ((2 ^ k : Int) : Rat)) := by
    rw [← Rat.intCast_mul, ← Rat.intCast_mul, ← Rat.intCast_mul]
    exact Rat.intCast_le_intCast.2 z1
  have q2 : (m : Rat) * (((2 ^ k : Int) : Rat) * ((2 ^ k : Int) : Rat)) < (((R : Int) : Rat) + 1) * (((R : Int) : Rat) + 1) := by
    have : ((R : Int) : Rat) + 1 = (((R : Int) + 1 : Int) : Rat) := by rw [Rat.intCast_add]; rfl
    rw [this, ← Rat.intCast_mul, ← Rat.intCast_mul, ← Rat.intCast_mul]
    exact Rat.intCast_lt_intCast.2 z2
  have hR : (0 : Rat) ≤ ((R : Int) : Rat) := by exact_mod_cast Int.natCast_nonneg R
  generalize ((R : Int) : Rat) = r at *
  generalize ((2 ^ k : Int) : Rat) = w at *
  generalize tk k = t at *
  have htt : 0 < t * t := Rat.mul_pos ht ht
  have one : t * t * (w * w) = 1 := by
    have : t * t * (w * w) = (t * w) * (t * w) := by grind
    rw [this, hm2]
    grind
  refine ⟨Rat.mul_nonneg hR (by grind), ?_, ?_⟩
  · have h := Rat.mul_nonneg (show 0 ≤ (m : Rat) * (w * w) - r * r by grind) (show 0 ≤ t * t by grind)
    have e : ((m : Rat) * (w * w) - r * r) * (t * t) = m * (t * t * (w * w)) - r * t * (r * t) := by grind
    rw [e, one] at h
    grind
  · have h := Rat.mul_pos (show 0 < (r + 1) * (r + 1) - (m : Rat) * (w * w) by grind) htt
    have e : ((r + 1) * (r + 1) - (m : Rat) * (w * w)) * (t * t) = (r * t + t) * (r * t + t) - m * (t * t * (w * w)) := by grind
    rw [e, one] at h
    grind

theorem apx_bdd {m : Int} (hm : 0 ≤ m) : Bdd (apx m) := by
  refine ⟨(m : Rat) + 1, ?_, fun k => ?_⟩
  · have : (0 : Rat) ≤ (m : Rat) := by exact_mod_cast hm
    grind
  · obtain ⟨h1, h2, _⟩ := apx_spec hm k
    have : (0 : Rat) ≤ (m : Rat) := by exact_mod_cast hm
    refine ⟨by grind, ?_⟩
    by_cases h : apx m k ≤ (m : Rat) + 1
    · exact h
    · have h3 : 0 ≤ (apx m k - 1) * apx m k := Rat.mul_nonneg (by grind) h1
      grind
theorem tk_le1 (k : Nat) : tk k ≤ 1 := by
  by_cases h : tk k ≤ 1
  · exact h
  · have h1 := tk_mul k
    have h2 : (1 : Rat) ≤ ((2 ^ k : Int) : Rat) := by
      have := Int.pow_pos (n := (2 : Int)) (m := k) (by decide)
      exact_mod_cast (show (1 : Int) ≤ 2 ^ k by omega)
    have h3 : 0 ≤ (tk k - 1) * (((2 ^ k : Int) : Rat) - 1) := Rat.mul_nonneg (by grind) (by grind)
    grind
theorem apx_nul {m : Int} (hm : 0 ≤ m) : Nul (fun k => apx m k * apx m k - m) := by
  intro e he
  have hm' : (0 : Rat) ≤ (m : Rat) := by exact_mod_cast hm
  obtain ⟨d, hd, hdc⟩ := inv_pos' (c := 2 * ((m : Rat) + 1) + 1) (by grind)
  obtain ⟨K, hK⟩ := tk_nul (e * d) (Rat.mul_pos he hd)
  refine ⟨K, fun k hk => ?_⟩
  obtain ⟨h1, h2, h3⟩ := apx_spec hm k
  have ht := tk_pos k
  have ht1 := tk_le1 k
  have hle := (hK k hk).2
  refine ⟨?_, by grind⟩
  have ha : apx m k ≤ (m : Rat) + 1 := by
    by_cases h : apx m k ≤ (m : Rat) + 1
    · exact h
    · have h3 : 0 ≤ (apx m k - 1) * apx m k := Rat.mul_nonneg (by grind) h1
      grind
  show -e ≤ apx m k * apx m k - (m : Rat)
  generalize apx m k = a at *
  generalize tk k = t at *
  have g1 : 0 ≤ (m + 1 - a) * t := Rat.mul_nonneg (by grind) (by grind)
  have g2 : 0 ≤ t * (1 - t) := Rat.mul_nonneg (by grind) (by grind)
  have s1 : (m : Rat) - a * a ≤ (2 * ((m : Rat) + 1) + 1) * t := by grind
  have s2 : (2 * ((m : Rat) + 1) + 1) * t ≤ e := by
    have g3 : 0 ≤ (e * d - t) * (2 * ((m : Rat) + 1) + 1) := Rat.mul_nonneg (by grind) (by grind)
    have g4 : e * d * (2 * ((m : Rat) + 1) + 1) = e := by rw [Rat.mul_assoc, hdc, Rat.mul_one]
    generalize 2 * ((m : Rat) + 1) + 1 = c at *
    clear g1 g2 h3 h2 ha s1 hK
    have g5 : (e * d - t) * c = e * d * c - c * t := by grind
    rw [g5, g4] at g3
    grind
  clear g1 g2 h3 hdc
  grind
theorem apx_pos {m : Int} (hm : 0 < m) : Pos (apx m) := by
  refine ⟨1, by decide +kernel, 0, fun k _ => ?_⟩
  obtain ⟨h1, h2⟩ := isq_spec (m.natAbs * 4 ^ k)
  unfold apx
  have e4 : (4 : Nat) ^ k = 2 ^ k * 2 ^ k := by rw [← Nat.mul_pow]
  have hge : 2 ^ k ≤ isq (m.natAbs * 4 ^ k) := by
    by_cases h : 2 ^ k ≤ isq (m.natAbs * 4 ^ k)
    · exact h
    · have g1 : (isq (m.natAbs * 4 ^ k) + 1) * (isq (m.natAbs * 4 ^ k) + 1) ≤ 2 ^ k * 2 ^ k := Nat.mul_le_mul (by omega) (by omega)
      have g2 : 1 * 4 ^ k ≤ m.natAbs * 4 ^ k := Nat.mul_le_mul_right _ (by omega)
      omega
  have h3 : ((2 ^ k : Int) : Rat) ≤ ((isq (m.natAbs * 4 ^ k) : Int) : Rat) := Rat.intCast_le_intCast.2 (by exact_mod_cast hge)
  have h4 : 0 ≤ (((isq (m.natAbs * 4 ^ k) : Int) : Rat) - ((2 ^ k : Int) : Rat)) * tk k := Rat.mul_nonneg (by grind) (by have := tk_pos k; grind)
  have h5 := tk_mul k
  grind
/-- A root's sign, times something. -/
theorem sig_times {m : Int} (hm : 0 ≤ m) {f : Nat → Rat} {t : Int} (h : Sig f t) (bf : Bdd f) : Sig (fun k => f k * apx m k) (if m.sign = 0 then 0 else t) := by
  by_cases h0 : m = 0
  · subst h0
    rw [if_pos (by rfl)]
    exact .inr (.inl ⟨rfl, Nul.zero.congr (fun k => by rw [apx_zero, Rat.mul_zero])⟩)
  · rw [if_neg (by rw [Int.sign_eq_one_of_pos (by omega)]; decide)]
    have := h.mul (.inl ⟨rfl, apx_pos (m := m) (by omega)⟩) bf (apx_bdd hm)
    rwa [Int.mul_one] at this
theorem Sig.tri {f : Nat → Rat} {s : Int} (h : Sig f s) : s = 1 ∨ s = 0 ∨ s = -1 := by
  rcases h with ⟨h, _⟩ | ⟨h, _⟩ | ⟨h, _⟩ <;> omega
/-- Of two numbers, and of what is left of their squares. -/
theorem sig_two {f g : Nat → Rat} {s t c : Int} (hf : Sig f s) (hg : Sig g t) (bf : Bdd f) (bg : Bdd g) (hc : Sig (fun k => f k * f k - g k * g k) c) :
    Sig (fun k => f k + g k) (if t = 0 ∨ s = t then s else if s = 0 then t else s * c) := by
  by_cases h1 : t = 0 ∨ s = t
  · rw [if_pos h1]
    exact hf.add hg h1
  · rw [if_neg h1]
    by_cases h2 : s = 0
    · rw [if_pos h2]
      exact (hg.add hf (.inl h2)).eqf (fun k => by grind)
    · rw [if_neg h2]
      have h3 : -t = s := by
        have := hf.tri
        have := hg.tri
        omega
      have hd : Sig (fun k => f k + -g k) s := hf.add hg.neg (.inr h3.symm)
      exact hd.div h2 (bf.add bg.neg) (hc.eqf (fun k => by grind))

def v1 (x y : Rat) (m : Int) (k : Nat) : Rat := x + y * apx m k
theorem v1_bdd {m : Int} (hm : 0 ≤ m) (x y : Rat) : Bdd (v1 x y m) := (Bdd.const x).add ((Bdd.const y).mul (apx_bdd hm))
theorem sig1 {m : Int} (hm : 0 ≤ m) (x y : Rat) : Sig (v1 x y m) (sg1 x y m) := by
  have hy := sig_times hm (Sig.const y) (Bdd.const y)
  refine (sig_two (Sig.const x) hy (Bdd.const x) ((Bdd.const y).mul (apx_bdd hm)) (c := cmpQ (x * x) (y * y * m)) ?_)
  refine (Sig.cmp (x * x) (y * y * m)).congr ?_
  exact ((apx_nul hm).mul (Bdd.const (-(y * y)))).congr (fun k => by grind)
def Sn.v (S : Sn) (k : Nat) : Rat := v1 S.p S.q S.m k + v1 S.r S.s S.m k * apx S.n k
theorem Sn.v_bdd (S : Sn) (hm : 0 ≤ S.m) (hn : 0 ≤ S.n) : Bdd S.v := (v1_bdd hm _ _).add ((v1_bdd hm _ _).mul (apx_bdd hn))
theorem sig2 (S : Sn) (hm : 0 ≤ S.m) (hn : 0 ≤ S.n) : Sig S.v S.sg := by
  have hg := sig_times hn (sig1 hm S.r S.s) (v1_bdd hm _ _)
  refine (sig_two (sig1 hm S.p S.q) hg (v1_bdd hm _ _) ((v1_bdd hm _ _).mul (apx_bdd hn)) (c := sg1 (S.p * S.p + S.m * S.q * S.q - S.n * (S.r * S.r + S.m * S.s * S.s)) (2 * (S.p * S.q - S.n * S.r * S.s)) S.m) ?_)
  refine (sig1 hm _ _).congr ?_
  have n1 := (apx_nul hm).mul (Bdd.const (S.q * S.q - S.n * S.s * S.s))
  have n2 := (apx_nul hn).mul (((v1_bdd hm S.r S.s).mul (v1_bdd hm S.r S.s)).neg)
  exact (n1.add n2).congr (fun k => by unfold v1; grind)
/-- Products have the product of the signs. -/
theorem Sn.sg_mul (S T : Sn) (hm : 0 ≤ S.m) (hn : 0 ≤ S.n) (em : T.m = S.m) (en : T.n = S.n) : (S.mul T).sg = S.sg * T.sg := by
  have h1 := (sig2 S hm hn).mul (sig2 T (by omega) (by omega)) (S.v_bdd hm hn) (T.v_bdd (by omega) (by omega))
  refine (sig2 (S.mul T) hm hn).unique (h1.congr ?_)
  have n1 := (apx_nul hm).mul (((Bdd.const (-(S.q * T.q))).add ((Bdd.const (-(S.q * T.s + S.s * T.q))).mul (apx_bdd hn))).add ((Bdd.const (-(S.s * T.s))).mul ((apx_bdd hn).mul (apx_bdd hn))))
  have n2 := (apx_nul hn).mul ((Bdd.const (-(S.r * T.r + S.m * (S.s * T.s)))).add ((Bdd.const (-(S.r * T.s + S.s * T.r))).mul (apx_bdd hm)))
  exact (n1.add n2).congr (fun k => by simp only [Sn.v, v1, Sn.mul, em, en]; grind)
theorem Sn.sg_neg (S : Sn) (hm : 0 ≤ S.m) (hn : 0 ≤ S.n) : S.neg.sg = -S.sg :=
  (sig2 S.neg hm hn).unique ((sig2 S hm hn).neg.eqf (fun k => by simp only [Sn.v, v1, Sn.neg]; grind))
end Go.Proofs.YtabpaiboodllbaaGreat
