/- The sign that the code reckons is the sign of the real number: rows of quotients that come near it. The floor and the nearest whole number of a number with two roots: what they are, plain laws. The floor and the nearest whole number of a number with two roots: the contracts, whichever number it is. A number of a field out of one quotient; nearest whole numbers: plain laws. -/
import Derived.Test.YtlpfkbkpnljieaaGreatSu
set_option linter.unusedSimpArgs false
set_option linter.unusedVariables false
namespace Go.Proofs.YtlpfkbkpnljieaaGreat
open Go.RowKit Go.IntWalk

/-- A row of quotients stays above some number above 0. -/
def Pos (f : Nat → Rat) : Prop := ∃ e : Rat, 0 < e ∧ ∃ K, ∀ k, K ≤ k → e ≤ f k
/-- It comes as near to 0 as one likes. -/
def Nul (f : Nat → Rat) : Prop := ∀ e : Rat, 0 < e → ∃ K, ∀ k, K ≤ k → -e ≤ f k ∧ f k ≤ e
def Bdd (f : Nat → Rat) : Prop := ∃ C : Rat, 0 < C ∧ ∀ k, -C ≤ f k ∧ f k ≤ C
def Sig (f : Nat → Rat) (s : Int) : Prop := (s = 1 ∧ Pos f) ∨ (s = 0 ∧ Nul f) ∨ (s = -1 ∧ Pos (fun k => -f k))

theorem half_pos {e : Rat} (h : 0 < e) : 0 < e * Rat.divInt 1 2 ∧ e * Rat.divInt 1 2 + e * Rat.divInt 1 2 = e := by
  have h2 : Rat.divInt 1 2 + Rat.divInt 1 2 = 1 := by decide +kernel
  have h3 : (0 : Rat) < Rat.divInt 1 2 := by decide +kernel
  exact ⟨Rat.mul_pos h h3, by rw [← Rat.mul_add, h2, Rat.mul_one]⟩
theorem Pos.congr {f g : Nat → Rat} (h : Pos f) (e : ∀ k, f k = g k) : Pos g := by rwa [funext e] at h
theorem Nul.congr {f g : Nat → Rat} (h : Nul f) (e : ∀ k, f k = g k) : Nul g := by rwa [funext e] at h
theorem Bdd.congr {f g : Nat → Rat} (h : Bdd f) (e : ∀ k, f k = g k) : Bdd g := by rwa [funext e] at h
theorem Sig.eqf {f g : Nat → Rat} {s : Int} (h : Sig f s) (e : ∀ k, f k = g k) : Sig g s := by rwa [funext e] at h
theorem Pos.add_nul {f g : Nat → Rat} (h : Pos f) (h' : Nul g) : Pos (fun k => f k + g k) := by
  obtain ⟨e, he, K, hK⟩ := h
  obtain ⟨h1, h2⟩ := half_pos he
  obtain ⟨K', hK'⟩ := h' _ h1
  refine ⟨_, h1, max K K', fun k hk => ?_⟩
  have a := hK k (by omega)
  have b := (hK' k (by omega)).1
  grind
theorem Pos.add {f g : Nat → Rat} (h : Pos f) (h' : Pos g) : Pos (fun k => f k + g k) := by
  obtain ⟨e, he, K, hK⟩ := h
  obtain ⟨e', he', K', hK'⟩ := h'
  refine ⟨e, he, max K K', fun k hk => ?_⟩
  have a := hK k (by omega)
  have b := hK' k (by omega)
  grind
theorem Pos.mul {f g : Nat → Rat} (h : Pos f) (h' : Pos g) : Pos (fun k => f k * g k) := by
  obtain ⟨e, he, K, hK⟩ := h
  obtain ⟨e', he', K', hK'⟩ := h'
  refine ⟨e * e', Rat.mul_pos he he', max K K', fun k hk => ?_⟩
  have a := hK k (by omega)
  have b := hK' k (by omega)
  have h1 : 0 ≤ (f k - e) * g k := Rat.mul_nonneg (by grind) (by grind)
  have h2 : 0 ≤ e * (g k - e') := Rat.mul_nonneg (by grind) (by grind)
  grind
theorem Nul.neg {f : Nat → Rat} (h : Nul f) : Nul (fun k => -f k) := by
  intro e he
  obtain ⟨K, hK⟩ := h e he
  exact ⟨K, fun k hk => by have := hK k hk; grind⟩
theorem Nul.add {f g : Nat → Rat} (h : Nul f) (h' : Nul g) : Nul (fun k => f k + g k) := by
  intro e he
  obtain ⟨h1, h2⟩ := half_pos he
  obtain ⟨K, hK⟩ := h _ h1
  obtain ⟨K', hK'⟩ := h' _ h1
  refine ⟨max K K', fun k hk => ?_⟩
  have a := hK k (by omega)
  have b := hK' k (by omega)
  grind
theorem inv_pos' {c : Rat} (h : 0 < c) : ∃ d : Rat, 0 < d ∧ d * c = 1 := by
  refine ⟨c⁻¹, Rat.inv_pos.2 h, Rat.inv_mul_cancel _ (by grind)⟩
theorem Nul.mul {f g : Nat → Rat} (h : Nul f) (h' : Bdd g) : Nul (fun k => f k * g k) := by
  intro e he
  obtain ⟨C, hC, hg⟩ := h'
  obtain ⟨d, hd, hdc⟩ := inv_pos' hC
  obtain ⟨K, hK⟩ := h (e * d) (Rat.mul_pos he hd)
  refine ⟨K, fun k hk => ?_⟩
  obtain ⟨a1, a2⟩ := hK k hk
  obtain ⟨b1, b2⟩ := hg k
  have hb : e * d * C = e := by rw [Rat.mul_assoc, hdc, Rat.mul_one]
  have h1 : 0 ≤ (e * d - f k) * (C - g k) := Rat.mul_nonneg (by grind) (by grind)
  have h2 : 0 ≤ (e * d - f k) * (C + g k) := Rat.mul_nonneg (by grind) (by grind)
  have h3 : 0 ≤ (e * d + f k) * (C - g k) := Rat.mul_nonneg (by grind) (by grind)
  have h4 : 0 ≤ (e * d + f k) * (C + g k) := Rat.mul_nonneg (by grind) (by grind)
  constructor <;> grind
theorem Bdd.const (x : Rat) : Bdd (fun _ => x) := by
  by_cases h : 0 ≤ x
  · exact ⟨x + 1, by grind, fun k => by constructor <;> grind⟩
  · exact ⟨1 - x, by grind, fun k => by constructor <;> grind⟩
theorem Bdd.add {f g : Nat → Rat} (h : Bdd f) (h' : Bdd g) : Bdd (fun k => f k + g k) := by
  obtain ⟨C, hC, hf⟩ := h
  obtain ⟨D, hD, hg⟩ := h'
  exact ⟨C + D, by grind, fun k => by have := hf k; have := hg k; constructor <;> grind⟩
theorem Bdd.neg {f : Nat → Rat} (h : Bdd f) : Bdd (fun k => -f k) := by
  obtain ⟨C, hC, hf⟩ := h
  exact ⟨C, hC, fun k => by have := hf k; constructor <;> grind⟩
theorem Bdd.mul {f g : Nat → Rat} (h : Bdd f) (h' : Bdd g) : Bdd (fun k => f k * g k) := by
  obtain ⟨C, hC, hf⟩ := h
  obtain ⟨D, hD, hg⟩ := h'
  refine ⟨C * D, Rat.mul_pos hC hD, fun k => ?_⟩
  obtain ⟨a1, a2⟩ := hf k
  obtain ⟨b1, b2⟩ := hg k
  have h1 : 0 ≤ (C - f k) * (D - g k) := Rat.mul_nonneg (by grind) (by grind)
  have h2 : 0 ≤ (C - f k) * (D + g k) := Rat.mul_nonneg (by grind) (by grind)
  have h3 : 0 ≤ (C + f k) * (D - g k) := Rat.mul_nonneg (by grind) (by grind)
  have h4 : 0 ≤ (C + f k) * (D + g k) := Rat.mul_nonneg (by grind) (by grind)
  constructor <;> grind
theorem Sig.neg {f : Nat → Rat} {s : Int} (h : Sig f s) : Sig (fun k => -f k) (-s) := by
  rcases h with ⟨rfl, h⟩ | ⟨rfl, h⟩ | ⟨rfl, h⟩
  · exact .inr (.inr ⟨rfl, h.congr (fun k => by grind)⟩)
  · exact .inr (.inl ⟨rfl, h.neg⟩)
  · exact .inl ⟨rfl, h⟩
theorem Sig.add_nul {f g : Nat → Rat} {s : Int} (h : Sig f s) (h' : Nul g) : Sig (fun k => f k + g k) s := by
  rcases h with ⟨rfl, h⟩ | ⟨rfl, h⟩ | ⟨rfl, h⟩
  · exact .inl ⟨rfl, h.add_nul h'⟩
  · exact .inr (.inl ⟨rfl, h.add h'⟩)
  · exact .inr (.inr ⟨rfl, (h.add_nul h'.neg).congr (fun k => by grind)⟩)
theorem Sig.add {f g : Nat → Rat} {s t : Int} (h : Sig f s) (h' : Sig g t) (hst : t = 0 ∨ s = t) : Sig (fun k => f k + g k) s := by
  rcases h' with ⟨rfl, h'⟩ | ⟨rfl, h'⟩ | ⟨rfl, h'⟩
  · rcases h with ⟨rfl, h⟩ | ⟨rfl, h⟩ | ⟨rfl, h⟩
    · exact .inl ⟨rfl, h.add h'⟩
    · simp at hst
    · simp at hst
  · exact h.add_nul h'
  · rcases h with ⟨rfl, h⟩ | ⟨rfl, h⟩ | ⟨rfl, h⟩
    · simp at hst
    · simp at hst
    · exact .inr (.inr ⟨rfl, (h.add h').congr (fun k => by grind)⟩)
theorem Sig.mul {f g : Nat → Rat} {s t : Int} (h : Sig f s) (h' : Sig g t) (bf : Bdd f) (bg : Bdd g) : Sig (fun k => f k * g k) (s * t) := by
  rcases h with ⟨rfl, h⟩ | ⟨rfl, h⟩ | ⟨rfl, h⟩ <;> rcases h' with ⟨rfl, h'⟩ | ⟨rfl, h'⟩ | ⟨rfl, h'⟩
  · exact .inl ⟨rfl, h.mul h'⟩
  · exact .inr (.inl ⟨rfl, (h'.mul bf).congr (fun k => by grind)⟩)
  · exact .inr (.inr ⟨rfl, (h.mul h').congr (fun k => by grind)⟩)
  · exact .inr (.inl ⟨rfl, h.mul bg⟩)
  · exact .inr (.inl ⟨rfl, h.mul bg⟩)
  · exact .inr (.inl ⟨rfl, h.mul bg⟩)
  · exact .inr (.inr ⟨rfl, (h.mul h').congr (fun k => by grind)⟩)
  · exact .inr (.inl ⟨rfl, (h'.mul bf).congr (fun k => by grind)⟩)
  · exact .inl ⟨rfl, (h.mul h').congr (fun k => by grind)⟩
theorem Sig.congr {f g : Nat → Rat} {s : Int} (h : Sig f s) (hn : Nul (fun k => g k - f k)) : Sig g s := (h.add_nul hn).eqf (fun k => by grind)
theorem Sig.const (x : Rat) : Sig (fun _ => x) x.num.sign := by
  rw [sign_cmp]
  unfold cmpQ
  by_cases h : x < 0
  · rw [if_pos h]
    exact .inr (.inr ⟨rfl, -x, by grind, 0, fun _ _ => by grind⟩)
  · rw [if_neg h]
    by_cases h0 : x = 0
    · rw [if_pos h0]
      exact .inr (.inl ⟨rfl, fun e he => ⟨0, fun _ _ => by constructor <;> grind⟩⟩)
    · rw [if_neg h0]
      exact .inl ⟨rfl, x, by grind, 0, fun _ _ => by grind⟩
theorem Nul.zero : Nul (fun _ => 0) := fun e he => ⟨0, fun _ _ => by constructor <;> grind⟩
/-- 2^-k. -/
def tk (k : Nat) : Rat := Rat.divInt 1 (2 ^ k)
theorem two_pos (k : Nat) : (0 : Rat) < ((2 ^ k : Int) : Rat) := by
  have := Int.pow_pos (n := (2 : Int)) (m := k) (by decide)
  exact Rat.intCast_pos.2 this
/-- A quotient near a root. -/
def apx (m : Int) (k : Nat) : Rat := ((isq (m.natAbs * 4 ^ k) : Int) : Rat) * tk k
def v1 (x y : Rat) (m : Int) (k : Nat) : Rat := x + y * apx m k
def Sn.v (S : Sn) (k : Nat) : Rat := v1 S.p S.q S.m k + v1 S.r S.s S.m k * apx S.n k
end Go.Proofs.YtlpfkbkpnljieaaGreat

set_option linter.unusedSimpArgs false
set_option linter.unusedVariables false
namespace Go.Proofs.YtlpfkbkpnljieaaGreat
open Go.RowKit Go.IntWalk

theorem rat_den (e : Rat) : e * ((e.den : Int) : Rat) = ((e.num : Int) : Rat) := by
  rw [← q_divInt1, ← q_divInt1]
  conv => lhs; rw [← Rat.num_divInt_den e]
  rw [Rat.divInt_mul_divInt, Rat.divInt_eq_divInt_iff (by have := e.den_pos; simp; omega) (by decide)]
  simp
theorem nonneg_of_mul {a d : Rat} (hd : 0 < d) (h : 0 ≤ a * d) : 0 ≤ a := by
  by_cases hh : 0 ≤ a
  · exact hh
  · have := Rat.mul_pos (show 0 < -a by grind) hd
    grind
theorem natCast_mul' (a b : Nat) : (((a * b : Nat) : Int) : Rat) = ((a : Int) : Rat) * ((b : Int) : Rat) := by
  rw [Int.natCast_mul, Rat.intCast_mul]
theorem nat_le_rat {a b : Nat} (h : a ≤ b) : ((a : Int) : Rat) ≤ ((b : Int) : Rat) := Rat.intCast_le_intCast.2 (by exact_mod_cast h)
/-- The greatest whole number that is not above it. -/
def Sn.fl (S : Sn) : Int := if (S.lessq S.low).sg < 0 then S.low - 1 else if (S.lessq (S.low + 1)).sg < 0 then S.low else S.low + 1
/-- The nearest whole number. -/
def Sn.nr (S : Sn) : Int := if (S.half.lessq S.half.fl).sg = 0 ∧ (S.half.fl % 2).sign ≠ 0 then S.half.fl - 1 else S.half.fl
end Go.Proofs.YtlpfkbkpnljieaaGreat

set_option linter.unusedSimpArgs false
set_option linter.unusedVariables false
namespace Go.Proofs.YtlpfkbkpnljieaaGreat
open Go.RowKit Go.IntWalk

section
variable {fin : VS → List Fact → Prop} {Γ : List Fact} {L M K : Nat}
end
end Go.Proofs.YtlpfkbkpnljieaaGreat

set_option linter.unusedSimpArgs false
set_option linter.unusedVariables false
namespace Go.Proofs.YtlpfkbkpnljieaaGreat
open Go.RowKit Go.IntWalk

section
variable {fin : VS → List Fact → Prop} {Γ : List Fact} {L M K : Nat}
end

end Go.Proofs.YtlpfkbkpnljieaaGreat
