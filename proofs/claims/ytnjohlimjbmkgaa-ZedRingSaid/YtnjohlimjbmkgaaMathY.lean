/- plain maths for the layer of whole numbers with a sign: no condition. -/
namespace Go.Proofs.Ytnjohlimjbmkgaa
/-- Euclid's walk: what the four multipliers' distances from 0 are. -/
def BzI (A B g h X Y U V : Nat) : Prop := g * U + h * X = B ∧ g * V + h * Y = A ∧ ((U = 0 ∧ V = 1 ∧ X = 1 ∧ Y = 0) ∨ (h < g ∧ ((X ≤ 1 ∧ Y ≤ 1) ∨ (X ≤ U ∧ Y ≤ V))))

theorem BzI.init (A B : Nat) : BzI A B A B 1 0 0 1 := ⟨by simp, by simp, .inl ⟨rfl, rfl, rfl, rfl⟩⟩

theorem BzI.step {A B g h X Y U V : Nat} (H : BzI A B g h X Y U V) (h0 : 0 < h) : BzI A B h (g % h) U V (X + g / h * U) (Y + g / h * V) := by
  obtain ⟨h1, h2, h3⟩ := H
  have hd := Nat.div_add_mod g h
  have hm := Nat.mod_lt g h0
  have e : ∀ a b : Nat, h * (a + g / h * b) + g % h * b = g * b + h * a := fun a b => by
    have : g * b = (h * (g / h) + g % h) * b := by rw [hd]
    rw [this, Nat.mul_add, Nat.add_mul, Nat.mul_assoc]; omega
  refine ⟨by rw [e]; exact h1, by rw [e]; exact h2, .inr ⟨hm, ?_⟩⟩
  by_cases hq : g / h = 0
  · have hlt : g < h := by
      rcases Nat.lt_or_ge g h with h' | h'
      · exact h'
      · have := Nat.div_pos h' h0; omega
    rcases h3 with ⟨rfl, rfl, rfl, rfl⟩ | ⟨h4, _⟩
    · left; omega
    · omega
  · right
    have hq' : 1 ≤ g / h := Nat.pos_of_ne_zero hq
    have e1 : U ≤ g / h * U := by simpa using Nat.mul_le_mul_right U hq'
    have e2 : V ≤ g / h * V := by simpa using Nat.mul_le_mul_right V hq'
    omega

theorem BzI.done {A B g X Y U V : Nat} (H : BzI A B g 0 X Y U V) : (X ≤ 1 ∧ Y ≤ 1) ∨ (X ≤ B ∧ Y ≤ A) := by
  obtain ⟨h1, h2, h3⟩ := H
  rcases h3 with ⟨rfl, rfl, rfl, rfl⟩ | ⟨h4, h5⟩
  · left; omega
  · rcases h5 with h5 | h5
    · exact .inl h5
    · right
      have e1 : U ≤ g * U := by simpa using Nat.mul_le_mul_right U h4
      have e2 : V ≤ g * V := by simpa using Nat.mul_le_mul_right V h4
      omega

theorem BzI.le {A B g h X Y U V : Nat} (H : BzI A B g h X Y U V) (h0 : 0 < h) : X ≤ B ∧ Y ≤ A := by
  obtain ⟨h1, h2, _⟩ := H
  have e1 : X ≤ h * X := by simpa using Nat.mul_le_mul_right X h0
  have e2 : Y ≤ h * Y := by simpa using Nat.mul_le_mul_right Y h0
  omega

/-- The walk with its signs: s is 1 or -1. -/
def BzS (A B g h : Nat) (x y u v : Int) : Prop := ∃ (s : Int) (X Y U V : Nat), (s = 1 ∨ s = -1) ∧ x = s * X ∧ y = -(s * Y) ∧ u = -(s * U) ∧ v = s * V ∧ BzI A B g h X Y U V ∧ (A : Int) * x + B * y = g ∧ (A : Int) * u + B * v = h

theorem BzS.init (A B : Nat) : BzS A B A B 1 0 0 1 := ⟨1, 1, 0, 0, 1, .inl rfl, by simp, by simp, by simp, by simp, BzI.init A B, by simp, by simp⟩

theorem BzS.step {A B g h : Nat} {x y u v : Int} (H : BzS A B g h x y u v) (h0 : 0 < h) :
    BzS A B h (g % h) u v (x - ((g / h : Nat) : Int) * u) (y - ((g / h : Nat) : Int) * v) := by
  obtain ⟨s, X, Y, U, V, hs, rfl, rfl, rfl, rfl, hI, h1, h2⟩ := H
  have hd : ((h : Int) * ((g / h : Nat) : Int) + ((g % h : Nat) : Int)) = g := by exact_mod_cast Nat.div_add_mod g h
  have hI' := hI.step h0
  generalize g / h = q at *
  generalize g % h = r at *
  refine ⟨-s, U, V, X + q * U, Y + q * V, by omega, ?_, ?_, ?_, ?_, hI', h2, ?_⟩
  · rw [Int.neg_mul]
  · rw [Int.neg_mul, Int.neg_neg]
  · push_cast
    rw [Int.mul_neg, Int.neg_mul, Int.neg_neg, Int.mul_add]
    have : (q : Int) * (s * (U : Int)) = s * (q * U) := by rw [Int.mul_left_comm]
    omega
  · push_cast
    rw [Int.neg_mul, Int.mul_add]
    have : (q : Int) * (s * (V : Int)) = s * (q * V) := by rw [Int.mul_left_comm]
    omega
  · rw [Int.mul_sub, Int.mul_sub, Int.mul_left_comm (A : Int) q, Int.mul_left_comm (B : Int) q]
    have : (q : Int) * ((A : Int) * -(s * ↑U)) + q * ((B : Int) * (s * ↑V)) = q * h := by rw [← Int.mul_add, h2]
    rw [Int.mul_comm] at hd
    omega

theorem BzS.le {A B g h : Nat} {x y u v : Int} (H : BzS A B g h x y u v) (h0 : 0 < h) : x.natAbs ≤ B ∧ y.natAbs ≤ A := by
  obtain ⟨s, X, Y, U, V, hs, rfl, rfl, rfl, rfl, hI, -, -⟩ := H
  have := hI.le h0
  rcases hs with rfl | rfl <;> simp [Int.natAbs_neg] <;> omega

theorem BzS.done {A B g : Nat} {x y u v : Int} (H : BzS A B g 0 x y u v) : (A : Int) * x + B * y = g ∧ ((x.natAbs ≤ 1 ∧ y.natAbs ≤ 1) ∨ (x.natAbs ≤ B ∧ y.natAbs ≤ A)) := by
  obtain ⟨s, X, Y, U, V, hs, rfl, rfl, rfl, rfl, hI, h1, -⟩ := H
  refine ⟨h1, ?_⟩
  have := hI.done
  rcases hs with rfl | rfl <;> simp [Int.natAbs_neg] <;> omega
end Go.Proofs.Ytnjohlimjbmkgaa
