/- Where places of other fields come to: the plain law. -/
import Derived.Test.YtaafmafdnnjmdaaFo
set_option linter.unusedSimpArgs false
set_option linter.unusedVariables false
namespace Go.Proofs.Ytaafmafdnnjmdaa
open Go.RowKit Go.IntWalk

def Eqv (f g : Nat → Rat) : Prop := Nul (fun k => f k - g k)
theorem Eqv.of {f g : Nat → Rat} (h : ∀ k, f k = g k) : Eqv f g := Nul.of_eq (fun k => by rw [h k]; grind)
theorem Eqv.symm {f g : Nat → Rat} (h : Eqv f g) : Eqv g f := (Nul.neg h).congr (fun k => by grind)
theorem Eqv.trans {f g e : Nat → Rat} (h : Eqv f g) (h' : Eqv g e) : Eqv f e := (Nul.add h h').congr (fun k => by grind)
theorem Eqv.add {f g p q : Nat → Rat} (h : Eqv f g) (h' : Eqv p q) : Eqv (fun k => f k + p k) (fun k => g k + q k) := (Nul.add h h').congr (fun k => by grind)
theorem Eqv.mul {f g p q : Nat → Rat} (h : Eqv f g) (h' : Eqv p q) (bp : Bdd p) (bg : Bdd g) : Eqv (fun k => f k * p k) (fun k => g k * q k) :=
  (Nul.add (Nul.mul h bp) (Nul.mul h' bg)).congr (fun k => by grind)
theorem rot_mn : ∀ (k : Nat) {m n : Int} {X Y : Sn}, X.m = m → X.n = n → Y.m = m → Y.n = n → (rot k X Y).1.m = m ∧ (rot k X Y).1.n = n ∧ (rot k X Y).2.m = m ∧ (rot k X Y).2.n = n
  | 0, _, _, _, _, h1, h2, h3, h4 => ⟨h1, h2, h3, h4⟩
  | k + 1, _, _, X, Y, h1, h2, h3, h4 => rot_mn k (X := Y.neg) (Y := X) h3 h4 h1 h2
theorem eight {o : Int} (h : 0 ≤ o ∧ o ≤ 7) : o = 0 ∨ o = 1 ∨ o = 2 ∨ o = 3 ∨ o = 4 ∨ o = 5 ∨ o = 6 ∨ o = 7 := by omega
theorem md.bq {a d b : Nat} {x : Rat} (h : md a d x) (hb : a + d + 1 ≤ b) : bq b x := by
  have h1 := rat_den x
  have hd : (0 : Rat) < ((x.den : Int) : Rat) := by exact_mod_cast (show (0 : Int) < x.den by have := x.den_pos; omega)
  have hD : ((x.den : Int) : Rat) ≤ tw d := nat_le_rat h.2.2
  have hl : ∀ n : Nat, n ≤ 2 ^ (a + d) → n < 2 ^ b := fun n hn => Nat.lt_of_lt_of_le (Nat.lt_of_le_of_lt hn (Nat.pow_lt_pow_right (by decide) (Nat.lt_succ_self _))) (pow_mono2 hb)
  have ta := tw_pos a
  have td := tw_pos d
  have p1 := Rat.mul_nonneg (show 0 ≤ tw a - x by have := h.2.1; grind) (Rat.le_of_lt hd)
  have p2 := Rat.mul_nonneg (show 0 ≤ tw a + x by have := h.1; grind) (Rat.le_of_lt hd)
  have p3 := Rat.mul_nonneg (Rat.le_of_lt ta) (show 0 ≤ tw d - ((x.den : Int) : Rat) by grind)
  have e := tw_add a d
  have g1 : ((x.num : Int) : Rat) ≤ ((((2 ^ (a + d) : Nat) : Int)) : Rat) := by
    show _ ≤ tw (a + d)
    grind
  have g2 : ((-x.num : Int) : Rat) ≤ ((((2 ^ (a + d) : Nat) : Int)) : Rat) := by
    show _ ≤ tw (a + d)
    rw [Rat.intCast_neg]
    grind
  refine ⟨hl _ ?_, hl _ (Nat.le_trans h.2.2 (pow_mono2 (Nat.le_add_left _ _)))⟩
  have g1 := Rat.intCast_le_intCast.1 g1
  have g2 := Rat.intCast_le_intCast.1 g2
  omega
theorem md.two : md 1 0 2 := md.int (a := 1) (z := 2) (by decide)
/-- Bounds of a number's parts. -/
def mS (a d : Nat) (S : Sn) : Prop := md a d S.p ∧ md a d S.q ∧ md a d S.r ∧ md a d S.s
theorem mS.bits {a d b : Nat} {S : Sn} (h : mS a d S) (hm : 0 ≤ S.m ∧ S.m ≤ 2) (hn : 0 ≤ S.n ∧ S.n ≤ 2) (hb : a + d + 1 ≤ b) (h2 : 2 ≤ b) : bS b S := by
  have k : ∀ {z : Int}, 0 ≤ z ∧ z ≤ 2 → z.natAbs < 2 ^ b := fun {z} hz => Nat.lt_of_lt_of_le (show z.natAbs < 2 ^ 2 by simp only [Nat.reducePow]; omega) (pow_mono2 h2)
  exact ⟨k hm, k hn, h.1.bq hb, h.2.1.bq hb, h.2.2.1.bq hb, h.2.2.2.bq hb⟩
end Go.Proofs.Ytaafmafdnnjmdaa
