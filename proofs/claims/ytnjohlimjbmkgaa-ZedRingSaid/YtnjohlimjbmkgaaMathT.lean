/- Decimal texts: plain maths. -/
import Derived.Test.YtnjohlimjbmkgaaMath
namespace Go.Proofs.Ytnjohlimjbmkgaa

/-- The decimal digits of a number, the lowest first. -/
def dl (x : Nat) : List Nat := if h : x = 0 then [] else x % 10 :: dl (x / 10)
termination_by x
decreasing_by exact Nat.div_lt_self (by omega) (by omega)

theorem dl_zero : dl 0 = [] := by unfold dl; simp
theorem dl_pos {x : Nat} (h : x ≠ 0) : dl x = x % 10 :: dl (x / 10) := by rw [dl]; simp [h]

/-- The decimal text of a number, as numbers of bytes. -/
def dec (x : Nat) : List Nat := if x = 0 then [48] else ((dl x).map (· + 48)).reverse

/-- The number of a row of digits, the highest first. -/
def dval (l : List Nat) : Nat := l.foldl (fun n d => 10 * n + (d - 48)) 0

theorem dval_append (l : List Nat) (d : Nat) : dval (l ++ [d]) = 10 * dval l + (d - 48) := by simp [dval]

/-- Digits alone. -/
def Digs (l : List Nat) : Prop := ∀ d ∈ l, 48 ≤ d ∧ d ≤ 57

/-- A text that is read. -/
def Good (l : List Nat) : Prop := l ≠ [] ∧ l.length ≤ 4096 ∧ Digs l ∧ (1 < l.length → l.head? ≠ some 48)

theorem dval_pos {a : Nat} {l : List Nat} (ha : 49 ≤ a) (l' : List Nat) (h : l = a :: l') : 0 < dval l := by
  subst h
  have : ∀ (l : List Nat) (n : Nat), 0 < n → 0 < l.foldl (fun n d => 10 * n + (d - 48)) n := by
    intro l
    induction l with
    | nil => intro n h; exact h
    | cons b l ih => intro n h; exact ih (10 * n + (b - 48)) (by omega)
  unfold dval
  simp only [List.foldl_cons]
  exact this l' (10 * 0 + (a - 48)) (by omega)

/-- What is read, written again: without a 0 in front, more than one digit or not. -/
theorem dl_dval : ∀ (n : Nat) (l : List Nat), l.length = n → Digs l → (∃ a l', l = a :: l' ∧ 49 ≤ a) → ((dl (dval l)).map (· + 48)).reverse = l := by
  intro n
  induction n with
  | zero => intro l h _ ⟨a, l', h', _⟩; subst h'; simp at h
  | succ n ih =>
    intro l hl hd ⟨a, l', h', ha⟩
    obtain ⟨m, d, rfl⟩ : ∃ m d, l = m ++ [d] := ⟨l.dropLast, l.getLast (by rw [h']; exact List.cons_ne_nil _ _), (List.dropLast_concat_getLast _).symm⟩
    have hdd := hd d (by simp)
    have hp := dval_pos ha l' h'
    rw [dval_append] at hp ⊢
    rw [dl_pos (by omega), show (10 * dval m + (d - 48)) % 10 = d - 48 by omega, show (10 * dval m + (d - 48)) / 10 = dval m by omega]
    rw [List.map_cons, List.reverse_cons, show d - 48 + 48 = d by omega]
    congr 1
    rcases m with _ | ⟨b, m'⟩
    · simp [dval, dl_zero]
    · refine ih (b :: m') (by simp at hl ⊢; omega) (fun x hx => hd x (by simp at hx ⊢; rcases hx with h | h <;> simp [h])) ⟨b, m', rfl, ?_⟩
      simp only [List.cons_append, List.cons.injEq] at h'
      omega

theorem dec_dval {l : List Nat} (h : Good l) : dec (dval l) = l := by
  obtain ⟨h1, h2, h3, h4⟩ := h
  rcases l with _ | ⟨a, l⟩
  · exact absurd rfl h1
  have ha := h3 a (by simp)
  by_cases h48 : a = 48
  · subst h48
    rcases l with _ | ⟨b, l⟩
    · simp [dval, dec]
    · exact absurd rfl (h4 (by simp))
  · have hp := dval_pos (a := a) (by omega) l rfl
    unfold dec
    rw [if_neg (by omega)]
    exact dl_dval _ _ rfl h3 ⟨a, l, rfl, by omega⟩

/-- What the inner loop still has to bring: y times the power, and r below it. -/
def TextHid (y i r : Nat) : Nat := y * 10 ^ (9 - i) + r

theorem text_step {y i r : Nat} (hi : i < 9) (hr : r < 10 ^ (9 - i)) (hn : r ≠ 0 ∨ y ≠ 0) :
    dl (y * 10 ^ (9 - i) + r) = r % 10 :: dl (y * 10 ^ (9 - (i + 1)) + r / 10) ∧ r / 10 < 10 ^ (9 - (i + 1)) := by
  obtain ⟨P, hP⟩ : ∃ P, P = 10 ^ (9 - (i + 1)) := ⟨_, rfl⟩
  have e : 10 ^ (9 - i) = 10 * P := by rw [hP, show 9 - i = (9 - (i + 1)) + 1 by omega, Nat.pow_succ, Nat.mul_comm]
  have hPp : 0 < P := by rw [hP]; exact Nat.pow_pos (by omega)
  rw [← hP]
  rw [e] at hr ⊢
  have e2 : y * (10 * P) = 10 * (y * P) := by rw [← Nat.mul_assoc, Nat.mul_comm y 10, Nat.mul_assoc]
  rw [e2]
  have hpos : 10 * (y * P) + r ≠ 0 := by
    rcases hn with h | h
    · omega
    · have : 0 < y * P := Nat.mul_pos (by omega) hPp
      omega
  refine ⟨?_, by omega⟩
  rw [dl_pos hpos]
  generalize y * P = Z
  congr 1
  · omega
  · congr 1; omega

theorem dl_len : ∀ (k x : Nat), x < 10 ^ k → (dl x).length ≤ k := by
  intro k
  induction k with
  | zero => intro x h; have : x = 0 := by simpa using h
            subst this; rw [dl_zero]; simp
  | succ k ih =>
    intro x h
    by_cases hx : x = 0
    · subst hx; rw [dl_zero]; simp
    · rw [dl_pos hx]
      have : x / 10 < 10 ^ k := by rw [Nat.pow_succ] at h; omega
      have := ih _ this
      simp
      omega

theorem dl_lt : ∀ (n x : Nat), x ≤ n → ∀ d ∈ dl x, d < 10 := by
  intro n
  induction n with
  | zero => intro x h d hd; have : x = 0 := by omega
            subst this; rw [dl_zero] at hd; simp at hd
  | succ n ih =>
    intro x h d hd
    by_cases hx : x = 0
    · subst hx; rw [dl_zero] at hd; simp at hd
    · rw [dl_pos hx] at hd
      rcases List.mem_cons.1 hd with rfl | hd
      · omega
      · exact ih (x / 10) (by omega) d hd

theorem dl_ne {x : Nat} (h : x ≠ 0) : dl x ≠ [] := by rw [dl_pos h]; simp

theorem dec_lt (x : Nat) : ∀ d ∈ dec x, d < 256 := by
  intro d hd
  unfold dec at hd
  split at hd
  · simp at hd; omega
  · have : ∃ a ∈ dl x, a + 48 = d := by simpa using hd
    obtain ⟨a, ha, rfl⟩ := this
    have := dl_lt x x (Nat.le_refl _) a ha
    omega

theorem dval_foldl (l : List Nat) (n : Nat) : l.foldl (fun n d => 10 * n + (d - 48)) n = n * 10 ^ l.length + dval l := by
  induction l generalizing n with
  | nil => simp [dval]
  | cons a l ih =>
    unfold dval
    simp only [List.foldl_cons, List.length_cons]
    rw [ih, ih (10 * 0 + (a - 48)), Nat.pow_succ]
    grind

theorem dval_dl : ∀ (n x : Nat), x ≤ n → dval ((dl x).map (· + 48)).reverse = x := by
  intro n
  induction n with
  | zero => intro x h; have : x = 0 := by omega
            subst this; rw [dl_zero]; simp [dval]
  | succ n ih =>
    intro x h
    by_cases hx : x = 0
    · subst hx; rw [dl_zero]; simp [dval]
    · rw [dl_pos hx, List.map_cons, List.reverse_cons, dval_append, ih (x / 10) (by omega)]
      omega

/-- The text of a number is read as it. -/
theorem dval_dec (x : Nat) : dval (dec x) = x := by
  unfold dec
  split
  · rename_i h; subst h; simp [dval]
  · exact dval_dl x x (Nat.le_refl _)

theorem dec_inj {x y : Nat} (h : dec x = dec y) : x = y := by rw [← dval_dec x, ← dval_dec y, h]

end Go.Proofs.Ytnjohlimjbmkgaa
