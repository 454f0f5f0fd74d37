/- Plain laws on lists of digits: their value in a base, without zeros on top, sums, differences, products. Nothing of a program stands here. Plain laws, second part: shifts down. Plain laws of the division by limbs: the guess of a digit, the subtraction of a multiple, the way back. Decimal texts: plain maths. Decimal texts by ten thousands: plain maths. plain maths for the layer of whole numbers with a sign: no condition. plain maths for the layer of whole numbers with a sign: no condition. Bezout's walk: how great its numbers are. -/
import Derived.WalkKit
set_option linter.unusedSimpArgs false
set_option linter.unusedVariables false
namespace Go.Proofs.YtlpfkbkpnljieaaGreat

/-- The digit at a place. -/
def dg (l : List Nat) (i : Nat) : Nat := l.getD i 0
theorem dg_of {l : List Nat} {i : Nat} (h : i < l.length) : dg l i = l[i] := by simp [dg, h]
theorem dg_lt {l : List Nat} {B : Nat} (h : ∀ d ∈ l, d < B) (hB : 0 < B) (i : Nat) : dg l i < B := by
  by_cases hi : i < l.length
  · rw [dg_of hi]; exact h _ (List.getElem_mem hi)
  · simp [dg, List.getElem?_eq_none (Nat.le_of_not_lt hi), hB]

/-- The value of digits, the lowest first, in base B. -/
def val (B : Nat) : List Nat → Nat
  | [] => 0
  | d :: l => d + B * val B l

theorem val_nil (B : Nat) : val B [] = 0 := rfl
theorem val_cons (B d : Nat) (l : List Nat) : val B (d :: l) = d + B * val B l := rfl

theorem val_append (B : Nat) (l m : List Nat) : val B (l ++ m) = val B l + B ^ l.length * val B m := by
  induction l with
  | nil => simp [val]
  | cons d l ih =>
    simp only [List.cons_append, val_cons, ih, List.length_cons, Nat.pow_succ]
    grind

theorem val_snoc (B : Nat) (l : List Nat) (d : Nat) : val B (l ++ [d]) = val B l + B ^ l.length * d := by
  rw [val_append]; simp [val]

theorem val_lt (B : Nat) (l : List Nat) (h : ∀ d ∈ l, d < B) : val B l < B ^ l.length := by
  induction l with
  | nil => simp [val]
  | cons d l ih =>
    have h1 : d < B := h d (by simp)
    have h2 := ih (fun x hx => h x (by simp [hx]))
    simp only [val_cons, List.length_cons, Nat.pow_succ]
    have h3 : B * (val B l + 1) ≤ B * B ^ l.length := Nat.mul_le_mul_left B h2
    grind

theorem val_zeros (B : Nat) (l : List Nat) (h : ∀ d ∈ l, d = 0) : val B l = 0 := by
  induction l with
  | nil => rfl
  | cons d l ih => simp [val, h d (by simp), ih (fun x hx => h x (by simp [hx]))]

theorem val_replicate (B n : Nat) : val B (List.replicate n 0) = 0 := val_zeros B _ (by simp)

theorem val_take_drop (B : Nat) (l : List Nat) (k : Nat) (hk : k ≤ l.length) : val B l = val B (l.take k) + B ^ k * val B (l.drop k) := by
  conv => lhs; rw [← List.take_append_drop k l, val_append]
  simp [Nat.min_eq_left hk]

theorem val_take_succ (B : Nat) (l : List Nat) (k : Nat) (hk : k < l.length) : val B (l.take (k + 1)) = val B (l.take k) + B ^ k * dg l k := by
  rw [List.take_succ_eq_append_getElem hk, val_snoc]
  simp [Nat.min_eq_left (Nat.le_of_lt hk), dg, hk]

theorem val_take_all (B : Nat) (l : List Nat) (k : Nat) (hk : l.length ≤ k) : val B (l.take k) = val B l := by
  rw [List.take_of_length_le hk]

theorem val_take_big (B : Nat) (l : List Nat) (k : Nat) (hk : l.length ≤ k) : val B (l.take (k + 1)) = val B (l.take k) := by
  rw [List.take_of_length_le hk, List.take_of_length_le (by omega)]

/-- No zero on top. -/
def Norm (l : List Nat) : Prop := l.getLast? ≠ some 0

theorem norm_nil : Norm [] := by simp [Norm]

theorem Norm.pos (B : Nat) {l : List Nat} (h : Norm l) (hl : l ≠ []) : B ^ (l.length - 1) ≤ val B l := by
  obtain ⟨m, d, rfl⟩ : ∃ m d, l = m ++ [d] := ⟨l.dropLast, l.getLast hl, (List.dropLast_concat_getLast hl).symm⟩
  have hd : d ≠ 0 := by simpa [Norm] using h
  simp only [val_snoc, List.length_append, List.length_cons, List.length_nil]
  have : B ^ m.length * 1 ≤ B ^ m.length * d := Nat.mul_le_mul_left _ (by omega)
  simp only [Nat.zero_add, Nat.add_sub_cancel]
  omega

theorem Norm.zero_iff {B : Nat} {l : List Nat} (hB : 0 < B) (h : Norm l) : val B l = 0 ↔ l = [] := by
  constructor
  · intro h0
    by_cases hl : l = []
    · exact hl
    · have := h.pos B hl
      have := Nat.pow_pos (n := l.length - 1) hB
      omega
  · rintro rfl; rfl

/-- The longer of two is the greater. -/
theorem Norm.len_lt {B : Nat} {l m : List Nat} (hB : 0 < B) (hm : Norm m) (hl : ∀ d ∈ l, d < B) (h : l.length < m.length) : val B l < val B m := by
  have h1 := val_lt B l hl
  have h2 := hm.pos B (fun e => by simp [e] at h)
  have h3 : B ^ l.length ≤ B ^ (m.length - 1) := Nat.pow_le_pow_right hB (by omega)
  omega

theorem Norm.len_le {B : Nat} {l m : List Nat} (hB : 0 < B) (hl : Norm l) (hm : ∀ d ∈ m, d < B) (h : val B l ≤ val B m) : l.length ≤ m.length := by
  by_cases hh : m.length < l.length
  · have := hl.len_lt hB hm hh
    omega
  · omega

theorem Norm.len_of_lt {B : Nat} {l : List Nat} {k : Nat} (hB : 1 < B) (hl : Norm l) (h : val B l < B ^ k) : l.length ≤ k := by
  by_cases hh : l = []
  · simp [hh]
  · have := hl.pos B hh
    have h2 : B ^ (l.length - 1) < B ^ k := Nat.lt_of_le_of_lt this h
    have := (Nat.pow_lt_pow_iff_right hB).1 h2
    omega

/-- Digits of one number, without zeros on top, are the same. -/
theorem val_inj {B : Nat} (hB : 0 < B) : ∀ {l m : List Nat}, (∀ d ∈ l, d < B) → (∀ d ∈ m, d < B) → l.length = m.length → val B l = val B m → l = m
  | [], [], _, _, _, _ => rfl
  | [], _ :: _, _, _, h, _ => by simp at h
  | _ :: _, [], _, _, h, _ => by simp at h
  | d :: l, e :: m, hl, hm, hlen, h => by
    have h1 : d < B := hl d (by simp)
    have h2 : e < B := hm e (by simp)
    simp only [val_cons] at h
    have h3 : d = e := by
      have := congrArg (· % B) h
      simpa [Nat.add_mul_mod_self_left, Nat.mod_eq_of_lt h1, Nat.mod_eq_of_lt h2] using this
    subst h3
    have h4 : val B l = val B m := Nat.eq_of_mul_eq_mul_left hB (by omega)
    rw [val_inj hB (fun x hx => hl x (by simp [hx])) (fun x hx => hm x (by simp [hx])) (by simpa using hlen) h4]

theorem Norm.inj {B : Nat} {l m : List Nat} (hB : 0 < B) (hl : Norm l) (hm : Norm m) (dl : ∀ d ∈ l, d < B) (dm : ∀ d ∈ m, d < B) (h : val B l = val B m) : l = m := by
  have h1 := hl.len_le hB dm (by omega)
  have h2 := hm.len_le hB dl (by omega)
  exact val_inj hB dl dm (by omega) h

/-- What 'cut' leaves. -/
theorem norm_take {l : List Nat} {k : Nat} (hk : k ≤ l.length) (hz : ∀ i, k ≤ i → i < l.length → dg l i = 0) (hp : 0 < k → dg l (k - 1) ≠ 0) (B : Nat) :
    Norm (l.take k) ∧ val B (l.take k) = val B l := by
  constructor
  · intro h
    rw [List.getLast?_eq_getElem?] at h
    simp only [List.length_take, Nat.min_eq_left hk] at h
    by_cases h0 : 0 < k
    · have := hp h0
      rw [List.getElem?_take_of_lt (by omega)] at h
      simp [dg, h] at this
    · obtain rfl : k = 0 := by omega
      simp at h
  · rw [val_take_drop B l k hk, val_zeros B (l.drop k)]
    · simp
    · intro d hd
      obtain ⟨i, hi, rfl⟩ := List.mem_iff_getElem.1 hd
      simp only [List.length_drop] at hi
      have := hz (k + i) (by omega) (by omega)
      simpa [dg, show k + i < l.length by omega] using this

/-- Which of two numbers of one length is the greater: by the highest place where they part. -/
theorem val_lt_at {B : Nat} {l m : List Nat} {i : Nat} (hlen : l.length = m.length) (hi : i < l.length) (hl : ∀ d ∈ l, d < B)
    (hlt : dg l i < dg m i) (hs : ∀ j, i < j → j < l.length → dg l j = dg m j) : val B l < val B m := by
  have e : l.drop (i + 1) = m.drop (i + 1) := by
    apply List.ext_getElem (by simp [hlen])
    intro j h1 h2
    simp only [List.length_drop] at h1
    have := hs (i + 1 + j) (by omega) (by omega)
    simpa [dg, show i + 1 + j < l.length by omega, show i + 1 + j < m.length by omega] using this
  rw [val_take_drop B l (i + 1) (by omega), val_take_drop B m (i + 1) (by omega), e, val_take_succ B l i hi, val_take_succ B m i (by omega)]
  have h1 : val B (l.take i) < B ^ (l.take i).length := val_lt B _ (fun d hd => hl d (List.mem_of_mem_take hd))
  simp only [List.length_take, Nat.min_eq_left (Nat.le_of_lt hi)] at h1
  have h2 : B ^ i * (dg l i + 1) ≤ B ^ i * dg m i := Nat.mul_le_mul_left _ hlt
  rw [Nat.mul_add] at h2
  omega

theorem eq_of_digits {l m : List Nat} (hlen : l.length = m.length) (hs : ∀ j, j < l.length → dg l j = dg m j) : l = m := by
  apply List.ext_getElem hlen
  intro j h1 h2
  simpa [dg, h1, h2] using hs j h1

theorem times_step {B k q m r x : Nat} {o l : List Nat} (hlen : o.length = k) (hk : k < l.length) (hx : dg l k = x) (h : val B o + B ^ k * q = val B (l.take k) * m + r) :
    val B (o ++ [(q + x * m) % B]) + B ^ (k + 1) * ((q + x * m) / B) = val B (l.take (k + 1)) * m + r := by
  rw [val_snoc, hlen, val_take_succ B l k hk, hx, Nat.pow_succ]
  have h1 := Nat.div_add_mod (q + x * m) B
  generalize (q + x * m) / B = u at *
  generalize (q + x * m) % B = v at *
  grind

theorem dg_big {l : List Nat} {k : Nat} (h : l.length ≤ k) : dg l k = 0 := by simp [dg, List.getElem?_eq_none h]

theorem val_take_next (B : Nat) (l : List Nat) (k : Nat) : val B (l.take (k + 1)) = val B (l.take k) + B ^ k * dg l k := by
  by_cases h : k < l.length
  · exact val_take_succ B l k h
  · rw [val_take_big B l k (by omega), dg_big (by omega)]; simp

theorem add_step {B k q x y z : Nat} {o l r : List Nat} (hlen : o.length = k) (hx : dg l k = x) (hy : dg r k = y) (hz : q + x + y = z) (h : val B o + B ^ k * q = val B (l.take k) + val B (r.take k)) :
    val B (o ++ [z % B]) + B ^ (k + 1) * (z / B) = val B (l.take (k + 1)) + val B (r.take (k + 1)) := by
  rw [val_snoc, hlen, val_take_next B l k, val_take_next B r k, hx, hy, Nat.pow_succ]
  have h1 := Nat.div_add_mod z B
  generalize z / B = u at *
  generalize z % B = v at *
  grind

theorem less_step1 {B k q x y : Nat} {o l r : List Nat} (hlen : o.length = k) (hx : dg l k = x) (hy : dg r k = y) (hz : q + y ≤ x) (h : val B (l.take k) + B ^ k * q = val B o + val B (r.take k)) :
    val B (l.take (k + 1)) + B ^ (k + 1) * 0 = val B (o ++ [x - (q + y)]) + val B (r.take (k + 1)) := by
  rw [val_snoc, hlen, val_take_next B l k, val_take_next B r k, hx, hy]
  obtain ⟨z, rfl⟩ : ∃ z, x = q + y + z := ⟨x - (q + y), by omega⟩
  rw [Nat.add_sub_cancel_left]
  grind

theorem less_step2 {B k q x y : Nat} {o l r : List Nat} (hlen : o.length = k) (hx : dg l k = x) (hy : dg r k = y) (hz : q + y ≤ x + B) (h : val B (l.take k) + B ^ k * q = val B o + val B (r.take k)) :
    val B (l.take (k + 1)) + B ^ (k + 1) * 1 = val B (o ++ [x + B - (q + y)]) + val B (r.take (k + 1)) := by
  rw [val_snoc, hlen, val_take_next B l k, val_take_next B r k, hx, hy, Nat.pow_succ]
  obtain ⟨z, hz'⟩ : ∃ z, x + B = q + y + z := ⟨x + B - (q + y), by omega⟩
  rw [hz', Nat.add_sub_cancel_left]
  have h2 : B ^ k * (x + B) = B ^ k * (q + y + z) := by rw [hz']
  grind

theorem less_end {B n q : Nat} {o l r : List Nat} (ho : ∀ d ∈ o, d < B) (hol : o.length = n) (hrl : val B r ≤ val B l) (h : val B l + B ^ n * q = val B o + val B r) : val B o = val B l - val B r := by
  have h1 := val_lt B o ho
  rw [hol] at h1
  cases q with
  | zero => simp at h; omega
  | succ q =>
    have : B ^ n * 1 ≤ B ^ n * (q + 1) := Nat.mul_le_mul_left _ (by omega)
    omega

theorem by_step {B d j q x : Nat} {o l : List Nat} (hj : j < l.length) (hlen : l.length = o.length) (hx : dg l j = x) (h : val B (l.drop (j + 1)) = d * val B (o.drop (j + 1)) + q) :
    val B (l.drop j) = d * val B ((o.set j ((q * B + x) / d)).drop j) + (q * B + x) % d := by
  have h1 := Nat.div_add_mod (q * B + x) d
  generalize (q * B + x) / d = u at *
  generalize (q * B + x) % d = v at *
  have h2 : j < (o.set j u).length := by rw [List.length_set]; omega
  have h3 : (o.set j u).drop j = u :: o.drop (j + 1) := by
    rw [List.drop_eq_getElem_cons h2, List.getElem_set_self, List.drop_set_of_lt (by omega)]
  rw [dg_of hj] at hx
  rw [h3, List.drop_eq_getElem_cons hj, val_cons, h, val_cons, hx]
  grind

theorem div_limb {q x d : Nat} (hq : q < d) (hx : x < 4294967296) : (q * 4294967296 + x) / d < 4294967296 := by
  rw [Nat.div_lt_iff_lt_mul (by omega)]
  have : (q + 1) * 4294967296 ≤ d * 4294967296 := Nat.mul_le_mul_right _ hq
  grind

theorem set_lt {B : Nat} {o : List Nat} {j d : Nat} (h : ∀ x ∈ o, x < B) (hd : d < B) : ∀ x ∈ o.set j d, x < B := by
  intro x hx
  rcases List.mem_or_eq_of_mem_set hx with hx | rfl
  · exact h x hx
  · exact hd

theorem snoc_lt {B : Nat} {o : List Nat} {d : Nat} (h : ∀ x ∈ o, x < B) (hd : d < B) : ∀ x ∈ o ++ [d], x < B := by
  intro x hx
  rcases List.mem_append.1 hx with hx | hx
  · exact h x hx
  · simp at hx; omega

theorem or_add (q x : Nat) (hx : x < 4294967296) : q * 4294967296 ||| x = q * 4294967296 + x := by
  have h := Nat.two_pow_add_eq_or_of_lt (i := 32) (b := x) (by omega) q
  rw [show (2 : Nat) ^ 32 = 4294967296 from rfl, Nat.mul_comm] at h
  exact h.symm

/-- Two limbs beside one another. -/
theorem or_join (q x : Nat) (hq : q < 4294967296) (hx : x < 4294967296) : bits .or .u64 ((q : Int) * 4294967296) (x : Int) = ((q * 4294967296 + x : Nat) : Int) := by
  have h := u64_or_nat (q * 4294967296) x (by omega) (by omega)
  rw [or_add q x hx] at h
  rw [← h]
  rfl

/-- Less, the same, greater. -/
def cmpN (x y : Nat) : Int := if x < y then -1 else if x = y then 0 else 1

theorem cmpN_lt {x y : Nat} (h : x < y) : cmpN x y = -1 := by simp [cmpN, h]
theorem cmpN_gt {x y : Nat} (h : y < x) : cmpN x y = 1 := by unfold cmpN; rw [if_neg (by omega), if_neg (by omega)]
theorem cmpN_eq (x : Nat) : cmpN x x = 0 := by unfold cmpN; rw [if_neg (by omega), if_pos rfl]

theorem val_two (B a b : Nat) : val B [a, b] = a + B * b := by simp [val]

theorem val_top {B : Nat} {l : List Nat} {j : Nat} (h : l.length = j + 1) : val B l = val B (l.take j) + B ^ j * dg l j := by
  have h1 := val_take_next B l j
  rw [val_take_all B l (j + 1) (by omega)] at h1
  exact h1

theorem or_join2 (q x : Nat) (hq : q < 4294967296) (hx : x < 4294967296) : bits .or .u64 (q : Int) ((x : Int) * 4294967296) = ((q + x * 4294967296 : Nat) : Int) := by
  have h := u64_or_nat q (x * 4294967296) (by omega) (by omega)
  rw [Nat.or_comm, or_add x q hq] at h
  rw [Nat.add_comm, ← h]
  rfl

theorem or_zero64 (x : Nat) (hx : x < 18446744073709551616) : bits .or .u64 0 (x : Int) = (x : Int) := by
  have h := u64_or_nat 0 x (by omega) hx
  simpa using h

theorem val_set (B : Nat) (l : List Nat) (j d : Nat) (hj : j < l.length) : val B (l.set j d) + B ^ j * dg l j = val B l + B ^ j * d := by
  have h1 := val_take_drop B l j (by omega)
  have h2 := val_take_drop B (l.set j d) j (by simp; omega)
  rw [List.drop_eq_getElem_cons hj, val_cons] at h1
  have h3 : (l.set j d).drop j = d :: l.drop (j + 1) := by
    rw [List.drop_eq_getElem_cons (by simp; omega), List.getElem_set_self, List.drop_set_of_lt (by omega)]
  rw [List.take_set_of_le (by omega), h3, val_cons] at h2
  rw [h1, h2, dg_of hj]
  grind

theorem dg_set_ne {l : List Nat} {i j d : Nat} (h : i ≠ j) : dg (l.set i d) j = dg l j := by simp [dg, List.getElem?_set_ne h]

theorem mul_bound (q x y z : Nat) (hq : q < 4294967296) (hx : x < 4294967296) (hy : y < 4294967296) (hz : z < 4294967296) : (q + (x * y + z)) / 4294967296 < 4294967296 ∧ q + (x * y + z) < 18446744073709551616 := by
  have : x * y ≤ 4294967295 * 4294967295 := Nat.mul_le_mul (by omega) (by omega)
  omega

theorem mul_step {B i k q x y z a : Nat} {o r : List Nat} (hp : i + k < o.length) (hy : dg r k = y) (hz : dg o (i + k) = z)
    (h : val B o + B ^ (i + k) * q = a + B ^ i * x * val B (r.take k)) :
    val B (o.set (i + k) ((q + (x * y + z)) % B)) + B ^ (i + (k + 1)) * ((q + (x * y + z)) / B) = a + B ^ i * x * val B (r.take (k + 1)) := by
  have h1 := val_set B o (i + k) ((q + (x * y + z)) % B) hp
  rw [hz] at h1
  rw [val_take_next B r k, hy]
  have h2 := Nat.div_add_mod (q + (x * y + z)) B
  generalize (q + (x * y + z)) / B = u at *
  generalize (q + (x * y + z)) % B = v at *
  have e1 : B ^ (i + (k + 1)) = B ^ (i + k) * B := by rw [← Nat.add_assoc, Nat.pow_succ]
  have e2 : B ^ (i + k) = B ^ i * B ^ k := Nat.pow_add B i k
  have h3 : B ^ (i + k) * (B * u + v) = B ^ (i + k) * (q + (x * y + z)) := by rw [h2]
  rw [e1]
  have h4 : val B (o.set (i + k) v) + B ^ (i + k) * z + B ^ (i + k) * (B * u) = val B o + B ^ (i + k) * (q + (x * y + z)) := by rw [← h3, h1]; grind
  have h5 : val B (o.set (i + k) v) + B ^ (i + k) * (B * u) = val B o + B ^ (i + k) * q + B ^ (i + k) * (x * y) := by grind
  rw [Nat.mul_assoc, h5, h, e2]
  grind

theorem mul_row {B i m q x : Nat} {o l r : List Nat} (hp : i + m < o.length) (hm : r.length = m) (hx : dg l i = x) (hz : dg o (i + m) = 0)
    (h : val B o + B ^ (i + m) * q = val B (l.take i) * val B r + B ^ i * x * val B (r.take m)) :
    val B (o.set (i + m) q) = val B (l.take (i + 1)) * val B r := by
  have h1 := val_set B o (i + m) q hp
  rw [hz] at h1
  rw [val_take_all B r m (by omega)] at h
  rw [val_take_next B l i, hx]
  grind

theorem shl_lt {q x sh : Nat} (hq : q < 2 ^ sh) (hx : x < 4294967296) (hs : sh < 32) : q + x * 2 ^ sh < 18446744073709551616 ∧ (q + x * 2 ^ sh) / 4294967296 < 2 ^ sh ∧ q < 4294967296 := by
  have h1 : 2 ^ sh ≤ 2 ^ 31 := Nat.pow_le_pow_right (by omega) (by omega)
  have h2 : (x + 1) * 2 ^ sh ≤ 4294967296 * 2 ^ sh := Nat.mul_le_mul_right _ hx
  rw [Nat.add_mul] at h2
  refine ⟨by omega, ?_, by omega⟩
  rw [Nat.div_lt_iff_lt_mul (by omega)]
  omega

theorem or_shift (q x sh : Nat) (hq : q < 2 ^ sh) (hx : x < 4294967296) (hs : sh < 32) : bits .or .u64 (q : Int) (IntKind.u64.wrap ((x : Int) * 2 ^ sh)) = ((q + x * 2 ^ sh : Nat) : Int) := by
  obtain ⟨h1, _, h2⟩ := shl_lt hq hx hs
  have e : (x : Int) * 2 ^ sh = ((x * 2 ^ sh : Nat) : Int) := by simp
  rw [e, IntWalk.u64_in _ (by omega), u64_or_nat q (x * 2 ^ sh) (by omega) (by omega)]
  congr 1
  have h := Nat.two_pow_add_eq_or_of_lt hq x
  rw [Nat.mul_comm, Nat.or_comm, ← h, Nat.add_comm, Nat.mul_comm]

theorem up_step {B K k q x P N : Nat} {o l : List Nat} (hlen : o.length = K + k) (hx : dg l k = x) (hN : q + x * P = N) (h : val B o + B ^ (K + k) * q = B ^ K * (val B (l.take k) * P)) :
    val B (o ++ [N % B]) + B ^ (K + (k + 1)) * (N / B) = B ^ K * (val B (l.take (k + 1)) * P) := by
  rw [val_snoc, hlen, val_take_next B l k, hx]
  have h1 := Nat.div_add_mod N B
  generalize N / B = u at *
  generalize N % B = v at *
  have e1 : B ^ (K + (k + 1)) = B ^ (K + k) * B := by rw [← Nat.add_assoc, Nat.pow_succ]
  have e2 : B ^ (K + k) = B ^ K * B ^ k := Nat.pow_add B K k
  have h3 : B ^ (K + k) * (B * u + v) = B ^ (K + k) * (q + x * P) := by rw [h1, hN]
  have h4 : val B o + B ^ (K + k) * v + B ^ (K + (k + 1)) * u = val B o + B ^ (K + k) * q + B ^ (K + k) * (x * P) := by rw [e1]; grind
  rw [h4, h, e2]
  grind

/-- A product of two limbs, as an Int. -/
theorem mul_lim (x m : Nat) (hx : x < 4294967296) (hm : m < 4294967296) : 0 ≤ (x : Int) * m ∧ (x : Int) * m ≤ 18446744065119617025 := by
  have h : x * m ≤ 18446744065119617025 := by
    have : x * m ≤ 4294967295 * 4294967295 := Nat.mul_le_mul (by omega) (by omega)
    omega
  rw [← Int.natCast_mul]
  omega

end Go.Proofs.YtlpfkbkpnljieaaGreat

namespace Go.Proofs.YtlpfkbkpnljieaaGreat

theorem down_digit {B P Q m y R : Nat} (hB : B = P * Q) (hP : 0 < P) : (m + B * (y + B * R)) / P % B = (m + B * y) / P % B := by
  have e : m + B * (y + B * R) = (m + B * y) + P * (B * (Q * R)) := by subst hB; grind
  rw [e, Nat.add_mul_div_left _ _ hP, Nat.add_mul_mod_self_left]

theorem down_step {B P Q k x y : Nat} {o l : List Nat} (hB : B = P * Q) (hP : 0 < P) (hB0 : 0 < B) (hlen : o.length = k) (hk : k < l.length) (hx : dg l k = x) (hy : dg l (k + 1) = y) (hl : ∀ d ∈ l, d < B)
    (h : val B o + B ^ k * (val B (l.drop k) / P) = val B l / P) :
    val B (o ++ [(x + y * B) / P % B]) + B ^ (k + 1) * (val B (l.drop (k + 1)) / P) = val B l / P := by
  have e1 : val B (l.drop k) = x + B * val B (l.drop (k + 1)) := by
    rw [List.drop_eq_getElem_cons hk, val_cons, ← dg_of hk, hx]
  have hx' : x < B := by rw [← hx]; exact dg_lt hl hB0 k
  obtain ⟨R, e2⟩ : ∃ R, val B (l.drop (k + 1)) = y + B * R := by
    by_cases h2 : k + 1 < l.length
    · exact ⟨val B (l.drop (k + 1 + 1)), by rw [List.drop_eq_getElem_cons h2, val_cons, ← dg_of h2, hy]⟩
    · refine ⟨0, ?_⟩
      rw [List.drop_eq_nil_of_le (by omega), ← hy, dg_big (by omega)]; rfl
  have e3 : val B (l.drop k) / P % B = (x + y * B) / P % B := by rw [e1, e2, down_digit hB hP, Nat.mul_comm y B]
  have e4 : val B (l.drop k) / P / B = val B (l.drop (k + 1)) / P := by
    rw [Nat.div_div_eq_div_mul, Nat.mul_comm P B, ← Nat.div_div_eq_div_mul, e1, Nat.add_mul_div_left _ _ hB0, Nat.div_eq_of_lt hx', Nat.zero_add]
  rw [val_snoc, hlen, ← e3, ← e4, ← h, Nat.pow_succ]
  have h1 := Nat.div_add_mod (val B (l.drop k) / P) B
  generalize val B (l.drop k) / P = D at *
  generalize D / B = u at *
  generalize D % B = v at *
  rw [← h1]
  grind

theorem val_drop (B : Nat) (hB : 0 < B) (l : List Nat) (k : Nat) (hl : ∀ d ∈ l, d < B) : val B (l.drop k) = val B l / B ^ k := by
  by_cases hk : k ≤ l.length
  · have h1 := val_take_drop B l k hk
    have h2 := val_lt B (l.take k) (fun d hd => hl d (List.mem_of_mem_take hd))
    simp only [List.length_take, Nat.min_eq_left hk] at h2
    rw [h1, Nat.add_mul_div_left _ _ (Nat.pow_pos hB), Nat.div_eq_of_lt h2, Nat.zero_add]
  · have h1 := val_lt B l hl
    have h2 : B ^ l.length ≤ B ^ k := Nat.pow_le_pow_right hB (by omega)
    rw [List.drop_eq_nil_of_le (by omega), Nat.div_eq_of_lt (by omega)]; rfl

theorem dg_drop (l : List Nat) (k i : Nat) : dg (l.drop k) i = dg l (k + i) := by simp [dg]

theorem pow_split {sh : Nat} (hs : sh ≤ 32) : 4294967296 = 2 ^ sh * 2 ^ (32 - sh) := by
  rw [← Nat.pow_add, show sh + (32 - sh) = 32 from by omega]

end Go.Proofs.YtlpfkbkpnljieaaGreat

namespace Go.Proofs.YtlpfkbkpnljieaaGreat

theorem dg_of_lt {B m : Nat} {l : List Nat} (hB : 0 < B) (h : val B l < B ^ m) (j : Nat) (hj : m ≤ j) : dg l j = 0 := by
  by_cases hl : j < l.length
  · apply Nat.eq_zero_of_not_pos
    intro hp
    have h1 := val_take_drop B l j (by omega)
    rw [List.drop_eq_getElem_cons hl, val_cons, ← dg_of hl] at h1
    have h2 : B ^ m ≤ B ^ j := Nat.pow_le_pow_right hB hj
    have h3 : B ^ j * 1 ≤ B ^ j * (dg l j + B * val B (l.drop (j + 1))) := Nat.mul_le_mul_left _ (by omega)
    omega
  · exact dg_big (by omega)

/-- Nothing above a place: the value is that of the digits up to it. -/
theorem val_upto {B : Nat} {l : List Nat} (m : Nat) (h : ∀ j, m ≤ j → dg l j = 0) : val B l = val B (l.take m) := by
  by_cases hm : m ≤ l.length
  · rw [val_take_drop B l m hm, val_zeros B (l.drop m)]
    · simp
    · intro d hd
      obtain ⟨i, hi, rfl⟩ := List.mem_iff_getElem.1 hd
      simp only [List.length_drop] at hi
      have := h (m + i) (by omega)
      rw [dg_of (by omega)] at this
      simpa using this
  · rw [val_take_all _ _ _ (by omega)]

theorem take_lt {B : Nat} {l : List Nat} (hB : 0 < B) (hl : ∀ d ∈ l, d < B) (m : Nat) : val B (l.take m) < B ^ m := by
  have h1 := val_lt B (l.take m) (fun d hd => hl d (List.mem_of_mem_take hd))
  have h2 : B ^ (l.take m).length ≤ B ^ m := Nat.pow_le_pow_right hB (by simp; omega)
  omega

/-! The guess. W: the window; D: the divisor; t, s: D's first digits; two, x: W's first digits; P: the weight of what is left out. -/
section
variable {B P t s D2 D two x W2 W : Nat}

theorem guess_lo (hD : D = (t * B + s) * P + D2) (hW : W = (two * B + x) * P + W2) (ht : 0 < t) (hx : x < B) (hW2 : W2 < P) : W / D ≤ two / t := by
  rw [Nat.le_div_iff_mul_le ht]
  have h1 : W / D * D ≤ W := Nat.div_mul_le_self W D
  generalize W / D = g at *
  apply Nat.le_of_not_lt
  intro hlt
  have h2 : (two + 1) * (B * P) ≤ g * t * (B * P) := Nat.mul_le_mul_right _ hlt
  have h3 : g * t * (B * P) ≤ g * D := by
    rw [hD]
    have : t * (B * P) ≤ (t * B + s) * P + D2 := by
      have : t * B * P ≤ (t * B + s) * P := Nat.mul_le_mul_right _ (by omega)
      rw [← Nat.mul_assoc]; omega
    rw [Nat.mul_assoc]
    exact Nat.mul_le_mul_left _ this
  have h4 : W < (two + 1) * (B * P) := by
    rw [hW]
    have : (two * B + x + 1) * P ≤ (two * B + B) * P := Nat.mul_le_mul_right _ (by omega)
    have e : (two + 1) * (B * P) = (two * B + B) * P := by grind
    rw [e]
    rw [Nat.add_mul _ 1] at this
    omega
  omega

theorem guess_dec {g left : Nat} (hD : D = (t * B + s) * P + D2) (hW : W = (two * B + x) * P + W2) (hW2 : W2 < P) (hD0 : 0 < D) (hWB : W < B * D) (_hg : W / D ≤ g) (hl : g * t + left = two)
    (hc : B ≤ g ∨ left * B + x < g * s) : W / D ≤ g - 1 ∧ 0 < g := by
  have key : W < g * D := by
    rcases hc with hc | hc
    · exact Nat.lt_of_lt_of_le hWB (Nat.mul_le_mul_right _ hc)
    · have h1 : two * B + x + 1 ≤ g * (t * B + s) := by
        rw [← hl]
        have : g * (t * B + s) = g * t * B + g * s := by grind
        rw [this, Nat.add_mul]
        omega
      have h2 : (two * B + x + 1) * P ≤ g * (t * B + s) * P := Nat.mul_le_mul_right _ h1
      have h3 : g * (t * B + s) * P ≤ g * D := by
        rw [hD, Nat.mul_assoc]
        exact Nat.mul_le_mul_left _ (by omega)
      rw [Nat.add_mul _ 1] at h2
      omega
  have : W / D < g := by
    rw [Nat.div_lt_iff_lt_mul hD0]; exact key
  generalize W / D = q at *
  omega

theorem guess_hi {g left : Nat} (hD : D = (t * B + s) * P + D2) (hW : W = (two * B + x) * P + W2) (hD2 : D2 < P) (ht : 0 < t) (hD0 : 0 < D) (hl : g * t + left = two) (hgB : g ≤ B)
    (hc : g * s ≤ left * B + x) : g ≤ W / D + 1 := by
  have h1 : g * (t * B + s) ≤ two * B + x := by
    rw [← hl]
    have : g * (t * B + s) = g * t * B + g * s := by grind
    rw [this, Nat.add_mul]
    omega
  have h2 : g * (t * B + s) * P ≤ (two * B + x) * P := Nat.mul_le_mul_right _ h1
  have h3 : g * D = g * (t * B + s) * P + g * D2 := by rw [hD]; grind
  have h4 : g * D2 ≤ B * D2 := Nat.mul_le_mul_right _ hgB
  have h5 : B * D2 ≤ B * P := Nat.mul_le_mul_left _ (by omega)
  have h6 : B * P ≤ D := by
    rw [hD]
    have : 1 * (B * P) ≤ t * (B * P) := Nat.mul_le_mul_right _ ht
    have e : (t * B + s) * P = t * (B * P) + s * P := by grind
    rw [e]; omega
  have h7 : g * D ≤ W + D := by omega
  have h8 : (g - 1) * D ≤ W := by
    rw [Nat.sub_mul, Nat.one_mul]; omega
  have := (Nat.le_div_iff_mul_le hD0).2 h8
  omega

theorem guess_break {g left : Nat} (hgB : g ≤ B) (hs : s < B) (hl : B ≤ left) : g * s ≤ left * B + x := by
  have h1 : g * s ≤ B * B := Nat.mul_le_mul hgB (by omega)
  have h2 : B * B ≤ left * B := Nat.mul_le_mul_right _ hl
  omega

/-- The first guess is at most B + 1. -/
theorem guess_first (hD : D = (t * B + s) * P + D2) (hW : W = (two * B + x) * P + W2) (hs : s < B) (hD2 : D2 < P) (ht2 : B ≤ 2 * t) (_hB : 0 < B) (hWB : W < B * D) : two / t ≤ B + 1 := by
  have ht : 0 < t := by omega
  have h1 : two < (t + 1) * B := by
    apply Nat.lt_of_not_le
    intro hle
    have h2 : (t + 1) * B * (B * P) ≤ two * (B * P) := Nat.mul_le_mul_right _ hle
    have h3 : two * (B * P) ≤ W := by
      rw [hW]
      have : two * B * P ≤ (two * B + x) * P := Nat.mul_le_mul_right _ (by omega)
      rw [← Nat.mul_assoc]; omega
    have h4 : D < (t + 1) * B * P := by
      rw [hD]
      have : (t * B + s + 1) * P ≤ (t + 1) * B * P := Nat.mul_le_mul_right _ (by rw [Nat.add_mul]; omega)
      rw [Nat.add_mul _ 1] at this
      omega
    have h5 : B * D ≤ B * ((t + 1) * B * P) := Nat.mul_le_mul_left _ (by omega)
    have e : (t + 1) * B * (B * P) = B * ((t + 1) * B * P) := by grind
    omega
  have h6 : two / t < B + 2 := by
    rw [Nat.div_lt_iff_lt_mul ht]
    have : (t + 1) * B = t * B + B := by grind
    have : (B + 2) * t = t * B + 2 * t := by grind
    omega
  omega
end

/-- One limb of the subtraction of a multiple. -/
theorem msub_step {B i k g c bo bo' y z x' R : Nat} {p d : List Nat} (hp : i + k < p.length) (hz : dg p (i + k) = z) (hy : dg d k = y)
    (hx : x' + (c + g * y) % B + bo = z + B * bo')
    (h : val B p + B ^ i * (g * val B (d.take k)) = R + B ^ (i + k) * (c + bo)) :
    val B (p.set (i + k) x') + B ^ i * (g * val B (d.take (k + 1))) = R + B ^ (i + (k + 1)) * ((c + g * y) / B + bo') := by
  have h1 := val_set B p (i + k) x' hp
  rw [hz] at h1
  rw [val_take_next B d k, hy]
  have h2 := Nat.div_add_mod (c + g * y) B
  generalize (c + g * y) / B = u at *
  generalize (c + g * y) % B = v at *
  have e1 : B ^ (i + (k + 1)) = B ^ (i + k) * B := by rw [← Nat.add_assoc, Nat.pow_succ]
  have e2 : B ^ (i + k) = B ^ i * B ^ k := Nat.pow_add B i k
  have e3 : B ^ i * (g * (val B (d.take k) + B ^ k * y)) = B ^ i * (g * val B (d.take k)) + B ^ (i + k) * (g * y) := by rw [e2]; grind
  rw [e3, e1]
  generalize B ^ i * (g * val B (d.take k)) = S at *
  generalize B ^ (i + k) = Q at *
  generalize val B (p.set (i + k) x') = V' at *
  generalize val B p = V at *
  have h3 : Q * (x' + v + bo) = Q * (z + B * bo') := by rw [hx]
  have h4 : Q * (B * u + v) = Q * (c + g * y) := by rw [h2]
  generalize g * y = G at *
  grind

/-- The highest limb, where nothing was borrowed. -/
theorem msub_fits {B i n z cb R S : Nat} {p : List Nat} (hp : i + n < p.length) (hz : dg p (i + n) = z) (hzc : cb ≤ z)
    (h : val B p + S = R + B ^ (i + n) * cb) : val B (p.set (i + n) (z - cb)) + S = R := by
  have h1 := val_set B p (i + n) (z - cb) hp
  rw [hz] at h1
  obtain ⟨y, rfl⟩ : ∃ y, z = cb + y := ⟨z - cb, by omega⟩
  rw [Nat.add_sub_cancel_left] at *
  rw [Nat.mul_add] at h1
  omega

theorem msub_less {B i n z cb R S : Nat} {p : List Nat} (hp : i + n < p.length) (hz : dg p (i + n) = z) (hzc : z < cb) (hcb : cb ≤ z + B)
    (h : val B p + S = R + B ^ (i + n) * cb) : val B (p.set (i + n) (z + B - cb)) + S = R + B ^ (i + n) * B := by
  have h1 := val_set B p (i + n) (z + B - cb) hp
  rw [hz] at h1
  obtain ⟨y, hy⟩ : ∃ y, z + B = cb + y := ⟨z + B - cb, by omega⟩
  have e : z + B - cb = y := by omega
  rw [e] at h1 ⊢
  have h2 : B ^ (i + n) * (z + B) = B ^ (i + n) * (cb + y) := by rw [hy]
  rw [Nat.mul_add, Nat.mul_add] at h2
  omega

/-- One limb of the way back. -/
theorem back_step {B i k c y z R : Nat} {p d : List Nat} (hp : i + k < p.length) (hz : dg p (i + k) = z) (hy : dg d k = y)
    (h : val B p + B ^ (i + k) * c = R + B ^ i * val B (d.take k)) :
    val B (p.set (i + k) ((c + (z + y)) % B)) + B ^ (i + (k + 1)) * ((c + (z + y)) / B) = R + B ^ i * val B (d.take (k + 1)) := by
  have h1 := val_set B p (i + k) ((c + (z + y)) % B) hp
  rw [hz] at h1
  rw [val_take_next B d k, hy]
  have h2 := Nat.div_add_mod (c + (z + y)) B
  generalize (c + (z + y)) / B = u at *
  generalize (c + (z + y)) % B = v at *
  have e1 : B ^ (i + (k + 1)) = B ^ (i + k) * B := by rw [← Nat.add_assoc, Nat.pow_succ]
  have e2 : B ^ (i + k) = B ^ i * B ^ k := Nat.pow_add B i k
  have e3 : B ^ i * (val B (d.take k) + B ^ k * y) = B ^ i * val B (d.take k) + B ^ (i + k) * y := by rw [e2]; grind
  rw [e3, e1]
  generalize B ^ i * val B (d.take k) = S at *
  generalize B ^ (i + k) = Q at *
  have h4 : Q * (B * u + v) = Q * (c + (z + y)) := by rw [h2]
  grind

/-- The highest limb of the way back: what is left is the rest, and the limb comes to 0. -/
theorem back_end {B m z c T : Nat} {p : List Nat} (hB : 1 < B) (hp : m < p.length) (hl : ∀ d ∈ p, d < B) (hz : dg p m = z) (hab : ∀ j, m < j → dg p j = 0) (hT : T < B ^ m)
    (h : val B p + B ^ m * c = T + B ^ m * B) : z + c = B ∧ val B (p.set m 0) = T := by
  have h1 := val_set B p m 0 hp
  rw [hz] at h1
  have h2 : val B p = val B (p.take m) + B ^ m * z := by
    rw [val_upto (B := B) (m + 1) (fun j hj => hab j (by omega)), val_take_next, hz]
  have h3 := take_lt (B := B) (by omega) hl m
  have hP : 0 < B ^ m := Nat.pow_pos (by omega)
  have h4 : val B (p.take m) + B ^ m * (z + c) = T + B ^ m * B := by rw [Nat.mul_add]; omega
  have h5 : z + c = B := by
    have e1 : (val B (p.take m) + B ^ m * (z + c)) / B ^ m = z + c := by rw [Nat.add_mul_div_left _ _ hP, Nat.div_eq_of_lt h3, Nat.zero_add]
    have e2 : (T + B ^ m * B) / B ^ m = B := by rw [Nat.add_mul_div_left _ _ hP, Nat.div_eq_of_lt hT, Nat.zero_add]
    rw [← e1, h4, e2]
  refine ⟨h5, ?_⟩
  rw [h5] at h4
  omega

/-- The window's digits. -/
theorem window {B i n : Nat} {p : List Nat} (hB : 0 < B) (hl : ∀ d ∈ p, d < B) (hab : ∀ j, i + (n + 2) < j → dg p j = 0) (_hi : i ≤ p.length) :
    val B p / B ^ i = ((dg p (i + (n + 2)) * B + dg p (i + (n + 1))) * B + dg p (i + n)) * B ^ n + val B ((p.drop i).take n) := by
  rw [← val_drop B hB p i hl]
  have h1 : val B (p.drop i) = val B ((p.drop i).take (n + 3)) := val_upto (n + 3) (fun j hj => by rw [dg_drop]; exact hab _ (by omega))
  rw [h1, val_take_next, val_take_next, val_take_next, dg_drop, dg_drop, dg_drop]
  have e1 : B ^ (n + 1) = B ^ n * B := Nat.pow_succ ..
  have e2 : B ^ (n + 2) = B ^ n * B * B := by rw [show n + 2 = (n + 1) + 1 from rfl, Nat.pow_succ, Nat.pow_succ]
  rw [show n + 1 + 1 = n + 2 from rfl, e1, e2]
  grind

theorem top_two {B n : Nat} {d : List Nat} (h : d.length = n + 2) : val B d = (dg d (n + 1) * B + dg d n) * B ^ n + val B (d.take n) := by
  have h1 : val B d = val B (d.take (n + 2)) := by rw [val_take_all _ _ _ (by omega)]
  rw [h1, val_take_next, val_take_next, Nat.pow_succ]
  grind

/-- What a digit of the quotient does. -/
theorem digit_done {B i g D R V : Nat} (hD : 0 < D) (hB : 0 < B ^ i) (hlo : R / B ^ i / D ≤ g) (h : V + B ^ i * (g * D) = R) : g = R / B ^ i / D ∧ V < D * B ^ i := by
  have h1 : g * D ≤ R / B ^ i := by
    rw [Nat.le_div_iff_mul_le hB, Nat.mul_comm]; omega
  have h2 : g ≤ R / B ^ i / D := by rw [Nat.le_div_iff_mul_le hD]; exact h1
  have h3 : g = R / B ^ i / D := by omega
  refine ⟨h3, ?_⟩
  have h4 : R / B ^ i < (g + 1) * D := by
    rw [h3, ← Nat.div_lt_iff_lt_mul hD]; omega
  have h5 : R < (g + 1) * D * B ^ i := by
    rw [← Nat.div_lt_iff_lt_mul hB]; exact h4
  have e : (g + 1) * D * B ^ i = B ^ i * (g * D) + D * B ^ i := by grind
  omega

theorem div_put {B j g D R U V : Nat} {qs : List Nat} (hj : j < qs.length) (h1 : V + B ^ j * (g * D) = R) (h2 : R + D * (B ^ (j + 1) * val B (qs.drop (j + 1))) = U) :
    V + D * (B ^ j * val B ((qs.set j g).drop j)) = U := by
  have h3 : (qs.set j g).drop j = g :: qs.drop (j + 1) := by
    rw [List.drop_eq_getElem_cons (by simp; omega), List.getElem_set_self, List.drop_set_of_lt (by omega)]
  rw [h3, val_cons, ← h2, ← h1, Nat.pow_succ]
  grind

/-- Where the highest limb is too small, the guess was too great. -/
theorem msub_over {B j M g D z cb R : Nat} {p : List Nat} (hB : 1 < B) (hl : ∀ d ∈ p, d < B) (hz : dg p M = z) (hzc : z < cb) (hab : ∀ j', M < j' → dg p j' = 0) (hD : 0 < D)
    (h : val B p + B ^ j * (g * D) = R + B ^ M * cb) : R / B ^ j / D < g := by
  have h2 : val B p = val B (p.take M) + B ^ M * z := by
    rw [val_upto (B := B) (M + 1) (fun j' hj => hab j' (by omega)), val_take_next, hz]
  have h3 := take_lt (B := B) (by omega) hl M
  have h4 : B ^ M * (z + 1) ≤ B ^ M * cb := Nat.mul_le_mul_left _ hzc
  rw [Nat.mul_add, Nat.mul_one] at h4
  rw [Nat.div_lt_iff_lt_mul hD, Nat.div_lt_iff_lt_mul (Nat.pow_pos (by omega))]
  have e : g * D * B ^ j = B ^ j * (g * D) := Nat.mul_comm _ _
  omega

/-- What is left behind the way back. -/
theorem back_T {B j M g D R V V3 c : Nat} (hB : 1 < B) (hD : 0 < D) (hDM : D * B ^ j ≤ B ^ M) (hg : R / B ^ j / D = g) (h : V + B ^ j * ((g + 1) * D) = R + B ^ M * B) (h3 : V3 + B ^ M * c = V + B ^ j * D) :
    ∃ T, V3 + B ^ M * c = T + B ^ M * B ∧ T < B ^ M ∧ T + B ^ j * (g * D) = R := by
  have hP : 0 < B ^ j := Nat.pow_pos (by omega)
  have h4 : B ^ j * (g * D) ≤ R := by
    have h5 : g * D ≤ R / B ^ j := by rw [← hg]; exact Nat.div_mul_le_self _ _
    have := (Nat.le_div_iff_mul_le hP).1 h5
    rw [Nat.mul_comm]; exact this
  obtain ⟨T, hT⟩ : ∃ T, R = T + B ^ j * (g * D) := ⟨R - B ^ j * (g * D), by omega⟩
  have h6 : T < D * B ^ j := (digit_done (B := B) (i := j) (g := g) (D := D) (R := R) (V := T) hD hP (by omega) hT.symm).2
  refine ⟨T, ?_, by omega, hT.symm⟩
  have e : B ^ j * ((g + 1) * D) = B ^ j * (g * D) + B ^ j * D := by grind
  omega

theorem div_unshift {p q x y P : Nat} (hP : 0 < P) (hy : 0 < y) (h : p + y * P * q = x * P) (hp : p < y * P) : q = x / y ∧ p / P = x % y := by
  have e : x * P = y * P * q + p := by omega
  have h1 : x * P / (y * P) = q := by
    rw [e, Nat.mul_add_div (Nat.mul_pos hy hP), Nat.div_eq_of_lt hp, Nat.add_zero]
  have h2 : x * P % (y * P) = p := by
    rw [e, Nat.mul_add_mod, Nat.mod_eq_of_lt hp]
  rw [Nat.mul_div_mul_right _ _ hP] at h1
  rw [Nat.mul_mod_mul_right] at h2
  exact ⟨h1.symm, by rw [← h2, Nat.mul_div_cancel _ hP]⟩

end Go.Proofs.YtlpfkbkpnljieaaGreat

namespace Go.Proofs.YtlpfkbkpnljieaaGreat

/-- The decimal digits of a number, the lowest first. -/
def dl (x : Nat) : List Nat := if h : x = 0 then [] else x % 10 :: dl (x / 10)
termination_by x
decreasing_by exact Nat.div_lt_self (by omega) (by omega)

theorem dl_zero : dl 0 = [] := by unfold dl; simp
theorem dl_pos {x : Nat} (h : x ≠ 0) : dl x = x % 10 :: dl (x / 10) := by rw [dl]; simp [h]

/-- The decimal text of a number, as numbers of bytes. -/
def dec (x : Nat) : List Nat := if x = 0 then [48] else ((dl x).map (· + 48)).reverse

/-- The number of a row of digits, the highest first. -/
def dval (l : List Nat) : Nat := l.foldl (fun n d => 10 * n + (d - 48)) 0

theorem dval_append (l : List Nat) (d : Nat) : dval (l ++ [d]) = 10 * dval l + (d - 48) := by simp [dval]

/-- Digits alone. -/
def Digs (l : List Nat) : Prop := ∀ d ∈ l, 48 ≤ d ∧ d ≤ 57

/-- A text that is read. -/
def Good (l : List Nat) : Prop := l ≠ [] ∧ l.length ≤ 4096 ∧ Digs l ∧ (1 < l.length → l.head? ≠ some 48)

theorem dval_pos {a : Nat} {l : List Nat} (ha : 49 ≤ a) (l' : List Nat) (h : l = a :: l') : 0 < dval l := by
  subst h
  have : ∀ (l : List Nat) (n : Nat), 0 < n → 0 < l.foldl (fun n d => 10 * n + (d - 48)) n := by
    intro l
    induction l with
    | nil => intro n h; exact h
    | cons b l ih => intro n h; exact ih (10 * n + (b - 48)) (by omega)
  unfold dval
  simp only [List.foldl_cons]
  exact this l' (10 * 0 + (a - 48)) (by omega)

/-- What is read, written again: without a 0 in front, more than one digit or not. -/
theorem dl_dval : ∀ (n : Nat) (l : List Nat), l.length = n → Digs l → (∃ a l', l = a :: l' ∧ 49 ≤ a) → ((dl (dval l)).map (· + 48)).reverse = l := by
  intro n
  induction n with
  | zero => intro l h _ ⟨a, l', h', _⟩; subst h'; simp at h
  | succ n ih =>
    intro l hl hd ⟨a, l', h', ha⟩
    obtain ⟨m, d, rfl⟩ : ∃ m d, l = m ++ [d] := ⟨l.dropLast, l.getLast (by rw [h']; exact List.cons_ne_nil _ _), (List.dropLast_concat_getLast _).symm⟩
    have hdd := hd d (by simp)
    have hp := dval_pos ha l' h'
    rw [dval_append] at hp ⊢
    rw [dl_pos (by omega), show (10 * dval m + (d - 48)) % 10 = d - 48 by omega, show (10 * dval m + (d - 48)) / 10 = dval m by omega]
    rw [List.map_cons, List.reverse_cons, show d - 48 + 48 = d by omega]
    congr 1
    rcases m with _ | ⟨b, m'⟩
    · simp [dval, dl_zero]
    · refine ih (b :: m') (by simp at hl ⊢; omega) (fun x hx => hd x (by simp at hx ⊢; rcases hx with h | h <;> simp [h])) ⟨b, m', rfl, ?_⟩
      simp only [List.cons_append, List.cons.injEq] at h'
      omega

theorem text_step {y i r : Nat} (hi : i < 9) (hr : r < 10 ^ (9 - i)) (hn : r ≠ 0 ∨ y ≠ 0) :
    dl (y * 10 ^ (9 - i) + r) = r % 10 :: dl (y * 10 ^ (9 - (i + 1)) + r / 10) ∧ r / 10 < 10 ^ (9 - (i + 1)) := by
  obtain ⟨P, hP⟩ : ∃ P, P = 10 ^ (9 - (i + 1)) := ⟨_, rfl⟩
  have e : 10 ^ (9 - i) = 10 * P := by rw [hP, show 9 - i = (9 - (i + 1)) + 1 by omega, Nat.pow_succ, Nat.mul_comm]
  have hPp : 0 < P := by rw [hP]; exact Nat.pow_pos (by omega)
  rw [← hP]
  rw [e] at hr ⊢
  have e2 : y * (10 * P) = 10 * (y * P) := by rw [← Nat.mul_assoc, Nat.mul_comm y 10, Nat.mul_assoc]
  rw [e2]
  have hpos : 10 * (y * P) + r ≠ 0 := by
    rcases hn with h | h
    · omega
    · have : 0 < y * P := Nat.mul_pos (by omega) hPp
      omega
  refine ⟨?_, by omega⟩
  rw [dl_pos hpos]
  generalize y * P = Z
  congr 1
  · omega
  · congr 1; omega

theorem dl_len : ∀ (k x : Nat), x < 10 ^ k → (dl x).length ≤ k := by
  intro k
  induction k with
  | zero => intro x h; have : x = 0 := by simpa using h
            subst this; rw [dl_zero]; simp
  | succ k ih =>
    intro x h
    by_cases hx : x = 0
    · subst hx; rw [dl_zero]; simp
    · rw [dl_pos hx]
      have : x / 10 < 10 ^ k := by rw [Nat.pow_succ] at h; omega
      have := ih _ this
      simp
      omega

theorem dl_lt : ∀ (n x : Nat), x ≤ n → ∀ d ∈ dl x, d < 10 := by
  intro n
  induction n with
  | zero => intro x h d hd; have : x = 0 := by omega
            subst this; rw [dl_zero] at hd; simp at hd
  | succ n ih =>
    intro x h d hd
    by_cases hx : x = 0
    · subst hx; rw [dl_zero] at hd; simp at hd
    · rw [dl_pos hx] at hd
      rcases List.mem_cons.1 hd with rfl | hd
      · omega
      · exact ih (x / 10) (by omega) d hd

theorem dl_ne {x : Nat} (h : x ≠ 0) : dl x ≠ [] := by rw [dl_pos h]; simp

theorem dec_lt (x : Nat) : ∀ d ∈ dec x, d < 256 := by
  intro d hd
  unfold dec at hd
  split at hd
  · simp at hd; omega
  · have : ∃ a ∈ dl x, a + 48 = d := by simpa using hd
    obtain ⟨a, ha, rfl⟩ := this
    have := dl_lt x x (Nat.le_refl _) a ha
    omega

theorem dval_foldl (l : List Nat) (n : Nat) : l.foldl (fun n d => 10 * n + (d - 48)) n = n * 10 ^ l.length + dval l := by
  induction l generalizing n with
  | nil => simp [dval]
  | cons a l ih =>
    unfold dval
    simp only [List.foldl_cons, List.length_cons]
    rw [ih, ih (10 * 0 + (a - 48)), Nat.pow_succ]
    grind

end Go.Proofs.YtlpfkbkpnljieaaGreat

namespace Go.Proofs.YtlpfkbkpnljieaaGreat

theorem dval_cat (a b : List Nat) : dval (a ++ b) = dval a * 10 ^ b.length + dval b := by
  unfold dval
  rw [List.foldl_append]
  exact dval_foldl b _

theorem Digs.nil : Digs [] := by intro d h; simp at h
theorem Digs.append {a b : List Nat} (ha : Digs a) (hb : Digs b) : Digs (a ++ b) := by
  intro d h
  rcases List.mem_append.1 h with h | h
  · exact ha d h
  · exact hb d h
theorem Digs.take {a : List Nat} (h : Digs a) (k : Nat) : Digs (a.take k) := fun d hd => h d (List.mem_of_mem_take hd)
theorem Digs.drop {a : List Nat} (h : Digs a) (k : Nat) : Digs (a.drop k) := fun d hd => h d (List.mem_of_mem_drop hd)

theorem dval_lt {l : List Nat} (h : Digs l) : dval l < 10 ^ l.length := by
  induction l with
  | nil => simp [dval]
  | cons a l ih =>
    have h1 := h a (by simp)
    have h2 := ih (fun d hd => h d (by simp [hd]))
    have h3 := dval_cat [a] l
    simp only [List.singleton_append] at h3
    rw [h3, List.length_cons, Nat.pow_succ]
    have h4 : dval [a] = a - 48 := by simp [dval]
    rw [h4]
    have : (a - 48) * 10 ^ l.length ≤ 9 * 10 ^ l.length := Nat.mul_le_mul_right _ (by omega)
    omega

/-- The digits from f on, up to e. -/
def seg (l : List Nat) (f e : Nat) : List Nat := (l.take e).drop f

theorem seg_empty (l : List Nat) (f : Nat) : seg l f f = [] := by unfold seg; rw [List.drop_eq_nil_of_le]; simp; omega

theorem seg_succ {l : List Nat} {f i : Nat} (hf : f ≤ i) (hi : i < l.length) : seg l f (i + 1) = seg l f i ++ [dg l i] := by
  unfold seg
  rw [List.take_succ_eq_append_getElem hi, List.drop_append_of_le_length (by simp; omega), dg_of hi]

theorem seg_len {l : List Nat} {f e : Nat} (he : e ≤ l.length) : (seg l f e).length = e - f := by
  unfold seg
  simp [Nat.min_eq_left he]

theorem seg_digs {l : List Nat} (h : Digs l) (f e : Nat) : Digs (seg l f e) := (h.take e).drop f

theorem dval_split {l : List Nat} {f e : Nat} (hf : f ≤ e) (he : e ≤ l.length) : dval (l.take e) = dval (l.take f) * 10 ^ (e - f) + dval (seg l f e) := by
  have e1 : l.take e = l.take f ++ seg l f e := by
    unfold seg
    conv => lhs; rw [← List.take_append_drop f (l.take e)]
    rw [List.take_take, Nat.min_eq_left hf]
  have h := dval_cat (l.take f) (seg l f e)
  rw [← e1, seg_len he] at h
  exact h

/-- One digit by ten thousands more. -/
theorem rparse_step {l o : List Nat} {e k : Nat} (hl : Digs l) (he : e ≤ l.length) (hk : o.length = k) (h : val 10000 o + 10000 ^ k * dval (l.take e) = dval l) (h0 : 0 < e) :
    val 10000 (o ++ [dval (seg l (e - 4) e)]) + 10000 ^ (k + 1) * dval (l.take (e - 4)) = dval l ∧ dval (seg l (e - 4) e) < 10000 := by
  have h1 := dval_split (l := l) (f := e - 4) (e := e) (by omega) he
  have h2 := dval_lt (seg_digs hl (e - 4) e)
  rw [seg_len he] at h2
  have h3 : 10 ^ (e - (e - 4)) ≤ 10 ^ 4 := Nat.pow_le_pow_right (by omega) (by omega)
  refine ⟨?_, by omega⟩
  rw [val_snoc, hk, ← h, h1, Nat.pow_succ]
  by_cases h4 : 4 ≤ e
  · rw [show e - (e - 4) = 4 by omega]
    grind
  · rw [show e - 4 = 0 by omega]
    simp [dval]

theorem dval_all {l o : List Nat} {k : Nat} (h : val 10000 o + 10000 ^ k * dval (l.take 0) = dval l) : val 10000 o = dval l := by
  simpa [dval] using h

theorem dval_seg_step {l : List Nat} {f i : Nat} (_hl : Digs l) (hf : f ≤ i) (hi : i < l.length) : dval (seg l f (i + 1)) = 10 * dval (seg l f i) + (dg l i - 48) := by
  rw [seg_succ hf hi, dval_append]

theorem dg_digs {l : List Nat} (h : Digs l) {i : Nat} (hi : i < l.length) : 48 ≤ dg l i ∧ dg l i ≤ 57 := by
  rw [dg_of hi]; exact h _ (List.getElem_mem hi)

/-- Four digits. -/
def four (d : Nat) : List Nat := [48 + d / 1000, 48 + d / 100 % 10, 48 + d / 10 % 10, 48 + d % 10]

theorem four_digs {d : Nat} (h : d < 10000) : Digs (four d) := by
  intro x hx
  simp [four] at hx
  omega

theorem dval_four {d : Nat} : dval (four d) = d := by
  simp [four, dval]
  omega

theorem dval_cat4 (a : List Nat) (d : Nat) : dval (a ++ four d) = 10000 * dval a + d := by
  rw [dval_cat, dval_four]
  simp [four]
  omega

theorem dec_of_digs {l : List Nat} (h : Digs l) (hne : l ≠ []) (h0 : dg l 0 ≠ 48) : l = dec (dval l) := by
  rcases l with _ | ⟨a, l⟩
  · exact absurd rfl hne
  · have ha := h a (by simp)
    have h1 : a ≠ 48 := by simpa [dg] using h0
    have hp := dval_pos (a := a) (by omega) l rfl
    unfold dec
    rw [if_neg (by omega)]
    exact (dl_dval _ _ rfl h ⟨a, l, rfl, by omega⟩).symm

theorem dval_strip {a : List Nat} (h0 : dg a 0 = 48) : dval (a.drop 1) = dval a := by
  rcases a with _ | ⟨b, l⟩
  · rfl
  · have : b = 48 := by simpa [dg] using h0
    subst this
    have := dval_cat [48] l
    simp only [List.singleton_append] at this
    rw [this]
    simp [dval]

theorem dval_ne {a : List Nat} (h : dval a ≠ 0) : a ≠ [] := by rintro rfl; exact h rfl

theorem val_drop_step {B : Nat} {l : List Nat} {k : Nat} (hk : k < l.length) : val B (l.drop k) = dg l k + B * val B (l.drop (k + 1)) := by
  rw [List.drop_eq_getElem_cons hk, val_cons, dg_of hk]

end Go.Proofs.YtlpfkbkpnljieaaGreat

namespace Go.Proofs.YtlpfkbkpnljieaaGreat
/-- Euclid's walk: what the four multipliers' distances from 0 are. -/
def BzI (A B g h X Y U V : Nat) : Prop := g * U + h * X = B ∧ g * V + h * Y = A ∧ ((U = 0 ∧ V = 1 ∧ X = 1 ∧ Y = 0) ∨ (h < g ∧ ((X ≤ 1 ∧ Y ≤ 1) ∨ (X ≤ U ∧ Y ≤ V))))

theorem BzI.step {A B g h X Y U V : Nat} (H : BzI A B g h X Y U V) (h0 : 0 < h) : BzI A B h (g % h) U V (X + g / h * U) (Y + g / h * V) := by
  obtain ⟨h1, h2, h3⟩ := H
  have hd := Nat.div_add_mod g h
  have hm := Nat.mod_lt g h0
  have e : ∀ a b : Nat, h * (a + g / h * b) + g % h * b = g * b + h * a := fun a b => by
    have : g * b = (h * (g / h) + g % h) * b := by rw [hd]
    rw [this, Nat.mul_add, Nat.add_mul, Nat.mul_assoc]; omega
  refine ⟨by rw [e]; exact h1, by rw [e]; exact h2, .inr ⟨hm, ?_⟩⟩
  by_cases hq : g / h = 0
  · have hlt : g < h := by
      rcases Nat.lt_or_ge g h with h' | h'
      · exact h'
      · have := Nat.div_pos h' h0; omega
    rcases h3 with ⟨rfl, rfl, rfl, rfl⟩ | ⟨h4, _⟩
    · left; omega
    · omega
  · right
    have hq' : 1 ≤ g / h := Nat.pos_of_ne_zero hq
    have e1 : U ≤ g / h * U := by simpa using Nat.mul_le_mul_right U hq'
    have e2 : V ≤ g / h * V := by simpa using Nat.mul_le_mul_right V hq'
    omega

theorem BzI.done {A B g X Y U V : Nat} (H : BzI A B g 0 X Y U V) : (X ≤ 1 ∧ Y ≤ 1) ∨ (X ≤ B ∧ Y ≤ A) := by
  obtain ⟨h1, h2, h3⟩ := H
  rcases h3 with ⟨rfl, rfl, rfl, rfl⟩ | ⟨h4, h5⟩
  · left; omega
  · rcases h5 with h5 | h5
    · exact .inl h5
    · right
      have e1 : U ≤ g * U := by simpa using Nat.mul_le_mul_right U h4
      have e2 : V ≤ g * V := by simpa using Nat.mul_le_mul_right V h4
      omega

theorem BzI.le {A B g h X Y U V : Nat} (H : BzI A B g h X Y U V) (h0 : 0 < h) : X ≤ B ∧ Y ≤ A := by
  obtain ⟨h1, h2, _⟩ := H
  have e1 : X ≤ h * X := by simpa using Nat.mul_le_mul_right X h0
  have e2 : Y ≤ h * Y := by simpa using Nat.mul_le_mul_right Y h0
  omega

/-- The walk with its signs: s is 1 or -1. -/
def BzS (A B g h : Nat) (x y u v : Int) : Prop := ∃ (s : Int) (X Y U V : Nat), (s = 1 ∨ s = -1) ∧ x = s * X ∧ y = -(s * Y) ∧ u = -(s * U) ∧ v = s * V ∧ BzI A B g h X Y U V ∧ (A : Int) * x + B * y = g ∧ (A : Int) * u + B * v = h

theorem BzS.step {A B g h : Nat} {x y u v : Int} (H : BzS A B g h x y u v) (h0 : 0 < h) :
    BzS A B h (g % h) u v (x - ((g / h : Nat) : Int) * u) (y - ((g / h : Nat) : Int) * v) := by
  obtain ⟨s, X, Y, U, V, hs, rfl, rfl, rfl, rfl, hI, h1, h2⟩ := H
  have hd : ((h : Int) * ((g / h : Nat) : Int) + ((g % h : Nat) : Int)) = g := by exact_mod_cast Nat.div_add_mod g h
  have hI' := hI.step h0
  generalize g / h = q at *
  generalize g % h = r at *
  refine ⟨-s, U, V, X + q * U, Y + q * V, by omega, ?_, ?_, ?_, ?_, hI', h2, ?_⟩
  · rw [Int.neg_mul]
  · rw [Int.neg_mul, Int.neg_neg]
  · push_cast
    rw [Int.mul_neg, Int.neg_mul, Int.neg_neg, Int.mul_add]
    have : (q : Int) * (s * (U : Int)) = s * (q * U) := by rw [Int.mul_left_comm]
    omega
  · push_cast
    rw [Int.neg_mul, Int.mul_add]
    have : (q : Int) * (s * (V : Int)) = s * (q * V) := by rw [Int.mul_left_comm]
    omega
  · rw [Int.mul_sub, Int.mul_sub, Int.mul_left_comm (A : Int) q, Int.mul_left_comm (B : Int) q]
    have : (q : Int) * ((A : Int) * -(s * ↑U)) + q * ((B : Int) * (s * ↑V)) = q * h := by rw [← Int.mul_add, h2]
    rw [Int.mul_comm] at hd
    omega

theorem BzS.le {A B g h : Nat} {x y u v : Int} (H : BzS A B g h x y u v) (h0 : 0 < h) : x.natAbs ≤ B ∧ y.natAbs ≤ A := by
  obtain ⟨s, X, Y, U, V, hs, rfl, rfl, rfl, rfl, hI, -, -⟩ := H
  have := hI.le h0
  rcases hs with rfl | rfl <;> simp [Int.natAbs_neg] <;> omega

theorem BzS.done {A B g : Nat} {x y u v : Int} (H : BzS A B g 0 x y u v) : (A : Int) * x + B * y = g ∧ ((x.natAbs ≤ 1 ∧ y.natAbs ≤ 1) ∨ (x.natAbs ≤ B ∧ y.natAbs ≤ A)) := by
  obtain ⟨s, X, Y, U, V, hs, rfl, rfl, rfl, rfl, hI, h1, -⟩ := H
  refine ⟨h1, ?_⟩
  have := hI.done
  rcases hs with rfl | rfl <;> simp [Int.natAbs_neg] <;> omega
end Go.Proofs.YtlpfkbkpnljieaaGreat

namespace Go.Proofs.YtlpfkbkpnljieaaGreat
theorem floor_pos_div {a b : Int} (ha : 0 ≤ a) (hb : b ≠ 0) :
    (a / b = if b < 0 then -((a.natAbs / b.natAbs : Nat) : Int) else ((a.natAbs / b.natAbs : Nat) : Int)) ∧ a % b = ((a.natAbs % b.natAbs : Nat) : Int) := by
  obtain ⟨n, rfl⟩ := Int.eq_ofNat_of_zero_le ha
  by_cases h : b < 0
  · obtain ⟨m, rfl⟩ : ∃ m : Nat, b = -(m : Int) := ⟨b.natAbs, by omega⟩
    simp only [Int.ediv_neg, Int.emod_neg, Int.natAbs_neg, Int.natAbs_natCast, if_pos h]
    exact ⟨by rw [Int.natCast_ediv], by rw [Int.natCast_emod]⟩
  · obtain ⟨m, rfl⟩ := Int.eq_ofNat_of_zero_le (Int.not_lt.1 h)
    simp only [Int.natAbs_natCast, if_neg h]
    exact ⟨by rw [Int.natCast_ediv], by rw [Int.natCast_emod]⟩

theorem floor_neg_zero {a b : Int} (ha : a < 0) (hb : b ≠ 0) (hr : a.natAbs % b.natAbs = 0) :
    (a / b = if b < 0 then ((a.natAbs / b.natAbs : Nat) : Int) else -((a.natAbs / b.natAbs : Nat) : Int)) ∧ a % b = 0 := by
  have hd : b ∣ a := Int.natAbs_dvd_natAbs.1 (Nat.dvd_of_mod_eq_zero hr)
  have h0 : a % b = 0 := Int.emod_eq_zero_of_dvd hd
  refine ⟨?_, h0⟩
  have h1 := Nat.div_add_mod a.natAbs b.natAbs
  have h2 := Int.mul_ediv_add_emod a b
  have h3 : ((a.natAbs : Nat) : Int) = -a := by omega
  have h4 : ((b.natAbs * (a.natAbs / b.natAbs) : Nat) : Int) = -a := by rw [← h3]; congr 1; omega
  rw [Int.natCast_mul] at h4
  split
  · rename_i h
    have h5 : ((b.natAbs : Nat) : Int) = -b := by omega
    rw [h5] at h4
    have : b * (a / b) = b * ((a.natAbs / b.natAbs : Nat) : Int) := by rw [Int.neg_mul] at h4; omega
    exact Int.eq_of_mul_eq_mul_left hb this
  · rename_i h
    have h5 : ((b.natAbs : Nat) : Int) = b := by omega
    rw [h5] at h4
    have : b * (a / b) = b * -((a.natAbs / b.natAbs : Nat) : Int) := by rw [Int.mul_neg]; omega
    exact Int.eq_of_mul_eq_mul_left hb this

theorem floor_neg_pos {a b : Int} (ha : a < 0) (hb : b ≠ 0) (hr : a.natAbs % b.natAbs ≠ 0) :
    (a / b = if b < 0 then ((a.natAbs / b.natAbs : Nat) : Int) + 1 else -((a.natAbs / b.natAbs : Nat) : Int) - 1) ∧ a % b = ((b.natAbs : Nat) : Int) - ((a.natAbs % b.natAbs : Nat) : Int) := by
  have h1 := Nat.div_add_mod a.natAbs b.natAbs
  have hb0 : 0 < b.natAbs := by omega
  have hlt := Nat.mod_lt a.natAbs hb0
  have h3 : ((a.natAbs : Nat) : Int) = -a := by omega
  have h4 : ((b.natAbs * (a.natAbs / b.natAbs) : Nat) : Int) = -a - ((a.natAbs % b.natAbs : Nat) : Int) := by rw [← h3]; omega
  rw [Int.natCast_mul] at h4
  generalize ((a.natAbs / b.natAbs : Nat) : Int) = q at *
  have hlt' : ((a.natAbs % b.natAbs : Nat) : Int) < ((b.natAbs : Nat) : Int) := by omega
  have hr' : 0 < ((a.natAbs % b.natAbs : Nat) : Int) := by omega
  generalize ((a.natAbs % b.natAbs : Nat) : Int) = r at *
  split
  · rename_i h
    have h5 : ((b.natAbs : Nat) : Int) = -b := by omega
    rw [h5] at h4 hlt' ⊢
    have e : a = b * (q + 1) + (-b - r) := by rw [Int.mul_add, Int.mul_one]; rw [Int.neg_mul] at h4; omega
    have := (Int.ediv_emod_unique' (a := a) (b := b) (r := -b - r) (q := q + 1) h).2 ⟨by omega, by omega, by omega⟩
    exact ⟨this.1, this.2⟩
  · rename_i h
    have h5 : ((b.natAbs : Nat) : Int) = b := by omega
    rw [h5] at h4 hlt' ⊢
    have e : a = b * (-q - 1) + (b - r) := by rw [Int.mul_sub, Int.mul_one, Int.mul_neg]; omega
    have := (Int.ediv_emod_unique (a := a) (b := b) (r := b - r) (q := -q - 1) (by omega)).2 ⟨by omega, by omega, by omega⟩
    exact ⟨this.1, this.2⟩
end Go.Proofs.YtlpfkbkpnljieaaGreat

namespace Go.Proofs.YtlpfkbkpnljieaaGreat

end Go.Proofs.YtlpfkbkpnljieaaGreat
