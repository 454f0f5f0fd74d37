/- Plain laws on lists of digits: their value in a base, without zeros on top, sums, differences, products. Nothing of a program stands here. -/
import Derived.WalkKit
namespace Go.Proofs.Ytnjohlimjbmkgaa

/-- The digit at a place. -/
def dg (l : List Nat) (i : Nat) : Nat := l.getD i 0
theorem dg_eq (l : List Nat) (i : Nat) : dg l i = l.getD i 0 := rfl
theorem dg_of {l : List Nat} {i : Nat} (h : i < l.length) : dg l i = l[i] := by simp [dg, h]
theorem dg_lt {l : List Nat} {B : Nat} (h : ∀ d ∈ l, d < B) (hB : 0 < B) (i : Nat) : dg l i < B := by
  by_cases hi : i < l.length
  · rw [dg_of hi]; exact h _ (List.getElem_mem hi)
  · simp [dg, List.getElem?_eq_none (Nat.le_of_not_lt hi), hB]

/-- The value of digits, the lowest first, in base B. -/
def val (B : Nat) : List Nat → Nat
  | [] => 0
  | d :: l => d + B * val B l

theorem val_nil (B : Nat) : val B [] = 0 := rfl
theorem val_cons (B d : Nat) (l : List Nat) : val B (d :: l) = d + B * val B l := rfl

theorem val_append (B : Nat) (l m : List Nat) : val B (l ++ m) = val B l + B ^ l.length * val B m := by
  induction l with
  | nil => simp [val]
  | cons d l ih =>
    simp only [List.cons_append, val_cons, ih, List.length_cons, Nat.pow_succ]
    grind

theorem val_snoc (B : Nat) (l : List Nat) (d : Nat) : val B (l ++ [d]) = val B l + B ^ l.length * d := by
  rw [val_append]; simp [val]

theorem val_lt (B : Nat) (l : List Nat) (h : ∀ d ∈ l, d < B) : val B l < B ^ l.length := by
  induction l with
  | nil => simp [val]
  | cons d l ih =>
    have h1 : d < B := h d (by simp)
    have h2 := ih (fun x hx => h x (by simp [hx]))
    simp only [val_cons, List.length_cons, Nat.pow_succ]
    have h3 : B * (val B l + 1) ≤ B * B ^ l.length := Nat.mul_le_mul_left B h2
    grind

theorem val_zeros (B : Nat) (l : List Nat) (h : ∀ d ∈ l, d = 0) : val B l = 0 := by
  induction l with
  | nil => rfl
  | cons d l ih => simp [val, h d (by simp), ih (fun x hx => h x (by simp [hx]))]

theorem val_replicate (B n : Nat) : val B (List.replicate n 0) = 0 := val_zeros B _ (by simp)

theorem val_take_drop (B : Nat) (l : List Nat) (k : Nat) (hk : k ≤ l.length) : val B l = val B (l.take k) + B ^ k * val B (l.drop k) := by
  conv => lhs; rw [← List.take_append_drop k l, val_append]
  simp [Nat.min_eq_left hk]

theorem val_take_succ (B : Nat) (l : List Nat) (k : Nat) (hk : k < l.length) : val B (l.take (k + 1)) = val B (l.take k) + B ^ k * dg l k := by
  rw [List.take_succ_eq_append_getElem hk, val_snoc]
  simp [Nat.min_eq_left (Nat.le_of_lt hk), dg, hk]

theorem val_take_all (B : Nat) (l : List Nat) (k : Nat) (hk : l.length ≤ k) : val B (l.take k) = val B l := by
  rw [List.take_of_length_le hk]

theorem val_take_big (B : Nat) (l : List Nat) (k : Nat) (hk : l.length ≤ k) : val B (l.take (k + 1)) = val B (l.take k) := by
  rw [List.take_of_length_le hk, List.take_of_length_le (by omega)]

/-- No zero on top. -/
def Norm (l : List Nat) : Prop := l.getLast? ≠ some 0

theorem norm_nil : Norm [] := by simp [Norm]

theorem Norm.pos (B : Nat) {l : List Nat} (h : Norm l) (hl : l ≠ []) : B ^ (l.length - 1) ≤ val B l := by
  obtain ⟨m, d, rfl⟩ : ∃ m d, l = m ++ [d] := ⟨l.dropLast, l.getLast hl, (List.dropLast_concat_getLast hl).symm⟩
  have hd : d ≠ 0 := by simpa [Norm] using h
  simp only [val_snoc, List.length_append, List.length_cons, List.length_nil]
  have : B ^ m.length * 1 ≤ B ^ m.length * d := Nat.mul_le_mul_left _ (by omega)
  simp only [Nat.zero_add, Nat.add_sub_cancel]
  omega

theorem Norm.zero_iff {B : Nat} {l : List Nat} (hB : 0 < B) (h : Norm l) : val B l = 0 ↔ l = [] := by
  constructor
  · intro h0
    by_cases hl : l = []
    · exact hl
    · have := h.pos B hl
      have := Nat.pow_pos (n := l.length - 1) hB
      omega
  · rintro rfl; rfl

/-- The longer of two is the greater. -/
theorem Norm.len_lt {B : Nat} {l m : List Nat} (hB : 0 < B) (hm : Norm m) (hl : ∀ d ∈ l, d < B) (h : l.length < m.length) : val B l < val B m := by
  have h1 := val_lt B l hl
  have h2 := hm.pos B (fun e => by simp [e] at h)
  have h3 : B ^ l.length ≤ B ^ (m.length - 1) := Nat.pow_le_pow_right hB (by omega)
  omega

theorem Norm.len_le {B : Nat} {l m : List Nat} (hB : 0 < B) (hl : Norm l) (hm : ∀ d ∈ m, d < B) (h : val B l ≤ val B m) : l.length ≤ m.length := by
  by_cases hh : m.length < l.length
  · have := hl.len_lt hB hm hh
    omega
  · omega

theorem Norm.len_of_lt {B : Nat} {l : List Nat} {k : Nat} (hB : 1 < B) (hl : Norm l) (h : val B l < B ^ k) : l.length ≤ k := by
  by_cases hh : l = []
  · simp [hh]
  · have := hl.pos B hh
    have h2 : B ^ (l.length - 1) < B ^ k := Nat.lt_of_le_of_lt this h
    have := (Nat.pow_lt_pow_iff_right hB).1 h2
    omega

/-- Digits of one number, without zeros on top, are the same. -/
theorem val_inj {B : Nat} (hB : 0 < B) : ∀ {l m : List Nat}, (∀ d ∈ l, d < B) → (∀ d ∈ m, d < B) → l.length = m.length → val B l = val B m → l = m
  | [], [], _, _, _, _ => rfl
  | [], _ :: _, _, _, h, _ => by simp at h
  | _ :: _, [], _, _, h, _ => by simp at h
  | d :: l, e :: m, hl, hm, hlen, h => by
    have h1 : d < B := hl d (by simp)
    have h2 : e < B := hm e (by simp)
    simp only [val_cons] at h
    have h3 : d = e := by
      have := congrArg (· % B) h
      simpa [Nat.add_mul_mod_self_left, Nat.mod_eq_of_lt h1, Nat.mod_eq_of_lt h2] using this
    subst h3
    have h4 : val B l = val B m := Nat.eq_of_mul_eq_mul_left hB (by omega)
    rw [val_inj hB (fun x hx => hl x (by simp [hx])) (fun x hx => hm x (by simp [hx])) (by simpa using hlen) h4]

theorem Norm.inj {B : Nat} {l m : List Nat} (hB : 0 < B) (hl : Norm l) (hm : Norm m) (dl : ∀ d ∈ l, d < B) (dm : ∀ d ∈ m, d < B) (h : val B l = val B m) : l = m := by
  have h1 := hl.len_le hB dm (by omega)
  have h2 := hm.len_le hB dl (by omega)
  exact val_inj hB dl dm (by omega) h

/-- What 'cut' leaves. -/
theorem norm_take {l : List Nat} {k : Nat} (hk : k ≤ l.length) (hz : ∀ i, k ≤ i → i < l.length → dg l i = 0) (hp : 0 < k → dg l (k - 1) ≠ 0) (B : Nat) :
    Norm (l.take k) ∧ val B (l.take k) = val B l := by
  constructor
  · intro h
    rw [List.getLast?_eq_getElem?] at h
    simp only [List.length_take, Nat.min_eq_left hk] at h
    by_cases h0 : 0 < k
    · have := hp h0
      rw [List.getElem?_take_of_lt (by omega)] at h
      simp [dg, h] at this
    · obtain rfl : k = 0 := by omega
      simp at h
  · rw [val_take_drop B l k hk, val_zeros B (l.drop k)]
    · simp
    · intro d hd
      obtain ⟨i, hi, rfl⟩ := List.mem_iff_getElem.1 hd
      simp only [List.length_drop] at hi
      have := hz (k + i) (by omega) (by omega)
      simpa [dg, show k + i < l.length by omega] using this

/-- Which of two numbers of one length is the greater: by the highest place where they part. -/
theorem val_lt_at {B : Nat} {l m : List Nat} {i : Nat} (hlen : l.length = m.length) (hi : i < l.length) (hl : ∀ d ∈ l, d < B)
    (hlt : dg l i < dg m i) (hs : ∀ j, i < j → j < l.length → dg l j = dg m j) : val B l < val B m := by
  have e : l.drop (i + 1) = m.drop (i + 1) := by
    apply List.ext_getElem (by simp [hlen])
    intro j h1 h2
    simp only [List.length_drop] at h1
    have := hs (i + 1 + j) (by omega) (by omega)
    simpa [dg, show i + 1 + j < l.length by omega, show i + 1 + j < m.length by omega] using this
  rw [val_take_drop B l (i + 1) (by omega), val_take_drop B m (i + 1) (by omega), e, val_take_succ B l i hi, val_take_succ B m i (by omega)]
  have h1 : val B (l.take i) < B ^ (l.take i).length := val_lt B _ (fun d hd => hl d (List.mem_of_mem_take hd))
  simp only [List.length_take, Nat.min_eq_left (Nat.le_of_lt hi)] at h1
  have h2 : B ^ i * (dg l i + 1) ≤ B ^ i * dg m i := Nat.mul_le_mul_left _ hlt
  rw [Nat.mul_add] at h2
  omega

theorem eq_of_digits {l m : List Nat} (hlen : l.length = m.length) (hs : ∀ j, j < l.length → dg l j = dg m j) : l = m := by
  apply List.ext_getElem hlen
  intro j h1 h2
  simpa [dg, h1, h2] using hs j h1

theorem times_step {B k q m r x : Nat} {o l : List Nat} (hlen : o.length = k) (hk : k < l.length) (hx : dg l k = x) (h : val B o + B ^ k * q = val B (l.take k) * m + r) :
    val B (o ++ [(q + x * m) % B]) + B ^ (k + 1) * ((q + x * m) / B) = val B (l.take (k + 1)) * m + r := by
  rw [val_snoc, hlen, val_take_succ B l k hk, hx, Nat.pow_succ]
  have h1 := Nat.div_add_mod (q + x * m) B
  generalize (q + x * m) / B = u at *
  generalize (q + x * m) % B = v at *
  grind

theorem dg_big {l : List Nat} {k : Nat} (h : l.length ≤ k) : dg l k = 0 := by simp [dg, List.getElem?_eq_none h]

theorem val_take_next (B : Nat) (l : List Nat) (k : Nat) : val B (l.take (k + 1)) = val B (l.take k) + B ^ k * dg l k := by
  by_cases h : k < l.length
  · exact val_take_succ B l k h
  · rw [val_take_big B l k (by omega), dg_big (by omega)]; simp

theorem add_step {B k q x y z : Nat} {o l r : List Nat} (hlen : o.length = k) (hx : dg l k = x) (hy : dg r k = y) (hz : q + x + y = z) (h : val B o + B ^ k * q = val B (l.take k) + val B (r.take k)) :
    val B (o ++ [z % B]) + B ^ (k + 1) * (z / B) = val B (l.take (k + 1)) + val B (r.take (k + 1)) := by
  rw [val_snoc, hlen, val_take_next B l k, val_take_next B r k, hx, hy, Nat.pow_succ]
  have h1 := Nat.div_add_mod z B
  generalize z / B = u at *
  generalize z % B = v at *
  grind

theorem less_step1 {B k q x y : Nat} {o l r : List Nat} (hlen : o.length = k) (hx : dg l k = x) (hy : dg r k = y) (hz : q + y ≤ x) (h : val B (l.take k) + B ^ k * q = val B o + val B (r.take k)) :
    val B (l.take (k + 1)) + B ^ (k + 1) * 0 = val B (o ++ [x - (q + y)]) + val B (r.take (k + 1)) := by
  rw [val_snoc, hlen, val_take_next B l k, val_take_next B r k, hx, hy]
  obtain ⟨z, rfl⟩ : ∃ z, x = q + y + z := ⟨x - (q + y), by omega⟩
  rw [Nat.add_sub_cancel_left]
  grind

theorem less_step2 {B k q x y : Nat} {o l r : List Nat} (hlen : o.length = k) (hx : dg l k = x) (hy : dg r k = y) (hz : q + y ≤ x + B) (h : val B (l.take k) + B ^ k * q = val B o + val B (r.take k)) :
    val B (l.take (k + 1)) + B ^ (k + 1) * 1 = val B (o ++ [x + B - (q + y)]) + val B (r.take (k + 1)) := by
  rw [val_snoc, hlen, val_take_next B l k, val_take_next B r k, hx, hy, Nat.pow_succ]
  obtain ⟨z, hz'⟩ : ∃ z, x + B = q + y + z := ⟨x + B - (q + y), by omega⟩
  rw [hz', Nat.add_sub_cancel_left]
  have h2 : B ^ k * (x + B) = B ^ k * (q + y + z) := by rw [hz']
  grind

theorem less_end {B n q : Nat} {o l r : List Nat} (ho : ∀ d ∈ o, d < B) (hol : o.length = n) (hrl : val B r ≤ val B l) (h : val B l + B ^ n * q = val B o + val B r) : val B o = val B l - val B r := by
  have h1 := val_lt B o ho
  rw [hol] at h1
  cases q with
  | zero => simp at h; omega
  | succ q =>
    have : B ^ n * 1 ≤ B ^ n * (q + 1) := Nat.mul_le_mul_left _ (by omega)
    omega

theorem by_step {B d j q x : Nat} {o l : List Nat} (hj : j < l.length) (hlen : l.length = o.length) (hx : dg l j = x) (h : val B (l.drop (j + 1)) = d * val B (o.drop (j + 1)) + q) :
    val B (l.drop j) = d * val B ((o.set j ((q * B + x) / d)).drop j) + (q * B + x) % d := by
  have h1 := Nat.div_add_mod (q * B + x) d
  generalize (q * B + x) / d = u at *
  generalize (q * B + x) % d = v at *
  have h2 : j < (o.set j u).length := by rw [List.length_set]; omega
  have h3 : (o.set j u).drop j = u :: o.drop (j + 1) := by
    rw [List.drop_eq_getElem_cons h2, List.getElem_set_self, List.drop_set_of_lt (by omega)]
  rw [dg_of hj] at hx
  rw [h3, List.drop_eq_getElem_cons hj, val_cons, h, val_cons, hx]
  grind

theorem div_limb {q x d : Nat} (hq : q < d) (hx : x < 4294967296) : (q * 4294967296 + x) / d < 4294967296 := by
  rw [Nat.div_lt_iff_lt_mul (by omega)]
  have : (q + 1) * 4294967296 ≤ d * 4294967296 := Nat.mul_le_mul_right _ hq
  grind

theorem set_lt {B : Nat} {o : List Nat} {j d : Nat} (h : ∀ x ∈ o, x < B) (hd : d < B) : ∀ x ∈ o.set j d, x < B := by
  intro x hx
  rcases List.mem_or_eq_of_mem_set hx with hx | rfl
  · exact h x hx
  · exact hd

theorem snoc_lt {B : Nat} {o : List Nat} {d : Nat} (h : ∀ x ∈ o, x < B) (hd : d < B) : ∀ x ∈ o ++ [d], x < B := by
  intro x hx
  rcases List.mem_append.1 hx with hx | hx
  · exact h x hx
  · simp at hx; omega

theorem or_add (q x : Nat) (hx : x < 4294967296) : q * 4294967296 ||| x = q * 4294967296 + x := by
  have h := Nat.two_pow_add_eq_or_of_lt (i := 32) (b := x) (by omega) q
  rw [show (2 : Nat) ^ 32 = 4294967296 from rfl, Nat.mul_comm] at h
  exact h.symm

/-- Two limbs beside one another. -/
theorem or_join (q x : Nat) (hq : q < 4294967296) (hx : x < 4294967296) : bits .or .u64 ((q : Int) * 4294967296) (x : Int) = ((q * 4294967296 + x : Nat) : Int) := by
  have h := u64_or_nat (q * 4294967296) x (by omega) (by omega)
  rw [or_add q x hx] at h
  rw [← h]
  rfl

/-- Less, the same, greater. -/
def cmpN (x y : Nat) : Int := if x < y then -1 else if x = y then 0 else 1

theorem cmpN_lt {x y : Nat} (h : x < y) : cmpN x y = -1 := by simp [cmpN, h]
theorem cmpN_gt {x y : Nat} (h : y < x) : cmpN x y = 1 := by unfold cmpN; rw [if_neg (by omega), if_neg (by omega)]
theorem cmpN_eq (x : Nat) : cmpN x x = 0 := by unfold cmpN; rw [if_neg (by omega), if_pos rfl]

theorem val_two (B a b : Nat) : val B [a, b] = a + B * b := by simp [val]

theorem val_top {B : Nat} {l : List Nat} {j : Nat} (h : l.length = j + 1) : val B l = val B (l.take j) + B ^ j * dg l j := by
  have h1 := val_take_next B l j
  rw [val_take_all B l (j + 1) (by omega)] at h1
  exact h1

theorem or_join2 (q x : Nat) (hq : q < 4294967296) (hx : x < 4294967296) : bits .or .u64 (q : Int) ((x : Int) * 4294967296) = ((q + x * 4294967296 : Nat) : Int) := by
  have h := u64_or_nat q (x * 4294967296) (by omega) (by omega)
  rw [Nat.or_comm, or_add x q hq] at h
  rw [Nat.add_comm, ← h]
  rfl

theorem or_zero64 (x : Nat) (hx : x < 18446744073709551616) : bits .or .u64 0 (x : Int) = (x : Int) := by
  have h := u64_or_nat 0 x (by omega) hx
  simpa using h

theorem val_set (B : Nat) (l : List Nat) (j d : Nat) (hj : j < l.length) : val B (l.set j d) + B ^ j * dg l j = val B l + B ^ j * d := by
  have h1 := val_take_drop B l j (by omega)
  have h2 := val_take_drop B (l.set j d) j (by simp; omega)
  rw [List.drop_eq_getElem_cons hj, val_cons] at h1
  have h3 : (l.set j d).drop j = d :: l.drop (j + 1) := by
    rw [List.drop_eq_getElem_cons (by simp; omega), List.getElem_set_self, List.drop_set_of_lt (by omega)]
  rw [List.take_set_of_le (by omega), h3, val_cons] at h2
  rw [h1, h2, dg_of hj]
  grind

theorem dg_set_ne {l : List Nat} {i j d : Nat} (h : i ≠ j) : dg (l.set i d) j = dg l j := by simp [dg, List.getElem?_set_ne h]

theorem mul_bound (q x y z : Nat) (hq : q < 4294967296) (hx : x < 4294967296) (hy : y < 4294967296) (hz : z < 4294967296) : (q + (x * y + z)) / 4294967296 < 4294967296 ∧ q + (x * y + z) < 18446744073709551616 := by
  have : x * y ≤ 4294967295 * 4294967295 := Nat.mul_le_mul (by omega) (by omega)
  omega

theorem mul_step {B i k q x y z a : Nat} {o r : List Nat} (hp : i + k < o.length) (hy : dg r k = y) (hz : dg o (i + k) = z)
    (h : val B o + B ^ (i + k) * q = a + B ^ i * x * val B (r.take k)) :
    val B (o.set (i + k) ((q + (x * y + z)) % B)) + B ^ (i + (k + 1)) * ((q + (x * y + z)) / B) = a + B ^ i * x * val B (r.take (k + 1)) := by
  have h1 := val_set B o (i + k) ((q + (x * y + z)) % B) hp
  rw [hz] at h1
  rw [val_take_next B r k, hy]
  have h2 := Nat.div_add_mod (q + (x * y + z)) B
  generalize (q + (x * y + z)) / B = u at *
  generalize (q + (x * y + z)) % B = v at *
  have e1 : B ^ (i + (k + 1)) = B ^ (i + k) * B := by rw [← Nat.add_assoc, Nat.pow_succ]
  have e2 : B ^ (i + k) = B ^ i * B ^ k := Nat.pow_add B i k
  have h3 : B ^ (i + k) * (B * u + v) = B ^ (i + k) * (q + (x * y + z)) := by rw [h2]
  rw [e1]
  have h4 : val B (o.set (i + k) v) + B ^ (i + k) * z + B ^ (i + k) * (B * u) = val B o + B ^ (i + k) * (q + (x * y + z)) := by rw [← h3, h1]; grind
  have h5 : val B (o.set (i + k) v) + B ^ (i + k) * (B * u) = val B o + B ^ (i + k) * q + B ^ (i + k) * (x * y) := by grind
  rw [Nat.mul_assoc, h5, h, e2]
  grind

theorem mul_row {B i m q x : Nat} {o l r : List Nat} (hp : i + m < o.length) (hm : r.length = m) (hx : dg l i = x) (hz : dg o (i + m) = 0)
    (h : val B o + B ^ (i + m) * q = val B (l.take i) * val B r + B ^ i * x * val B (r.take m)) :
    val B (o.set (i + m) q) = val B (l.take (i + 1)) * val B r := by
  have h1 := val_set B o (i + m) q hp
  rw [hz] at h1
  rw [val_take_all B r m (by omega)] at h
  rw [val_take_next B l i, hx]
  grind

theorem shl_lt {q x sh : Nat} (hq : q < 2 ^ sh) (hx : x < 4294967296) (hs : sh < 32) : q + x * 2 ^ sh < 18446744073709551616 ∧ (q + x * 2 ^ sh) / 4294967296 < 2 ^ sh ∧ q < 4294967296 := by
  have h1 : 2 ^ sh ≤ 2 ^ 31 := Nat.pow_le_pow_right (by omega) (by omega)
  have h2 : (x + 1) * 2 ^ sh ≤ 4294967296 * 2 ^ sh := Nat.mul_le_mul_right _ hx
  rw [Nat.add_mul] at h2
  refine ⟨by omega, ?_, by omega⟩
  rw [Nat.div_lt_iff_lt_mul (by omega)]
  omega

theorem or_shift (q x sh : Nat) (hq : q < 2 ^ sh) (hx : x < 4294967296) (hs : sh < 32) : bits .or .u64 (q : Int) (IntKind.u64.wrap ((x : Int) * 2 ^ sh)) = ((q + x * 2 ^ sh : Nat) : Int) := by
  obtain ⟨h1, _, h2⟩ := shl_lt hq hx hs
  have e : (x : Int) * 2 ^ sh = ((x * 2 ^ sh : Nat) : Int) := by simp
  rw [e, IntWalk.u64_in _ (by omega), u64_or_nat q (x * 2 ^ sh) (by omega) (by omega)]
  congr 1
  have h := Nat.two_pow_add_eq_or_of_lt hq x
  rw [Nat.mul_comm, Nat.or_comm, ← h, Nat.add_comm, Nat.mul_comm]

theorem up_step {B K k q x P N : Nat} {o l : List Nat} (hlen : o.length = K + k) (hx : dg l k = x) (hN : q + x * P = N) (h : val B o + B ^ (K + k) * q = B ^ K * (val B (l.take k) * P)) :
    val B (o ++ [N % B]) + B ^ (K + (k + 1)) * (N / B) = B ^ K * (val B (l.take (k + 1)) * P) := by
  rw [val_snoc, hlen, val_take_next B l k, hx]
  have h1 := Nat.div_add_mod N B
  generalize N / B = u at *
  generalize N % B = v at *
  have e1 : B ^ (K + (k + 1)) = B ^ (K + k) * B := by rw [← Nat.add_assoc, Nat.pow_succ]
  have e2 : B ^ (K + k) = B ^ K * B ^ k := Nat.pow_add B K k
  have h3 : B ^ (K + k) * (B * u + v) = B ^ (K + k) * (q + x * P) := by rw [h1, hN]
  have h4 : val B o + B ^ (K + k) * v + B ^ (K + (k + 1)) * u = val B o + B ^ (K + k) * q + B ^ (K + k) * (x * P) := by rw [e1]; grind
  rw [h4, h, e2]
  grind

/-- A product of two limbs, as an Int. -/
theorem mul_lim (x m : Nat) (hx : x < 4294967296) (hm : m < 4294967296) : 0 ≤ (x : Int) * m ∧ (x : Int) * m ≤ 18446744065119617025 := by
  have h : x * m ≤ 18446744065119617025 := by
    have : x * m ≤ 4294967295 * 4294967295 := Nat.mul_le_mul (by omega) (by omega)
    omega
  rw [← Int.natCast_mul]
  omega

end Go.Proofs.Ytnjohlimjbmkgaa
