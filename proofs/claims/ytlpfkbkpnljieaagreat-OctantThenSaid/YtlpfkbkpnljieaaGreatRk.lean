/- How great numbers are, by bits; limbs by bits. The reference's sign of a number with two roots: other roots, bounds. Plain laws. How near to 0 a number with two roots can come. Plain laws. The reference's search for the sign ends. Plain laws. -/
import Derived.Test.YtlpfkbkpnljieaaGreatSu
import Derived.Test.YtlpfkbkpnljieaaGreatSy
set_option linter.unusedSimpArgs false
set_option linter.unusedVariables false
namespace Go.Proofs.YtlpfkbkpnljieaaGreat
open Go.RowKit Go.IntWalk

/-- Numerator and denominator have so many bits at most. -/
def bq (b : Nat) (q : Rat) : Prop := q.num.natAbs < 2 ^ b ∧ q.den < 2 ^ b
theorem pow_mono2 {a b : Nat} (h : a ≤ b) : 2 ^ a ≤ 2 ^ b := Nat.pow_le_pow_right (by decide) h
theorem bq.mono {a b : Nat} {q : Rat} (h : bq a q) (hab : a ≤ b) : bq b q := ⟨Nat.lt_of_lt_of_le h.1 (pow_mono2 hab), Nat.lt_of_lt_of_le h.2 (pow_mono2 hab)⟩
theorem bq.of {n d : Int} {q : Rat} {b : Nat} (hd : 0 < d) (h : q = Rat.divInt n d) (h1 : n.natAbs < 2 ^ b) (h2 : d.natAbs < 2 ^ b) : bq b q := by
  obtain ⟨g, hg, e1, e2⟩ := parts_of hd h
  have hn : n.natAbs = q.num.natAbs * g.natAbs := by rw [e1, Int.natAbs_mul]
  have hdd : d.natAbs = q.den * g.natAbs := by rw [e2, Int.natAbs_mul]; rfl
  have hg1 : 1 ≤ g.natAbs := by omega
  constructor
  · have : q.num.natAbs * 1 ≤ q.num.natAbs * g.natAbs := Nat.mul_le_mul_left _ hg1
    omega
  · have : q.den * 1 ≤ q.den * g.natAbs := Nat.mul_le_mul_left _ hg1
    omega
theorem bq.mul {a b : Nat} {x y : Rat} (hx : bq a x) (hy : bq b y) : bq (a + b) (x * y) := by
  refine bq.of (n := x.num * y.num) (d := x.den * y.den) (by have := den_pos' x; have := den_pos' y; exact Int.mul_pos (by assumption) (by assumption)) (q_mul x y).symm ?_ ?_
  · rw [Int.natAbs_mul, Nat.pow_add]
    exact Nat.mul_lt_mul'' hx.1 hy.1
  · rw [Int.natAbs_mul, Nat.pow_add]
    exact Nat.mul_lt_mul'' hx.2 hy.2
theorem bq.add {a b : Nat} {x y : Rat} (hx : bq a x) (hy : bq b y) : bq (a + b + 1) (x + y) := by
  refine bq.of (n := x.num * y.den + y.num * x.den) (d := x.den * y.den) (by have := den_pos' x; have := den_pos' y; exact Int.mul_pos (by assumption) (by assumption)) (q_add x y).symm ?_ ?_
  · have h1 : (x.num * (y.den : Int)).natAbs < 2 ^ a * 2 ^ b := by
      rw [Int.natAbs_mul]
      exact Nat.mul_lt_mul'' hx.1 hy.2
    have h2 : (y.num * (x.den : Int)).natAbs < 2 ^ a * 2 ^ b := by
      rw [Int.natAbs_mul, Nat.mul_comm (2 ^ a)]
      exact Nat.mul_lt_mul'' hy.1 hx.2
    rw [Nat.pow_succ, Nat.pow_add]
    omega
  · rw [Int.natAbs_mul, Nat.pow_succ, Nat.pow_add]
    have : (x.den : Int).natAbs * (y.den : Int).natAbs < 2 ^ a * 2 ^ b := Nat.mul_lt_mul'' hx.2 hy.2
    omega
theorem bq.neg {a : Nat} {x : Rat} (hx : bq a x) : bq a (-x) := by
  refine ⟨?_, ?_⟩
  · rw [Rat.neg_num, Int.natAbs_neg]
    exact hx.1
  · rw [Rat.neg_den]
    exact hx.2
theorem bq.sub {a b : Nat} {x y : Rat} (hx : bq a x) (hy : bq b y) : bq (a + b + 1) (x - y) := by
  rw [Rat.sub_eq_add_neg]
  exact hx.add hy.neg
theorem bq.int {b : Nat} {z : Int} (h : z.natAbs < 2 ^ b) (hb : 1 ≤ b) : bq b (z : Rat) := ⟨h, by
  show 1 < 2 ^ b
  exact Nat.one_lt_two_pow (by omega)⟩
theorem bq.zero (b : Nat) (hb : 1 ≤ b) : bq b 0 := bq.int (z := 0) (Nat.two_pow_pos b) hb

theorem NF.tight {s : Sl} {L L' x : Nat} {I : Blk} {w : World} (h : (NF s (L, x)).p I w) (hx : x < 4294967296 ^ L') : (NF s (L', x)).p I w := by
  obtain ⟨⟨l, hi, hd, hn, hv⟩, h2, h3⟩ := h
  refine ⟨⟨l, hi, hd, hn, hv⟩, h2, ?_⟩
  have := hn.len_of_lt (B := 4294967296) (k := L') (by decide) (by rw [hv]; exact hx)
  have := hi.1
  omega
theorem bits_limbs {x b : Nat} (h : x < 2 ^ b) : x < 4294967296 ^ (b / 32 + 1) := by
  have e : 4294967296 ^ (b / 32 + 1) = 2 ^ (32 * (b / 32 + 1)) := by rw [show 4294967296 = 2 ^ 32 by decide, ← Nat.pow_mul]
  rw [e]
  exact Nat.lt_of_lt_of_le h (pow_mono2 (by omega))
theorem ZF.tight {s : Sl} {d : Bool} {L b : Nat} {x : Int} {I : Blk} {w : World} (h : (ZF s d (L, x)).p I w) (hx : x.natAbs < 2 ^ b) : (ZF s d (b / 32 + 1, x)).p I w := ⟨NF.tight h.1 (bits_limbs hx), h.2⟩
theorem QF.tight {n m : Sl} {a b : Bool} {L k : Nat} {q : Rat} {I : Blk} {w : World} (h : (QF n a m b (L, q)).p I w) (hq : bq k q) : (QF n a m b (k / 32 + 1, q)).p I w := by
  obtain ⟨y, h1, h2, hy⟩ := h
  refine ⟨y, ZF.tight h1 hq.1, ZF.tight h2 ?_, hy⟩
  rcases hy with rfl | ⟨rfl, _⟩
  · exact hq.2
  · exact Nat.two_pow_pos k

/-- A number with two roots, by bits. -/
def bS (b : Nat) (S : Sn) : Prop := S.m.natAbs < 2 ^ b ∧ S.n.natAbs < 2 ^ b ∧ bq b S.p ∧ bq b S.q ∧ bq b S.r ∧ bq b S.s
theorem bS.mono {a b : Nat} {S : Sn} (h : bS a S) (hab : a ≤ b) : bS b S :=
  ⟨Nat.lt_of_lt_of_le h.1 (pow_mono2 hab), Nat.lt_of_lt_of_le h.2.1 (pow_mono2 hab), h.2.2.1.mono hab, h.2.2.2.1.mono hab, h.2.2.2.2.1.mono hab, h.2.2.2.2.2.mono hab⟩
theorem bS.add {b c : Nat} {S T : Sn} (h : bS b S) (g : bS c T) : bS (b + c + 1) (S.add T) := by
  obtain ⟨h1, h2, h3, h4, h5, h6⟩ := h
  obtain ⟨g1, g2, g3, g4, g5, g6⟩ := g
  exact ⟨Nat.lt_of_lt_of_le h1 (pow_mono2 (by omega)), Nat.lt_of_lt_of_le h2 (pow_mono2 (by omega)), h3.add g3, h4.add g4, h5.add g5, h6.add g6⟩
theorem bS.sub {b c : Nat} {S T : Sn} (h : bS b S) (g : bS c T) : bS (b + c + 1) (S.sub T) := by
  obtain ⟨h1, h2, h3, h4, h5, h6⟩ := h
  obtain ⟨g1, g2, g3, g4, g5, g6⟩ := g
  exact ⟨Nat.lt_of_lt_of_le h1 (pow_mono2 (by omega)), Nat.lt_of_lt_of_le h2 (pow_mono2 (by omega)), h3.sub g3, h4.sub g4, h5.sub g5, h6.sub g6⟩
theorem bS.neg {b : Nat} {S : Sn} (h : bS b S) : bS b S.neg := by
  obtain ⟨h1, h2, h3, h4, h5, h6⟩ := h
  exact ⟨h1, h2, h3.neg, h4.neg, h5.neg, h6.neg⟩
theorem bS.pos {b : Nat} {S : Sn} (h : bS b S) : 1 ≤ b := by
  have h2 := h.2.2.1.2
  have := S.p.den_pos
  cases b with
  | zero => simp at h2; omega
  | succ b => omega
theorem bS.mul {b c : Nat} {S T : Sn} (h : bS b S) (g : bS c T) : bS (8 * b + 4 * c + 3) (S.mul T) := by
  have hb := h.pos
  obtain ⟨h1, h2, h3, h4, h5, h6⟩ := h
  obtain ⟨g1, g2, g3, g4, g5, g6⟩ := g
  have hm : bq b (S.m : Rat) := bq.int h1 hb
  have hn : bq b (S.n : Rat) := bq.int h2 hb
  refine ⟨Nat.lt_of_lt_of_le h1 (pow_mono2 (by omega)), Nat.lt_of_lt_of_le h2 (pow_mono2 (by omega)), ?_, ?_, ?_, ?_⟩
  · exact ((((h3.mul g3).add (hm.mul (h4.mul g4))).add (hn.mul (h5.mul g5))).add ((hm.mul hn).mul (h6.mul g6))).mono (by omega)
  · exact (((h3.mul g4).add (h4.mul g3)).add (hn.mul ((h5.mul g6).add (h6.mul g5)))).mono (by omega)
  · exact (((h3.mul g5).add (h5.mul g3)).add (hm.mul ((h4.mul g6).add (h6.mul g4)))).mono (by omega)
  · exact ((((h3.mul g6).add (h6.mul g3)).add (h4.mul g5)).add (h5.mul g4)).mono (by omega)
theorem SF.tight {x : Sw} {L k : Nat} {S : Sn} {I : Blk} {w : World} (h : (SF x (L, S)).p I w) (hq : bS k S) : (SF x (k / 32 + 1, S)).p I w := by
  obtain ⟨h1, h2, h3, h4, h5, h6⟩ := h
  obtain ⟨g1, g2, g3, g4, g5, g6⟩ := hq
  exact ⟨ZF.tight h1 g1, ZF.tight h2 g2, QF.tight h3 g3, QF.tight h4 g4, QF.tight h5 g5, QF.tight h6 g6⟩

section
variable {fin : VS → List Fact → Prop} {Γ : List Fact} {L M K : Nat}
end

theorem fold_lt : ∀ (l : List Nat) (n : Nat), Digs l → l.foldl (fun n d => 10 * n + (d - 48)) n < (n + 1) * 10 ^ l.length
  | [], n, _ => by simp
  | d :: l, n, h => by
    have hd := h d (by simp)
    have h1 := fold_lt l (10 * n + (d - 48)) (fun e he => h e (by simp [he]))
    simp only [List.foldl_cons, List.length_cons]
    have h2 : (10 * n + (d - 48) + 1) * 10 ^ l.length ≤ (10 * (n + 1)) * 10 ^ l.length := Nat.mul_le_mul_right _ (by omega)
    have e : (n + 1) * 10 ^ (l.length + 1) = (10 * (n + 1)) * 10 ^ l.length := by rw [Nat.pow_succ]; grind
    rw [e]
    omega
theorem pval_lt (s : ByteArray) : pval s < 10 ^ s.size := by
  unfold pval
  split
  · rename_i h
    have h1 := fold_lt (bs s) 0 ((good_iff _).1 h).2.2.1
    unfold dval
    rw [bs_size] at h1
    omega
  · exact Nat.pow_pos (by decide)
theorem zval_lt (s : ByteArray) : (zval s).natAbs < 10 ^ s.size := by
  have h1 := pval_lt (sdig s)
  have h2 : 10 ^ (sdig s).size ≤ 10 ^ s.size := Nat.pow_le_pow_right (by decide) (sdig_size s)
  have h3 : 0 < 10 ^ s.size := Nat.pow_pos (by decide)
  unfold zval
  split
  · split <;> omega
  · simp; omega
theorem bq_qval {s : ByteArray} {k b : Nat} (hs : s.size ≤ k) (hk : 10 ^ k < 2 ^ b) : bq b (qval s) := by
  have hb : 1 ≤ b := by
    cases b with
    | zero => have : 0 < 10 ^ k := Nat.pow_pos (by decide); simp at hk
    | succ b => omega
  have hp : 10 ^ s.size ≤ 10 ^ k := Nat.pow_le_pow_right (by decide) hs
  have h1 : (zval (over s)).natAbs < 2 ^ b := by
    have := zval_lt (over s)
    have : 10 ^ (over s).size ≤ 10 ^ s.size := Nat.pow_le_pow_right (by decide) (over_size s)
    omega
  unfold qval
  split
  · exact bq.zero b hb
  · rename_i he
    split
    · rename_i hi
      have h0 : pval (under s) ≠ 0 := by
        intro h0
        refine he ?_
        unfold qerr
        split
        · assumption
        · split
          · assumption
          · simp
      refine bq.of (n := zval (over s)) (d := (pval (under s) : Int)) (by omega) rfl h1 ?_
      have := pval_lt (under s)
      have : 10 ^ (under s).size ≤ 10 ^ s.size := Nat.pow_le_pow_right (by decide) (under_size s)
      omega
    · exact bq.int h1 hb
end Go.Proofs.YtlpfkbkpnljieaaGreat

set_option linter.unusedSimpArgs false
set_option linter.unusedVariables false
namespace Go.Proofs.YtlpfkbkpnljieaaGreat
open Go.RowKit Go.IntWalk

/-- The root of a whole number, if it is one. -/
def rtq (n : Int) : Rat := ((isq n.natAbs : Nat) : Int)
def isSq (n : Int) : Bool := n.natAbs - isq n.natAbs * isq n.natAbs == 0
def Sn.f1 (S : Sn) : Sn := if isSq S.m = true then ⟨S.m, S.n, 0 + S.p + rtq S.m * S.q, 0, 0 + S.r + rtq S.m * S.s, 0⟩ else S
def Sn.f2 (S : Sn) : Sn := if isSq S.n = true then ⟨S.m, S.n, 0 + S.p + rtq S.n * S.r, 0 + S.q + rtq S.n * S.s, 0, 0⟩ else S
def Sn.f3 (S : Sn) : Sn := if isSq (S.m * S.n) = true ∧ isSq S.m = false ∧ isSq S.n = false then ⟨S.m, S.n, 0 + S.p + rtq (S.m * S.n) * S.s, 0 + S.q + rtq (S.m * S.n) / (S.m : Rat) * S.r, 0, 0⟩ else S
/-- Bounds of a root. -/
def rlo (r : Int) (k : Nat) : Rat := Rat.divInt ((isq (r.natAbs * (2 ^ k * 2 ^ k)) : Nat) : Int) ((2 ^ k : Nat) : Int)
def rhi (r : Int) (k : Nat) : Rat := if r.natAbs * (2 ^ k * 2 ^ k) - isq (r.natAbs * (2 ^ k * 2 ^ k)) * isq (r.natAbs * (2 ^ k * 2 ^ k)) = 0 then rlo r k else Rat.divInt (((isq (r.natAbs * (2 ^ k * 2 ^ k)) + 1 : Nat)) : Int) ((2 ^ k : Nat) : Int)
def blo (x : Rat) (r : Int) (k : Nat) : Rat := if x.num.sign < 0 then x * rhi r k else x * rlo r k
def bhi (x : Rat) (r : Int) (k : Nat) : Rat := if x.num.sign < 0 then x * rlo r k else x * rhi r k
def Sn.lo (S : Sn) (k : Nat) : Rat := ((0 : Int) : Rat) + blo S.p 1 k + blo S.q S.m k + blo S.r S.n k + blo S.s (S.m * S.n) k
def Sn.hi (S : Sn) (k : Nat) : Rat := ((0 : Int) : Rat) + bhi S.p 1 k + bhi S.q S.m k + bhi S.r S.n k + bhi S.s (S.m * S.n) k
/-- The number, with the root of the product as a root of its own. -/
def Sn.w (S : Sn) (j : Nat) : Rat := S.p * apx 1 j + S.q * apx S.m j + S.r * apx S.n j + S.s * apx (S.m * S.n) j
end Go.Proofs.YtlpfkbkpnljieaaGreat

set_option linter.unusedSimpArgs false
set_option linter.unusedVariables false
namespace Go.Proofs.YtlpfkbkpnljieaaGreat
open Go.RowKit Go.IntWalk

/-- 2^a. -/
def tw (a : Nat) : Rat := (((2 ^ a : Nat) : Int) : Rat)
theorem tw_eq (a : Nat) : tw a = ((2 ^ a : Int) : Rat) := by unfold tw; push_cast; rfl
theorem tw_pos (a : Nat) : 0 < tw a := by rw [tw_eq]; exact two_pos a
theorem tw_add (a b : Nat) : tw (a + b) = tw a * tw b := by unfold tw; rw [← natCast_mul', Nat.pow_add]
theorem tw_one : tw 1 = 2 := rfl
theorem tw_mono {a b : Nat} (h : a ≤ b) : tw a ≤ tw b := nat_le_rat (Nat.pow_le_pow_right (by decide) h)
/-- So great at most, with a denominator so great at most. -/
def md (a d : Nat) (x : Rat) : Prop := -(tw a) ≤ x ∧ x ≤ tw a ∧ x.den ≤ 2 ^ d
theorem md.mono {a d a' d' : Nat} {x : Rat} (h : md a d x) (ha : a ≤ a') (hd : d ≤ d') : md a' d' x := by
  have := tw_mono ha
  exact ⟨by have := h.1; grind, by have := h.2.1; grind, Nat.le_trans h.2.2 (Nat.pow_le_pow_right (by decide) hd)⟩
theorem den_of {n d : Int} {q : Rat} (hd : 0 < d) (h : q = Rat.divInt n d) : q.den ≤ d.natAbs := by
  obtain ⟨g, hg, e1, e2⟩ := parts_of hd h
  have hdd : d.natAbs = q.den * g.natAbs := by rw [e2, Int.natAbs_mul]; rfl
  have : q.den * 1 ≤ q.den * g.natAbs := Nat.mul_le_mul_left _ (by omega)
  omega
theorem md.mul {a d b e : Nat} {x y : Rat} (hx : md a d x) (hy : md b e y) : md (a + b) (d + e) (x * y) := by
  have p1 := tw_pos a
  have p2 := tw_pos b
  obtain ⟨x1, x2, x3⟩ := hx
  obtain ⟨y1, y2, y3⟩ := hy
  rw [md, tw_add]
  have q1 := Rat.mul_nonneg (show 0 ≤ tw a - x by grind) (show 0 ≤ tw b + y by grind)
  have q2 := Rat.mul_nonneg (show 0 ≤ tw a + x by grind) (show 0 ≤ tw b - y by grind)
  have q3 := Rat.mul_nonneg (show 0 ≤ tw a - x by grind) (show 0 ≤ tw b - y by grind)
  have q4 := Rat.mul_nonneg (show 0 ≤ tw a + x by grind) (show 0 ≤ tw b + y by grind)
  refine ⟨by grind, by grind, ?_⟩
  have := den_of (by have := den_pos' x; have := den_pos' y; exact Int.mul_pos (by assumption) (by assumption)) (q_mul x y).symm
  rw [Int.natAbs_mul] at this
  rw [Nat.pow_add]
  exact Nat.le_trans this (Nat.mul_le_mul x3 y3)
theorem md.add {a d b e : Nat} {x y : Rat} (hx : md a d x) (hy : md b e y) : md (max a b + 1) (d + e) (x + y) := by
  obtain ⟨x1, x2, x3⟩ := hx
  obtain ⟨y1, y2, y3⟩ := hy
  have m1 := tw_mono (Nat.le_max_left a b)
  have m2 := tw_mono (Nat.le_max_right a b)
  rw [md, tw_add (max a b) 1, tw_one]
  refine ⟨by grind, by grind, ?_⟩
  have := den_of (by have := den_pos' x; have := den_pos' y; exact Int.mul_pos (by assumption) (by assumption)) (q_add x y).symm
  rw [Int.natAbs_mul] at this
  rw [Nat.pow_add]
  exact Nat.le_trans this (Nat.mul_le_mul x3 y3)
theorem md.neg {a d : Nat} {x : Rat} (hx : md a d x) : md a d (-x) := by
  obtain ⟨x1, x2, x3⟩ := hx
  exact ⟨by grind, by grind, by rw [Rat.neg_den]; exact x3⟩
theorem md.sub {a d b e : Nat} {x y : Rat} (hx : md a d x) (hy : md b e y) : md (max a b + 1) (d + e) (x - y) := by
  rw [Rat.sub_eq_add_neg]
  exact hx.add hy.neg
theorem md.int {a : Nat} {z : Int} (h : z.natAbs ≤ 2 ^ a) : md a 0 (z : Rat) := by
  have h1 : ((z.natAbs : Int) : Rat) ≤ tw a := nat_le_rat h
  have h2 : (z : Rat) ≤ ((z.natAbs : Int) : Rat) := Rat.intCast_le_intCast.2 (by omega)
  have h3 : -((z.natAbs : Int) : Rat) ≤ (z : Rat) := by rw [← Rat.intCast_neg]; exact Rat.intCast_le_intCast.2 (by omega)
  exact ⟨by grind, by grind, Nat.le_refl 1⟩
theorem md.zero (a d : Nat) : md a d 0 := (md.int (a := 0) (z := 0) (by decide)).mono (Nat.zero_le _) (Nat.zero_le _)
theorem bq.md {b : Nat} {x : Rat} (h : bq b x) : md b b x := by
  have h1 := rat_den x
  have hd : (1 : Rat) ≤ ((x.den : Int) : Rat) := by exact_mod_cast (show (1 : Int) ≤ x.den by have := x.den_pos; omega)
  obtain ⟨g1, g2, _⟩ := md.int (a := b) (z := x.num) (Nat.le_of_lt h.1)
  have hp := tw_pos b
  refine ⟨?_, ?_, Nat.le_of_lt h.2⟩
  · have := nonneg_of_mul (show 0 < ((x.den : Int) : Rat) by grind) (show 0 ≤ (x + tw b) * ((x.den : Int) : Rat) by
      have := Rat.mul_nonneg (Rat.le_of_lt hp) (show 0 ≤ ((x.den : Int) : Rat) - 1 by grind)
      grind)
    grind
  · have := nonneg_of_mul (show 0 < ((x.den : Int) : Rat) by grind) (show 0 ≤ (tw b - x) * ((x.den : Int) : Rat) by
      have := Rat.mul_nonneg (Rat.le_of_lt hp) (show 0 ≤ ((x.den : Int) : Rat) - 1 by grind)
      grind)
    grind
section
variable {A D c : Nat}
end
end Go.Proofs.YtlpfkbkpnljieaaGreat

set_option linter.unusedSimpArgs false
set_option linter.unusedVariables false
namespace Go.Proofs.YtlpfkbkpnljieaaGreat
open Go.RowKit Go.IntWalk

theorem md.z {a d : Nat} {x : Rat} (h : md a d x) : md a d (0 + x) := by
  rw [Rat.zero_add]
  exact h
theorem md.b {a d : Nat} {x : Rat} (h : md a d x) : -(tw a) ≤ x ∧ x ≤ tw a := ⟨h.1, h.2.1⟩
/-- Whether all parts are 0. -/
def Sn.nil (F : Sn) : Prop := F.p = 0 ∧ F.q = 0 ∧ F.r = 0 ∧ F.s = 0
end Go.Proofs.YtlpfkbkpnljieaaGreat
