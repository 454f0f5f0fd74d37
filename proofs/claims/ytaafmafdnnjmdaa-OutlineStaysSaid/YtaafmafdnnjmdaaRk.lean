
/- How great numbers are, by bits; limbs by bits. The reference's sign of a number with two roots: other roots, bounds. Plain laws. How near to 0 a number with two roots can come. Plain laws. The reference's search for the sign ends. Plain laws. -/
import Derived.Test.YtaafmafdnnjmdaaSu
import Derived.Test.YtaafmafdnnjmdaaSy
set_option linter.unusedSimpArgs false
set_option linter.unusedVariables false
namespace Go.Proofs.Ytaafmafdnnjmdaa
open Go.RowKit Go.IntWalk

/-- Numerator and denominator have so many bits at most. -/
def bq (b : Nat) (q : Rat) : Prop := q.num.natAbs < 2 ^ b ∧ q.den < 2 ^ b
theorem pow_mono2 {a b : Nat} (h : a ≤ b) : 2 ^ a ≤ 2 ^ b := Nat.pow_le_pow_right (by decide) h
theorem bq.mono {a b : Nat} {q : Rat} (h : bq a q) (hab : a ≤ b) : bq b q := ⟨Nat.lt_of_lt_of_le h.1 (pow_mono2 hab), Nat.lt_of_lt_of_le h.2 (pow_mono2 hab)⟩
theorem bq.of {n d : Int} {q : Rat} {b : Nat} (hd : 0 < d) (h : q = Rat.divInt n d) (h1 : n.natAbs < 2 ^ b) (h2 : d.natAbs < 2 ^ b) : bq b q := by
  obtain ⟨g, hg, e1, e2⟩ := parts_of hd h
  have hn : n.natAbs = q.num.natAbs * g.natAbs := by rw [e1, Int.natAbs_mul]
  have hdd : d.natAbs = q.den * g.natAbs := by rw [e2, Int.natAbs_mul]; rfl
  have hg1 : 1 ≤ g.natAbs := by omega
  constructor
  · have : q.num.natAbs * 1 ≤ q.num.natAbs * g.natAbs := Nat.mul_le_mul_left _ hg1
    omega
  · have : q.den * 1 ≤ q.den * g.natAbs := Nat.mul_le_mul_left _ hg1
    omega
theorem bq.mul {a b : Nat} {x y : Rat} (hx : bq a x) (hy : bq b y) : bq (a + b) (x * y) := by
  refine bq.of (n := x.num * y.num) (d := x.den * y.den) (by have := den_pos' x; have := den_pos' y; exact Int.mul_pos (by assumption) (by assumption)) (q_mul x y).symm ?_ ?_
  · rw [Int.natAbs_mul, Nat.pow_add]
    exact Nat.mul_lt_mul'' hx.1 hy.1
  · rw [Int.natAbs_mul, Nat.pow_add]
    exact Nat.mul_lt_mul'' hx.2 hy.2
theorem bq.add {a b : Nat} {x y : Rat} (hx : bq a x) (hy : bq b y) : bq (a + b + 1) (x + y) := by
  refine bq.of (n := x.num * y.den + y.num * x.den) (d := x.den * y.den) (by have := den_pos' x; have := den_pos' y; exact Int.mul_pos (by assumption) (by assumption)) (q_add x y).symm ?_ ?_
  · have h1 : (x.num * (y.den : Int)).natAbs < 2 ^ a * 2 ^ b := by
      rw [Int.natAbs_mul]
      exact Nat.mul_lt_mul'' hx.1 hy.2
    have h2 : (y.num * (x.den : Int)).natAbs < 2 ^ a * 2 ^ b := by
      rw [Int.natAbs_mul, Nat.mul_comm (2 ^ a)]
      exact Nat.mul_lt_mul'' hy.1 hx.2
    rw [Nat.pow_succ, Nat.pow_add]
    omega
  · rw [Int.natAbs_mul, Nat.pow_succ, Nat.pow_add]
    have : (x.den : Int).natAbs * (y.den : Int).natAbs < 2 ^ a * 2 ^ b := Nat.mul_lt_mul'' hx.2 hy.2
    omega
theorem bq.neg {a : Nat} {x : Rat} (hx : bq a x) : bq a (-x) := by
  refine ⟨?_, ?_⟩
  · rw [Rat.neg_num, Int.natAbs_neg]
    exact hx.1
  · rw [Rat.neg_den]
    exact hx.2
theorem bq.sub {a b : Nat} {x y : Rat} (hx : bq a x) (hy : bq b y) : bq (a + b + 1) (x - y) := by
  rw [Rat.sub_eq_add_neg]
  exact hx.add hy.neg
theorem bq.int {b : Nat} {z : Int} (h : z.natAbs < 2 ^ b) (hb : 1 ≤ b) : bq b (z : Rat) := ⟨h, by
  show 1 < 2 ^ b
  exact Nat.one_lt_two_pow (by omega)⟩
theorem bq.zero (b : Nat) (hb : 1 ≤ b) : bq b 0 := bq.int (z := 0) (Nat.two_pow_pos b) hb

theorem NF.tight {s : Sl} {L L' x : Nat} {I : Blk} {w : World} (h : (NF s (L, x)).p I w) (hx : x < 4294967296 ^ L') : (NF s (L', x)).p I w := by
  obtain ⟨⟨l, hi, hd, hn, hv⟩, h2, h3⟩ := h
  refine ⟨⟨l, hi, hd, hn, hv⟩, h2, ?_⟩
  have := hn.len_of_lt (B := 4294967296) (k := L') (by decide) (by rw [hv]; exact hx)
  have := hi.1
  omega
theorem bits_limbs {x b : Nat} (h : x < 2 ^ b) : x < 4294967296 ^ (b / 32 + 1) := by
  have e : 4294967296 ^ (b / 32 + 1) = 2 ^ (32 * (b / 32 + 1)) := by rw [show 4294967296 = 2 ^ 32 by decide, ← Nat.pow_mul]
  rw [e]
  exact Nat.lt_of_lt_of_le h (pow_mono2 (by omega))
theorem ZF.tight {s : Sl} {d : Bool} {L b : Nat} {x : Int} {I : Blk} {w : World} (h : (ZF s d (L, x)).p I w) (hx : x.natAbs < 2 ^ b) : (ZF s d (b / 32 + 1, x)).p I w := ⟨NF.tight h.1 (bits_limbs hx), h.2⟩
theorem QF.tight {n m : Sl} {a b : Bool} {L k : Nat} {q : Rat} {I : Blk} {w : World} (h : (QF n a m b (L, q)).p I w) (hq : bq k q) : (QF n a m b (k / 32 + 1, q)).p I w := by
  obtain ⟨y, h1, h2, hy⟩ := h
  refine ⟨y, ZF.tight h1 hq.1, ZF.tight h2 ?_, hy⟩
  rcases hy with rfl | ⟨rfl, _⟩
  · exact hq.2
  · exact Nat.two_pow_pos k

/-- A number with two roots, by bits. -/
def bS (b : Nat) (S : Sn) : Prop := S.m.natAbs < 2 ^ b ∧ S.n.natAbs < 2 ^ b ∧ bq b S.p ∧ bq b S.q ∧ bq b S.r ∧ bq b S.s
theorem bS.mono {a b : Nat} {S : Sn} (h : bS a S) (hab : a ≤ b) : bS b S :=
  ⟨Nat.lt_of_lt_of_le h.1 (pow_mono2 hab), Nat.lt_of_lt_of_le h.2.1 (pow_mono2 hab), h.2.2.1.mono hab, h.2.2.2.1.mono hab, h.2.2.2.2.1.mono hab, h.2.2.2.2.2.mono hab⟩
theorem bS.add {b c : Nat} {S T : Sn} (h : bS b S) (g : bS c T) : bS (b + c + 1) (S.add T) := by
  obtain ⟨h1, h2, h3, h4, h5, h6⟩ := h
  obtain ⟨g1, g2, g3, g4, g5, g6⟩ := g
  exact ⟨Nat.lt_of_lt_of_le h1 (pow_mono2 (by omega)), Nat.lt_of_lt_of_le h2 (pow_mono2 (by omega)), h3.add g3, h4.add g4, h5.add g5, h6.add g6⟩
theorem bS.sub {b c : Nat} {S T : Sn} (h : bS b S) (g : bS c T) : bS (b + c + 1) (S.sub T) := by
  obtain ⟨h1, h2, h3, h4, h5, h6⟩ := h
  obtain ⟨g1, g2, g3, g4, g5, g6⟩ := g
  exact ⟨Nat.lt_of_lt_of_le h1 (pow_mono2 (by omega)), Nat.lt_of_lt_of_le h2 (pow_mono2 (by omega)), h3.sub g3, h4.sub g4, h5.sub g5, h6.sub g6⟩
theorem bS.neg {b : Nat} {S : Sn} (h : bS b S) : bS b S.neg := by
  obtain ⟨h1, h2, h3, h4, h5, h6⟩ := h
  exact ⟨h1, h2, h3.neg, h4.neg, h5.neg, h6.neg⟩
theorem bS.pos {b : Nat} {S : Sn} (h : bS b S) : 1 ≤ b := by
  have h2 := h.2.2.1.2
  have := S.p.den_pos
  cases b with
  | zero => simp at h2; omega
  | succ b => omega
theorem bS.mul {b c : Nat} {S T : Sn} (h : bS b S) (g : bS c T) : bS (8 * b + 4 * c + 3) (S.mul T) := by
  have hb := h.pos
  obtain ⟨h1, h2, h3, h4, h5, h6⟩ := h
  obtain ⟨g1, g2, g3, g4, g5, g6⟩ := g
  have hm : bq b (S.m : Rat) := bq.int h1 hb
  have hn : bq b (S.n : Rat) := bq.int h2 hb
  refine ⟨Nat.lt_of_lt_of_le h1 (pow_mono2 (by omega)), Nat.lt_of_lt_of_le h2 (pow_mono2 (by omega)), ?_, ?_, ?_, ?_⟩
  · exact ((((h3.mul g3).add (hm.mul (h4.mul g4))).add (hn.mul (h5.mul g5))).add ((hm.mul hn).mul (h6.mul g6))).mono (by omega)
  · exact (((h3.mul g4).add (h4.mul g3)).add (hn.mul ((h5.mul g6).add (h6.mul g5)))).mono (by omega)
  · exact (((h3.mul g5).add (h5.mul g3)).add (hm.mul ((h4.mul g6).add (h6.mul g4)))).mono (by omega)
  · exact ((((h3.mul g6).add (h6.mul g3)).add (h4.mul g5)).add (h5.mul g4)).mono (by omega)
theorem SF.tight {x : Sw} {L k : Nat} {S : Sn} {I : Blk} {w : World} (h : (SF x (L, S)).p I w) (hq : bS k S) : (SF x (k / 32 + 1, S)).p I w := by
  obtain ⟨h1, h2, h3, h4, h5, h6⟩ := h
  obtain ⟨g1, g2, g3, g4, g5, g6⟩ := hq
  exact ⟨ZF.tight h1 g1, ZF.tight h2 g2, QF.tight h3 g3, QF.tight h4 g4, QF.tight h5 g5, QF.tight h6 g6⟩

section
variable {fin : VS → List Fact → Prop} {Γ : List Fact} {L M K : Nat}
/-- One fact, by bits. -/
theorem entTS {x : Sw} {S : Sn} {k : Nat} [h : Has (SF x) (L, S) Γ] (hq : bS k S) : ∀ (I : Blk) (w : World), DataOK tb I w → Holds Γ I w → Holds [SF x (k / 32 + 1, S)] I w := fun I w _ hh => holds1 (SF.tight (h.p hh) hq)
theorem entTQ {a : Qw} {q : Rat} {k : Nat} [h : Has (QG a) (L, q) Γ] (hq : bq k q) : ∀ (I : Blk) (w : World), DataOK tb I w → Holds Γ I w → Holds [QG a (k / 32 + 1, q)] I w := fun I w _ hh => holds1 (QF.tight (h.p hh) hq)
theorem entTZ {s : Sl} {d : Bool} {z : Int} {k : Nat} [h : Has (ZF s d) (L, z) Γ] (hq : z.natAbs < 2 ^ k) : ∀ (I : Blk) (w : World), DataOK tb I w → Holds Γ I w → Holds [ZF s d (k / 32 + 1, z)] I w := fun I w _ hh => holds1 (ZF.tight (h.p hh) hq)
theorem PCalls.okT {f : FuncId} {args : List Value} {S : Sn} {k : Nat} (h : PCalls tb Try.prog f args Γ (SOk L S)) (hq : bS k S) : PCalls tb Try.prog f args Γ (SOk (k / 32 + 1) S) :=
  h.entH (fun v Δ ⟨x, e1, e2⟩ => ⟨_, ⟨x, e1, rfl⟩, fun I w hh => by
    subst e2
    exact holds1 (SF.tight hh.h0' hq)⟩)
end

theorem fold_lt : ∀ (l : List Nat) (n : Nat), Digs l → l.foldl (fun n d => 10 * n + (d - 48)) n < (n + 1) * 10 ^ l.length
  | [], n, _ => by simp
  | d :: l, n, h => by
    have hd := h d (by simp)
    have h1 := fold_lt l (10 * n + (d - 48)) (fun e he => h e (by simp [he]))
    simp only [List.foldl_cons, List.length_cons]
    have h2 : (10 * n + (d - 48) + 1) * 10 ^ l.length ≤ (10 * (n + 1)) * 10 ^ l.length := Nat.mul_le_mul_right _ (by omega)
    have e : (n + 1) * 10 ^ (l.length + 1) = (10 * (n + 1)) * 10 ^ l.length := by rw [Nat.pow_succ]; grind
    rw [e]
    omega
theorem pval_lt (s : ByteArray) : pval s < 10 ^ s.size := by
  unfold pval
  split
  · rename_i h
    have h1 := fold_lt (bs s) 0 ((good_iff _).1 h).2.2.1
    unfold dval
    rw [bs_size] at h1
    omega
  · exact Nat.pow_pos (by decide)
theorem zval_lt (s : ByteArray) : (zval s).natAbs < 10 ^ s.size := by
  have h1 := pval_lt (sdig s)
  have h2 : 10 ^ (sdig s).size ≤ 10 ^ s.size := Nat.pow_le_pow_right (by decide) (sdig_size s)
  have h3 : 0 < 10 ^ s.size := Nat.pow_pos (by decide)
  unfold zval
  split
  · split <;> omega
  · simp; omega
theorem bq_qval {s : ByteArray} {k b : Nat} (hs : s.size ≤ k) (hk : 10 ^ k < 2 ^ b) : bq b (qval s) := by
  have hb : 1 ≤ b := by
    cases b with
    | zero => have : 0 < 10 ^ k := Nat.pow_pos (by decide); simp at hk
    | succ b => omega
  have hp : 10 ^ s.size ≤ 10 ^ k := Nat.pow_le_pow_right (by decide) hs
  have h1 : (zval (over s)).natAbs < 2 ^ b := by
    have := zval_lt (over s)
    have : 10 ^ (over s).size ≤ 10 ^ s.size := Nat.pow_le_pow_right (by decide) (over_size s)
    omega
  unfold qval
  split
  · exact bq.zero b hb
  · rename_i he
    split
    · rename_i hi
      have h0 : pval (under s) ≠ 0 := by
        intro h0
        refine he ?_
        unfold qerr
        split
        · assumption
        · split
          · assumption
          · simp
      refine bq.of (n := zval (over s)) (d := (pval (under s) : Int)) (by omega) rfl h1 ?_
      have := pval_lt (under s)
      have : 10 ^ (under s).size ≤ 10 ^ s.size := Nat.pow_le_pow_right (by decide) (under_size s)
      omega
    · exact bq.int h1 hb
end Go.Proofs.Ytaafmafdnnjmdaa

set_option linter.unusedSimpArgs false
set_option linter.unusedVariables false
namespace Go.Proofs.Ytaafmafdnnjmdaa
open Go.RowKit Go.IntWalk

/-- The root of a whole number, if it is one. -/
def rtq (n : Int) : Rat := ((isq n.natAbs : Nat) : Int)
def isSq (n : Int) : Bool := n.natAbs - isq n.natAbs * isq n.natAbs == 0
theorem isSq_eq {n : Int} (hn : 0 ≤ n) (h : isSq n = true) : rtq n * rtq n = (n : Rat) ∧ 0 ≤ rtq n := by
  unfold isSq at h
  have h1 := (isq_spec n.natAbs).1
  have h2 : isq n.natAbs * isq n.natAbs = n.natAbs := by have := eq_of_beq h; omega
  unfold rtq
  refine ⟨?_, by exact_mod_cast Int.natCast_nonneg _⟩
  rw [← natCast_mul', h2, show (n.natAbs : Int) = n by omega]
theorem nonneg_eq_of_sq {a b : Rat} (ha : 0 ≤ a) (hb : 0 ≤ b) (h : a * a = b * b) : a = b := by
  have h1 := le_of_sq hb (by rw [h]; grind : a * a ≤ b * b)
  have h2 := le_of_sq ha (by rw [h]; grind : b * b ≤ a * a)
  grind
theorem isq_sq (r : Nat) : isq (r * r) = r := isq_unique (Nat.le_refl _) (by grind)
theorem apx_sq {m : Int} (hm : 0 ≤ m) (h : isSq m = true) (k : Nat) : apx m k = rtq m := by
  unfold isSq at h
  have h1 := (isq_spec m.natAbs).1
  have h2 : isq m.natAbs * isq m.natAbs = m.natAbs := by have := eq_of_beq h; omega
  unfold apx rtq
  generalize isq m.natAbs = r at *
  rw [← h2, show r * r * 4 ^ k = (r * 2 ^ k) * (r * 2 ^ k) by rw [show (4 : Nat) ^ k = 2 ^ k * 2 ^ k by rw [← Nat.mul_pow]]; grind, isq_sq, Int.natCast_mul, Rat.intCast_mul]
  have := tk_mul k
  have e : ((((2 ^ k : Nat) : Int)) : Rat) = ((2 ^ k : Int) : Rat) := by push_cast; rfl
  rw [e]
  grind

def Sn.f1 (S : Sn) : Sn := if isSq S.m = true then ⟨S.m, S.n, 0 + S.p + rtq S.m * S.q, 0, 0 + S.r + rtq S.m * S.s, 0⟩ else S
def Sn.f2 (S : Sn) : Sn := if isSq S.n = true then ⟨S.m, S.n, 0 + S.p + rtq S.n * S.r, 0 + S.q + rtq S.n * S.s, 0, 0⟩ else S
def Sn.f3 (S : Sn) : Sn := if isSq (S.m * S.n) = true ∧ isSq S.m = false ∧ isSq S.n = false then ⟨S.m, S.n, 0 + S.p + rtq (S.m * S.n) * S.s, 0 + S.q + rtq (S.m * S.n) / (S.m : Rat) * S.r, 0, 0⟩ else S
/-- The same number over roots of which none is whole. -/
def Sn.fold (S : Sn) : Sn := S.f1.f2.f3
theorem f1_mn (S : Sn) : S.f1.m = S.m ∧ S.f1.n = S.n := by unfold Sn.f1; split <;> exact ⟨rfl, rfl⟩
theorem f2_mn (S : Sn) : S.f2.m = S.m ∧ S.f2.n = S.n := by unfold Sn.f2; split <;> exact ⟨rfl, rfl⟩
theorem f3_mn (S : Sn) : S.f3.m = S.m ∧ S.f3.n = S.n := by unfold Sn.f3; split <;> exact ⟨rfl, rfl⟩
theorem fold_mn (S : Sn) : S.fold.m = S.m ∧ S.fold.n = S.n := by
  unfold Sn.fold
  rw [(f3_mn _).1, (f3_mn _).2, (f2_mn _).1, (f2_mn _).2, (f1_mn _).1, (f1_mn _).2]
  exact ⟨rfl, rfl⟩
theorem sg_same {S T : Sn} (hm : 0 ≤ S.m) (hn : 0 ≤ S.n) (em : T.m = S.m) (en : T.n = S.n) (h : Nul (fun k => T.v k - S.v k)) : T.sg = S.sg :=
  (sig2 T (by omega) (by omega)).unique ((sig2 S hm hn).congr h)
theorem Nul.of_eq {f : Nat → Rat} (h : ∀ k, f k = 0) : Nul f := Nul.zero.congr (fun k => (h k).symm)
theorem f1_sg (S : Sn) (hm : 0 ≤ S.m) (hn : 0 ≤ S.n) : S.f1.sg = S.sg := by
  refine sg_same hm hn (f1_mn S).1 (f1_mn S).2 (Nul.of_eq fun k => ?_)
  unfold Sn.f1
  split
  · rename_i h
    have := apx_sq hm h k
    unfold Sn.v v1
    simp only [this]
    grind
  · grind
theorem f2_sg (S : Sn) (hm : 0 ≤ S.m) (hn : 0 ≤ S.n) : S.f2.sg = S.sg := by
  refine sg_same hm hn (f2_mn S).1 (f2_mn S).2 (Nul.of_eq fun k => ?_)
  unfold Sn.f2
  split
  · rename_i h
    have := apx_sq hn h k
    unfold Sn.v v1
    simp only [this]
    grind
  · grind
/-- What comes near to a root comes near to what else comes near to it. -/
theorem near_root {n : Int} (hn : 0 < n) {g : Nat → Rat} (g0 : ∀ k, 0 ≤ g k) (h : Nul (fun k => g k * g k - n)) : Nul (fun k => g k - apx n k) := by
  have h1 : Nul (fun k => g k * g k - apx n k * apx n k) := (h.add (apx_nul (Int.le_of_lt hn)).neg).congr (fun k => by grind)
  obtain ⟨e, he, K, hK⟩ := apx_pos hn
  have hp : Pos (fun k => g k + apx n k) := ⟨e, he, K, fun k hk => by
    have := hK k hk
    have := g0 k
    grind⟩
  exact Nul.div hp (h1.congr (fun k => by grind))
theorem isSq_zero : isSq 0 = true := by decide
theorem f3_sg (S : Sn) (hm : 0 ≤ S.m) (hn : 0 ≤ S.n) : S.f3.sg = S.sg := by
  unfold Sn.f3
  split
  · rename_i h
    obtain ⟨h1, h2, h3⟩ := h
    have hm0 : S.m ≠ 0 := fun e => by rw [e, isSq_zero] at h2; simp at h2
    have hn0 : S.n ≠ 0 := fun e => by rw [e, isSq_zero] at h3; simp at h3
    have hmp : 0 < S.m := by omega
    have hnp : 0 < S.n := by omega
    have hmn : 0 ≤ S.m * S.n := Int.mul_nonneg hm hn
    obtain ⟨q1, q2⟩ := isSq_eq hmn h1
    have hmq : (0 : Rat) < (S.m : Rat) := by exact_mod_cast hmp
    rw [Rat.intCast_mul] at q1
    -- the one root times the other
    have n1 : Nul (fun k => rtq (S.m * S.n) / (S.m : Rat) * apx S.m k - apx S.n k) := by
      refine near_root hnp (fun k => Rat.mul_nonneg ?_ (apx_spec hm k).1) ?_
      · have hne : (S.m : Rat) ≠ 0 := fun h => by rw [h] at hmq; exact absurd hmq (by decide +kernel)
        have hi : 0 ≤ (S.m : Rat)⁻¹ := nonneg_of_mul hmq (by rw [Rat.mul_comm, Rat.mul_inv_cancel _ hne]; decide +kernel)
        rw [Rat.div_def]
        exact Rat.mul_nonneg q2 hi
      · have e : ∀ k, rtq (S.m * S.n) / (S.m : Rat) * apx S.m k * (rtq (S.m * S.n) / (S.m : Rat) * apx S.m k) - (S.n : Rat) = (apx S.m k * apx S.m k - S.m) * ((S.n : Rat) / S.m) := by
          intro k
          have hne : (S.m : Rat) ≠ 0 := fun h => by rw [h] at hmq; exact absurd hmq (by decide +kernel)
          have hmul : (S.m : Rat) * (S.m : Rat)⁻¹ = 1 := Rat.mul_inv_cancel _ hne
          rw [Rat.div_def, Rat.div_def]
          generalize (S.m : Rat)⁻¹ = i at *
          grind
        exact (((apx_nul hm).mul (Bdd.const _))).congr (fun k => (e k).symm)
    have n2 : Nul (fun k => rtq (S.m * S.n) - apx S.m k * apx S.n k) := by
      have t := n1.mul (apx_bdd hm)
      have t2 := (apx_nul hm).mul (Bdd.const (rtq (S.m * S.n) / (S.m : Rat)))
      have e : ∀ k, rtq (S.m * S.n) - apx S.m k * apx S.n k = (rtq (S.m * S.n) / (S.m : Rat) * apx S.m k - apx S.n k) * apx S.m k + -((apx S.m k * apx S.m k - S.m) * (rtq (S.m * S.n) / (S.m : Rat))) := by
        intro k
        have hne : (S.m : Rat) ≠ 0 := fun h => by rw [h] at hmq; exact absurd hmq (by decide +kernel)
        have hmul : (S.m : Rat) * (S.m : Rat)⁻¹ = 1 := Rat.mul_inv_cancel _ hne
        rw [Rat.div_def]
        generalize (S.m : Rat)⁻¹ = i at *
        grind
      exact (t.add t2.neg).congr (fun k => (e k).symm)
    refine sg_same hm hn rfl rfl ((((n1.mul (Bdd.const S.r)).add (n2.mul (Bdd.const S.s)))).congr (fun k => ?_))
    unfold Sn.v v1
    simp only
    grind
  · rfl
theorem fold_sg (S : Sn) (hm : 0 ≤ S.m) (hn : 0 ≤ S.n) : S.fold.sg = S.sg := by
  obtain ⟨a1, a2⟩ := f1_mn S
  obtain ⟨b1, b2⟩ := f2_mn S.f1
  unfold Sn.fold
  rw [f3_sg _ (by omega) (by omega), f2_sg _ (by omega) (by omega), f1_sg _ hm hn]

/-- Bounds of a root. -/
def rlo (r : Int) (k : Nat) : Rat := Rat.divInt ((isq (r.natAbs * (2 ^ k * 2 ^ k)) : Nat) : Int) ((2 ^ k : Nat) : Int)
def rhi (r : Int) (k : Nat) : Rat := if r.natAbs * (2 ^ k * 2 ^ k) - isq (r.natAbs * (2 ^ k * 2 ^ k)) * isq (r.natAbs * (2 ^ k * 2 ^ k)) = 0 then rlo r k else Rat.divInt (((isq (r.natAbs * (2 ^ k * 2 ^ k)) + 1 : Nat)) : Int) ((2 ^ k : Nat) : Int)
theorem divInt_tk (x : Int) (k : Nat) : Rat.divInt x ((2 ^ k : Nat) : Int) = (x : Rat) * tk k := by
  unfold tk
  rw [← q_divInt1, Rat.divInt_mul_divInt]
  push_cast
  simp
theorem rlo_apx (r : Int) (k : Nat) : rlo r k = apx r k := by
  unfold rlo apx
  rw [divInt_tk, show (4 : Nat) ^ k = 2 ^ k * 2 ^ k by rw [← Nat.mul_pow]]
theorem rhi_le (r : Int) (k : Nat) : apx r k ≤ rhi r k ∧ rhi r k ≤ apx r k + tk k := by
  have ht := tk_pos k
  unfold rhi
  split
  · rw [rlo_apx]
    constructor <;> grind
  · rw [← rlo_apx]
    unfold rlo
    rw [divInt_tk, divInt_tk, nat_succ_rat]
    constructor <;> grind
theorem rhi_sq {r : Int} (hr : 0 ≤ r) (k : Nat) : (r : Rat) ≤ rhi r k * rhi r k := by
  obtain ⟨h1, h2, h3⟩ := apx_spec hr k
  unfold rhi
  split
  · rename_i h
    have e := isq_spec (r.natAbs * (2 ^ k * 2 ^ k))
    have e2 : isq (r.natAbs * (2 ^ k * 2 ^ k)) * isq (r.natAbs * (2 ^ k * 2 ^ k)) = r.natAbs * (2 ^ k * 2 ^ k) := by omega
    unfold rlo
    rw [divInt_tk]
    have e3 : (((isq (r.natAbs * (2 ^ k * 2 ^ k)) : Nat) : Int) : Rat) * (((isq (r.natAbs * (2 ^ k * 2 ^ k)) : Nat) : Int) : Rat) = (r : Rat) * (((2 ^ k : Int) : Rat) * ((2 ^ k : Int) : Rat)) := by
      rw [← natCast_mul', e2, natCast_mul', natCast_mul', show (r.natAbs : Int) = r by omega]
      push_cast
      rfl
    generalize ((isq (r.natAbs * (2 ^ k * 2 ^ k)) : Nat) : Int) = R at *
    have ht := tk_mul k
    generalize ((2 ^ k : Int) : Rat) = w at *
    have : (R : Rat) * tk k * ((R : Rat) * tk k) = (r : Rat) := by
      rw [show (R : Rat) * tk k * ((R : Rat) * tk k) = (R : Rat) * R * (tk k * tk k) by grind, e3, show (r : Rat) * (w * w) * (tk k * tk k) = r * ((tk k * w) * (tk k * w)) by grind, ht]
      grind
    rw [this]
    grind
  · rw [divInt_tk, nat_succ_rat, show ((((isq (r.natAbs * (2 ^ k * 2 ^ k)) : Nat) : Int) : Rat) + 1) * tk k = rlo r k + tk k by unfold rlo; rw [divInt_tk]; grind, rlo_apx]
    grind
/-- They close in. -/
theorem apx_mono (r : Int) {k j : Nat} (h : k ≤ j) : apx r k ≤ apx r j := by
  obtain ⟨d, rfl⟩ : ∃ d, j = k + d := ⟨j - k, by omega⟩
  have h1 := (isq_spec (r.natAbs * 4 ^ k)).1
  have h2 := (isq_spec (r.natAbs * 4 ^ (k + d))).2
  have e1 : r.natAbs * 4 ^ (k + d) = r.natAbs * 4 ^ k * (2 ^ d * 2 ^ d) := by
    rw [Nat.pow_add, show (4 : Nat) ^ d = 2 ^ d * 2 ^ d by rw [← Nat.mul_pow], Nat.mul_assoc]
  rw [e1] at h2
  have hlt : isq (r.natAbs * 4 ^ k) * 2 ^ d < isq (r.natAbs * 4 ^ (k + d)) + 1 := by
    rw [e1]
    generalize isq (r.natAbs * 4 ^ k) = a at *
    generalize isq (r.natAbs * 4 ^ k * (2 ^ d * 2 ^ d)) = b at *
    by_cases hh : a * 2 ^ d < b + 1
    · exact hh
    · have h3 : (b + 1) * (b + 1) ≤ (a * 2 ^ d) * (a * 2 ^ d) := Nat.mul_le_mul (by omega) (by omega)
      have h4 : (a * 2 ^ d) * (a * 2 ^ d) = a * a * (2 ^ d * 2 ^ d) := by grind
      have h5 : a * a * (2 ^ d * 2 ^ d) ≤ r.natAbs * 4 ^ k * (2 ^ d * 2 ^ d) := Nat.mul_le_mul_right _ h1
      omega
  unfold apx
  have q := nat_le_rat (show isq (r.natAbs * 4 ^ k) * 2 ^ d ≤ isq (r.natAbs * 4 ^ (k + d)) by omega)
  rw [natCast_mul'] at q
  have t1 := tk_mul k
  have t2 := tk_mul (k + d)
  have p2 := tk_pos (k + d)
  have e3 : ((2 ^ (k + d) : Int) : Rat) = ((2 ^ k : Int) : Rat) * ((2 ^ d : Int) : Rat) := by rw [← Rat.intCast_mul, Int.pow_add]
  have e4 : ((((2 ^ d : Nat) : Int)) : Rat) = ((2 ^ d : Int) : Rat) := by push_cast; rfl
  rw [e4] at q
  rw [e3] at t2
  have hk := two_pos k
  have hd := two_pos d
  generalize ((2 ^ k : Int) : Rat) = w at *
  generalize ((2 ^ d : Int) : Rat) = u at *
  generalize (((isq (r.natAbs * 4 ^ k) : Nat) : Int) : Rat) = A at *
  generalize (((isq (r.natAbs * 4 ^ (k + d)) : Nat) : Int) : Rat) = B at *
  have e5 : tk k = tk (k + d) * u := by
    have h0 : tk k * w = tk (k + d) * u * w := by grind
    have h9 : 0 ≤ (tk k - tk (k + d) * u) * w := by grind
    have h8 : 0 ≤ (tk (k + d) * u - tk k) * w := by grind
    have := nonneg_of_mul hk h9
    have := nonneg_of_mul hk h8
    grind
  rw [e5]
  have := Rat.mul_nonneg (show 0 ≤ B - A * u by grind) (Rat.le_of_lt p2)
  grind
theorem apx_le_rhi {r : Int} (hr : 0 ≤ r) (k j : Nat) : apx r j ≤ rhi r k := by
  have h1 := rhi_sq hr k
  have h2 := (apx_spec hr j).2.1
  have h3 := (rhi_le r k).1
  have h4 := (apx_spec hr k).1
  exact le_of_sq (by grind) (by grind)

def blo (x : Rat) (r : Int) (k : Nat) : Rat := if x.num.sign < 0 then x * rhi r k else x * rlo r k
def bhi (x : Rat) (r : Int) (k : Nat) : Rat := if x.num.sign < 0 then x * rlo r k else x * rhi r k
theorem bounds_ok (x : Rat) {r : Int} (hr : 0 ≤ r) {k j : Nat} (h : k ≤ j) : blo x r k ≤ x * apx r j ∧ x * apx r j ≤ bhi x r k := by
  have h1 := apx_mono r h
  have h2 := apx_le_rhi hr k j
  unfold blo bhi
  rw [rlo_apx]
  split
  · rename_i hs
    rw [sign_lt0] at hs
    have a := Rat.mul_nonneg (show 0 ≤ -x by grind) (show 0 ≤ rhi r k - apx r j by grind)
    have b := Rat.mul_nonneg (show 0 ≤ -x by grind) (show 0 ≤ apx r j - apx r k by grind)
    constructor <;> grind
  · rename_i hs
    rw [sign_lt0] at hs
    have a := Rat.mul_nonneg (show 0 ≤ x by grind) (show 0 ≤ rhi r k - apx r j by grind)
    have b := Rat.mul_nonneg (show 0 ≤ x by grind) (show 0 ≤ apx r j - apx r k by grind)
    constructor <;> grind
theorem bounds_w (x : Rat) (r : Int) (k : Nat) {A : Rat} (h1 : -A ≤ x) (h2 : x ≤ A) : bhi x r k - blo x r k ≤ A * tk k := by
  obtain ⟨g1, g2⟩ := rhi_le r k
  have ht := tk_pos k
  unfold blo bhi
  rw [rlo_apx]
  split
  · rename_i hs
    rw [sign_lt0] at hs
    have a := Rat.mul_nonneg (show 0 ≤ -x by grind) (show 0 ≤ tk k - (rhi r k - apx r k) by grind)
    have b := Rat.mul_nonneg (show 0 ≤ A + x by grind) (Rat.le_of_lt ht)
    grind
  · rename_i hs
    rw [sign_lt0] at hs
    have a := Rat.mul_nonneg (show 0 ≤ x by grind) (show 0 ≤ tk k - (rhi r k - apx r k) by grind)
    have b := Rat.mul_nonneg (show 0 ≤ A - x by grind) (Rat.le_of_lt ht)
    grind
def Sn.lo (S : Sn) (k : Nat) : Rat := ((0 : Int) : Rat) + blo S.p 1 k + blo S.q S.m k + blo S.r S.n k + blo S.s (S.m * S.n) k
def Sn.hi (S : Sn) (k : Nat) : Rat := ((0 : Int) : Rat) + bhi S.p 1 k + bhi S.q S.m k + bhi S.r S.n k + bhi S.s (S.m * S.n) k
/-- The number, with the root of the product as a root of its own. -/
def Sn.w (S : Sn) (j : Nat) : Rat := S.p * apx 1 j + S.q * apx S.m j + S.r * apx S.n j + S.s * apx (S.m * S.n) j
theorem apx_one (j : Nat) : apx 1 j = 1 := by
  rw [apx_sq (by decide) (by decide)]
  decide +kernel
theorem w_v (S : Sn) (hm : 0 ≤ S.m) (hn : 0 ≤ S.n) : Nul (fun j => S.w j - S.v j) := by
  have h : Nul (fun j => apx S.m j * apx S.n j - apx (S.m * S.n) j) := by
    by_cases h0 : S.m * S.n = 0
    · rw [h0]
      refine Nul.of_eq (fun j => ?_)
      rcases Int.mul_eq_zero.1 h0 with e | e <;> rw [e, apx_zero] <;> grind
    · have hp : 0 < S.m * S.n := by have := Int.mul_nonneg hm hn; omega
      refine near_root hp (fun j => Rat.mul_nonneg (apx_spec hm j).1 (apx_spec hn j).1) ?_
      have t1 := (apx_nul hm).mul ((apx_bdd hn).mul (apx_bdd hn))
      have t2 := (apx_nul hn).mul (Bdd.const (S.m : Rat))
      refine (t1.add t2).congr (fun j => ?_)
      rw [Rat.intCast_mul]
      grind
  refine ((h.mul (Bdd.const (-S.s)))).congr (fun j => ?_)
  unfold Sn.w Sn.v v1
  rw [apx_one]
  grind
theorem lo_w (S : Sn) (hm : 0 ≤ S.m) (hn : 0 ≤ S.n) {k j : Nat} (h : k ≤ j) : S.lo k ≤ S.w j ∧ S.w j ≤ S.hi k := by
  have h1 := bounds_ok S.p (r := 1) (by decide) h
  have h2 := bounds_ok S.q hm h
  have h3 := bounds_ok S.r hn h
  have h4 := bounds_ok S.s (Int.mul_nonneg hm hn) h
  have c0 : ((0 : Int) : Rat) = 0 := rfl
  unfold Sn.lo Sn.hi Sn.w
  rw [c0]
  constructor <;> grind
theorem lo_pos (S : Sn) (hm : 0 ≤ S.m) (hn : 0 ≤ S.n) {k : Nat} (h : 0 < S.lo k) : S.sg = 1 := by
  have hp : Pos S.w := ⟨S.lo k, h, k, fun j hj => (lo_w S hm hn hj).1⟩
  exact (sig2 S hm hn).unique (.inl ⟨rfl, (hp.add_nul (w_v S hm hn).neg).congr (fun j => by grind)⟩)
theorem hi_neg (S : Sn) (hm : 0 ≤ S.m) (hn : 0 ≤ S.n) {k : Nat} (h : S.hi k < 0) : S.sg = -1 := by
  have hp : Pos (fun j => -S.w j) := ⟨-S.hi k, by grind, k, fun j hj => by have := (lo_w S hm hn hj).2; grind⟩
  exact (sig2 S hm hn).unique (.inr (.inr ⟨rfl, (hp.add_nul (w_v S hm hn)).congr (fun j => by grind)⟩))
/-- Neither: it lies near to 0. -/
theorem near_zero (S : Sn) (hm : 0 ≤ S.m) (hn : 0 ≤ S.n) {k : Nat} {A : Rat} (hA : 0 ≤ A) (h1 : ¬ 0 < S.lo k) (h2 : ¬ S.hi k < 0) (hq : -A ≤ S.q ∧ S.q ≤ A) (hr : -A ≤ S.r ∧ S.r ≤ A) (hs : -A ≤ S.s ∧ S.s ≤ A) (hp : -A ≤ S.p ∧ S.p ≤ A)
    {δ : Rat} (hδ : 4 * (A * tk k) < δ) : ∃ K, ∀ j, K ≤ j → -δ < S.v j ∧ S.v j < δ := by
  have b0 := bounds_w S.p 1 k hp.1 hp.2
  have b1 := bounds_w S.q S.m k hq.1 hq.2
  have b2 := bounds_w S.r S.n k hr.1 hr.2
  have b3 := bounds_w S.s (S.m * S.n) k hs.1 hs.2
  have hw : S.hi k - S.lo k ≤ 4 * (A * tk k) := by
    unfold Sn.hi Sn.lo
    grind
  obtain ⟨K, hK⟩ := w_v S hm hn ((δ - 4 * (A * tk k)) * Rat.divInt 1 2) (Rat.mul_pos (by grind) (by decide +kernel))
  have hhalf := half_pos (show 0 < δ - 4 * (A * tk k) by grind)
  refine ⟨max K k, fun j hj => ?_⟩
  have a1 := hK j (by omega)
  have a2 := lo_w S hm hn (show k ≤ j by omega)
  constructor <;> grind
end Go.Proofs.Ytaafmafdnnjmdaa

set_option linter.unusedSimpArgs false
set_option linter.unusedVariables false
namespace Go.Proofs.Ytaafmafdnnjmdaa
open Go.RowKit Go.IntWalk

/-- 2^a. -/
def tw (a : Nat) : Rat := (((2 ^ a : Nat) : Int) : Rat)
theorem tw_eq (a : Nat) : tw a = ((2 ^ a : Int) : Rat) := by unfold tw; push_cast; rfl
theorem tw_pos (a : Nat) : 0 < tw a := by rw [tw_eq]; exact two_pos a
theorem tw_add (a b : Nat) : tw (a + b) = tw a * tw b := by unfold tw; rw [← natCast_mul', Nat.pow_add]
theorem tw_zero : tw 0 = 1 := rfl
theorem tw_one : tw 1 = 2 := rfl
theorem tw_mono {a b : Nat} (h : a ≤ b) : tw a ≤ tw b := nat_le_rat (Nat.pow_le_pow_right (by decide) h)
theorem tk_tw (a : Nat) : tk a * tw a = 1 := by rw [tw_eq]; exact tk_mul a
theorem tk_add (a b : Nat) : tk (a + b) * tw b = tk a := by
  have h1 := tk_tw (a + b)
  have h2 := tk_tw a
  rw [tw_add] at h1
  have h3 : 0 ≤ (tk (a + b) * tw b - tk a) * tw a := by grind
  have h4 : 0 ≤ (tk a - tk (a + b) * tw b) * tw a := by grind
  have := nonneg_of_mul (tw_pos a) h3
  have := nonneg_of_mul (tw_pos a) h4
  grind
theorem tk_succ (a : Nat) : tk (a + 1) + tk (a + 1) = tk a := by
  have := tk_add a 1
  rw [tw_one] at this
  grind
theorem tk_lt {a b : Nat} (h : a < b) : tk b < tk a := by
  obtain ⟨d, rfl⟩ : ∃ d, b = a + 1 + d := ⟨b - (a + 1), by omega⟩
  have h1 := tk_add (a + 1) d
  have h2 := tk_succ a
  have h3 := tk_pos (a + 1 + d)
  have h4 := tk_pos (a + 1)
  have h5 := tw_mono (Nat.zero_le d)
  rw [tw_zero] at h5
  have := Rat.mul_nonneg (Rat.le_of_lt h3) (show 0 ≤ tw d - 1 by grind)
  grind

/-- So great at most, with a denominator so great at most. -/
def md (a d : Nat) (x : Rat) : Prop := -(tw a) ≤ x ∧ x ≤ tw a ∧ x.den ≤ 2 ^ d
theorem md.mono {a d a' d' : Nat} {x : Rat} (h : md a d x) (ha : a ≤ a') (hd : d ≤ d') : md a' d' x := by
  have := tw_mono ha
  exact ⟨by have := h.1; grind, by have := h.2.1; grind, Nat.le_trans h.2.2 (Nat.pow_le_pow_right (by decide) hd)⟩
theorem den_of {n d : Int} {q : Rat} (hd : 0 < d) (h : q = Rat.divInt n d) : q.den ≤ d.natAbs := by
  obtain ⟨g, hg, e1, e2⟩ := parts_of hd h
  have hdd : d.natAbs = q.den * g.natAbs := by rw [e2, Int.natAbs_mul]; rfl
  have : q.den * 1 ≤ q.den * g.natAbs := Nat.mul_le_mul_left _ (by omega)
  omega
theorem md.mul {a d b e : Nat} {x y : Rat} (hx : md a d x) (hy : md b e y) : md (a + b) (d + e) (x * y) := by
  have p1 := tw_pos a
  have p2 := tw_pos b
  obtain ⟨x1, x2, x3⟩ := hx
  obtain ⟨y1, y2, y3⟩ := hy
  rw [md, tw_add]
  have q1 := Rat.mul_nonneg (show 0 ≤ tw a - x by grind) (show 0 ≤ tw b + y by grind)
  have q2 := Rat.mul_nonneg (show 0 ≤ tw a + x by grind) (show 0 ≤ tw b - y by grind)
  have q3 := Rat.mul_nonneg (show 0 ≤ tw a - x by grind) (show 0 ≤ tw b - y by grind)
  have q4 := Rat.mul_nonneg (show 0 ≤ tw a + x by grind) (show 0 ≤ tw b + y by grind)
  refine ⟨by grind, by grind, ?_⟩
  have := den_of (by have := den_pos' x; have := den_pos' y; exact Int.mul_pos (by assumption) (by assumption)) (q_mul x y).symm
  rw [Int.natAbs_mul] at this
  rw [Nat.pow_add]
  exact Nat.le_trans this (Nat.mul_le_mul x3 y3)
theorem md.add {a d b e : Nat} {x y : Rat} (hx : md a d x) (hy : md b e y) : md (max a b + 1) (d + e) (x + y) := by
  obtain ⟨x1, x2, x3⟩ := hx
  obtain ⟨y1, y2, y3⟩ := hy
  have m1 := tw_mono (Nat.le_max_left a b)
  have m2 := tw_mono (Nat.le_max_right a b)
  rw [md, tw_add (max a b) 1, tw_one]
  refine ⟨by grind, by grind, ?_⟩
  have := den_of (by have := den_pos' x; have := den_pos' y; exact Int.mul_pos (by assumption) (by assumption)) (q_add x y).symm
  rw [Int.natAbs_mul] at this
  rw [Nat.pow_add]
  exact Nat.le_trans this (Nat.mul_le_mul x3 y3)
theorem md.neg {a d : Nat} {x : Rat} (hx : md a d x) : md a d (-x) := by
  obtain ⟨x1, x2, x3⟩ := hx
  exact ⟨by grind, by grind, by rw [Rat.neg_den]; exact x3⟩
theorem md.sub {a d b e : Nat} {x y : Rat} (hx : md a d x) (hy : md b e y) : md (max a b + 1) (d + e) (x - y) := by
  rw [Rat.sub_eq_add_neg]
  exact hx.add hy.neg
theorem md.int {a : Nat} {z : Int} (h : z.natAbs ≤ 2 ^ a) : md a 0 (z : Rat) := by
  have h1 : ((z.natAbs : Int) : Rat) ≤ tw a := nat_le_rat h
  have h2 : (z : Rat) ≤ ((z.natAbs : Int) : Rat) := Rat.intCast_le_intCast.2 (by omega)
  have h3 : -((z.natAbs : Int) : Rat) ≤ (z : Rat) := by rw [← Rat.intCast_neg]; exact Rat.intCast_le_intCast.2 (by omega)
  exact ⟨by grind, by grind, Nat.le_refl 1⟩
theorem md.zero (a d : Nat) : md a d 0 := (md.int (a := 0) (z := 0) (by decide)).mono (Nat.zero_le _) (Nat.zero_le _)
theorem bq.md {b : Nat} {x : Rat} (h : bq b x) : md b b x := by
  have h1 := rat_den x
  have hd : (1 : Rat) ≤ ((x.den : Int) : Rat) := by exact_mod_cast (show (1 : Int) ≤ x.den by have := x.den_pos; omega)
  obtain ⟨g1, g2, _⟩ := md.int (a := b) (z := x.num) (Nat.le_of_lt h.1)
  have hp := tw_pos b
  refine ⟨?_, ?_, Nat.le_of_lt h.2⟩
  · have := nonneg_of_mul (show 0 < ((x.den : Int) : Rat) by grind) (show 0 ≤ (x + tw b) * ((x.den : Int) : Rat) by
      have := Rat.mul_nonneg (Rat.le_of_lt hp) (show 0 ≤ ((x.den : Int) : Rat) - 1 by grind)
      grind)
    grind
  · have := nonneg_of_mul (show 0 < ((x.den : Int) : Rat) by grind) (show 0 ≤ (tw b - x) * ((x.den : Int) : Rat) by
      have := Rat.mul_nonneg (Rat.le_of_lt hp) (show 0 ≤ ((x.den : Int) : Rat) - 1 by grind)
      grind)
    grind
/-- It is not near to 0 but 0. -/
theorem md.nz {a d : Nat} {x : Rat} (h : md a d x) (h0 : x ≠ 0) : tk d ≤ x ∨ x ≤ -tk d := by
  have h1 := rat_den x
  have hd : (0 : Rat) < ((x.den : Int) : Rat) := by exact_mod_cast (show (0 : Int) < x.den by have := x.den_pos; omega)
  have hD : ((x.den : Int) : Rat) ≤ tw d := nat_le_rat h.2.2
  have hn : x.num ≠ 0 := fun e => h0 (Rat.num_eq_zero.1 e)
  have ht := tk_tw d
  have hp := tw_pos d
  by_cases hs : 0 < x.num
  · left
    have h2 : (1 : Rat) ≤ ((x.num : Int) : Rat) := by exact_mod_cast (show (1 : Int) ≤ x.num by omega)
    have hx : 0 ≤ x := nonneg_of_mul hd (by grind)
    have := Rat.mul_nonneg hx (show 0 ≤ tw d - ((x.den : Int) : Rat) by grind)
    have := nonneg_of_mul hp (show 0 ≤ (x - tk d) * tw d by grind)
    grind
  · right
    have h2 : ((x.num : Int) : Rat) ≤ ((-1 : Int) : Rat) := Rat.intCast_le_intCast.2 (by omega)
    have e : ((-1 : Int) : Rat) = -1 := rfl
    rw [e] at h2
    have hx : 0 ≤ -x := nonneg_of_mul hd (by grind)
    have := Rat.mul_nonneg hx (show 0 ≤ tw d - ((x.den : Int) : Rat) by grind)
    have := nonneg_of_mul hp (show 0 ≤ (-x - tk d) * tw d by grind)
    grind

/-- A root that is not whole is no quotient. -/
theorem irr {d : Int} (hd : 0 ≤ d) (h : isSq d = false) {x y : Rat} (e : x * x = d * (y * y)) : y = 0 := by
  by_cases hy : y = 0
  · exact hy
  exfalso
  have hmul : y * y⁻¹ = 1 := Rat.mul_inv_cancel _ hy
  obtain ⟨t, ht⟩ : ∃ t : Rat, t * t = d := ⟨x * y⁻¹, by
    generalize y⁻¹ = i at *
    have : x * i * (x * i) = d * ((y * i) * (y * i)) := by grind
    rw [this, hmul]
    grind⟩
  have h1 := rat_den t
  have h2 : ((t.num * t.num : Int) : Rat) = ((d * (t.den * t.den) : Int) : Rat) := by
    rw [Rat.intCast_mul, Rat.intCast_mul, Rat.intCast_mul, ← h1, ← ht]
    grind
  have h3 : t.num * t.num = d * (t.den * t.den) := Rat.intCast_inj.1 h2
  have h4 : t.num.natAbs * t.num.natAbs = d.natAbs * (t.den * t.den) := by
    have := congrArg Int.natAbs h3
    rw [Int.natAbs_mul, Int.natAbs_mul, Int.natAbs_mul] at this
    exact this
  have hc : Nat.Coprime t.den t.num.natAbs := (t.reduced).symm
  have h5 : t.den ∣ t.num.natAbs * t.num.natAbs := ⟨d.natAbs * t.den, by rw [h4]; grind⟩
  have h6 : t.den ∣ t.num.natAbs := hc.dvd_of_dvd_mul_left h5
  have h7 : t.den = 1 := by
    have := Nat.dvd_gcd (Nat.dvd_refl t.den) h6
    rw [hc] at this
    exact Nat.dvd_one.1 this
  rw [h7] at h4
  have h8 : isq d.natAbs = t.num.natAbs := by rw [show d.natAbs = t.num.natAbs * t.num.natAbs by omega]; exact isq_sq _
  unfold isSq at h
  rw [h8, h4] at h
  simp at h
theorem irr' {d : Int} (hd : 0 ≤ d) (h : isSq d = false) {x y : Rat} (e : x * x = d * (y * y)) : x = 0 ∧ y = 0 := by
  have hy := irr hd h e
  refine ⟨?_, hy⟩
  rw [hy] at e
  have : x * x = 0 := by rw [e]; grind
  rcases Rat.mul_eq_zero.1 this with h | h <;> exact h
theorem apx_le {m : Int} (hm : 0 ≤ m) {c : Nat} (h : m.natAbs ≤ 2 ^ c) (k : Nat) : 0 ≤ apx m k ∧ apx m k + 1 ≤ tw (c + 2) := by
  obtain ⟨h1, h2, _⟩ := apx_spec hm k
  obtain ⟨_, g2, _⟩ := md.int (a := c) (z := m) h
  have hm' : (0 : Rat) ≤ (m : Rat) := by exact_mod_cast hm
  refine ⟨h1, ?_⟩
  have hp : (1 : Rat) ≤ tw c := by have := tw_mono (Nat.zero_le c); rw [tw_zero] at this; exact this
  have h4 : tw 2 = 4 := rfl
  rw [tw_add, h4]
  by_cases hh : apx m k ≤ (m : Rat) + 1
  · grind
  · have h3 : 0 ≤ (apx m k - 1) * apx m k := Rat.mul_nonneg (by grind) h1
    grind
theorem le_neg' {a b : Rat} (h : a ≤ b) : -b ≤ -a := by grind
theorem neg_le' {a b : Rat} (h : -b ≤ a) : -a ≤ b := by grind
/-- What times something not great is not near to 0 is not near to 0. -/
theorem away {v c : Nat → Rat} {N : Rat} {C e : Nat} (hN : tk e ≤ N ∨ N ≤ -tk e) (hc : ∀ k, -(tw C) ≤ c k ∧ c k ≤ tw C) (hn : Nul (fun k => v k * c k - N)) :
    ∃ K, ∀ k, K ≤ k → tk (e + 1 + C) ≤ v k ∨ v k ≤ -tk (e + 1 + C) := by
  obtain ⟨K, hK⟩ := hn (tk (e + 1)) (tk_pos _)
  refine ⟨K, fun k hk => ?_⟩
  have h1 : -tk (e + 1) ≤ v k * c k - N ∧ v k * c k - N ≤ tk (e + 1) := hK k hk
  have h2 := hc k
  have h3 := tk_succ e
  have h4 := tk_add (e + 1) C
  have h5 := tk_pos (e + 1 + C)
  have h6 := tw_pos C
  generalize tk (e + 1 + C) = t at *
  generalize tw C = P at *
  generalize v k = x at *
  generalize c k = y at *
  by_cases a1 : t ≤ x
  · exact .inl a1
  by_cases a2 : x ≤ -t
  · exact .inr a2
  exfalso
  have key : ∀ z : Rat, -t < z → z < t → z * y < t * P := by
    intro z z1 z2
    by_cases hy : 0 < P + y
    · have q1 := Rat.mul_pos (show 0 < t - z by grind) hy
      have q2 := Rat.mul_nonneg (show 0 ≤ t + z by grind) (show 0 ≤ P - y by grind)
      grind
    · have q1 := Rat.mul_pos (show 0 < t + z by grind) (show 0 < P - y by grind)
      have q2 := Rat.mul_nonneg (show 0 ≤ t - z by grind) (show 0 ≤ P + y by grind)
      grind
  have k1 := key x (by grind) (by grind)
  have k2 := key (-x) (by grind) (by grind)
  rcases hN with h | h <;> grind

section
variable {A D c : Nat}
theorem sep2 {x y : Rat} {d : Int} (hd : 0 ≤ d) (hs : isSq d = false) (hc : d.natAbs ≤ 2 ^ c) (hx : md A D x) (hy : md A D y) (h0 : x ≠ 0 ∨ y ≠ 0) :
    ∃ K, ∀ k, K ≤ k → tk (4 * D + A + c + 4) ≤ x + y * apx d k ∨ x + y * apx d k ≤ -tk (4 * D + A + c + 4) := by
  have hN : md _ (4 * D) (x * x - d * (y * y)) := ((hx.mul hx).sub ((md.int hc).mul (hy.mul hy))).mono (Nat.le_refl _) (by omega)
  have hne : x * x - d * (y * y) ≠ 0 := fun e => by
    obtain ⟨h1, h2⟩ := irr' hd hs (x := x) (y := y) (by grind)
    rcases h0 with h | h <;> contradiction
  have := away (v := fun k => x + y * apx d k) (c := fun k => x - y * apx d k) (C := A + c + 3) (hN.nz hne) (fun k => by
    obtain ⟨a1, a2⟩ := apx_le hd hc k
    obtain ⟨x1, x2, _⟩ := hx
    obtain ⟨y1, y2, _⟩ := hy
    have p1 := tw_pos A
    have p2 := tw_pos (c + 2)
    have q1 := Rat.mul_nonneg (show 0 ≤ tw A - y by grind) a1
    have q2 := Rat.mul_nonneg (show 0 ≤ tw A + y by grind) a1
    have q3 := Rat.mul_nonneg (Rat.le_of_lt p1) (show 0 ≤ tw (c + 2) - (apx d k + 1) by grind)
    have e : tw (A + c + 3) = tw A * tw (c + 2) * 2 := by rw [show A + c + 3 = A + (c + 2) + 1 by omega, tw_add, tw_add, tw_one]
    rw [e]
    have q4 := Rat.mul_nonneg (Rat.le_of_lt p1) (Rat.le_of_lt p2)
    constructor <;> grind) (((apx_nul hd).mul (Bdd.const (-(y * y)))).congr (fun k => by grind))
  rwa [show 4 * D + 1 + (A + c + 3) = 4 * D + A + c + 4 by omega] at this
theorem sep4 {p q r s : Rat} {m n : Int} (hm : 0 ≤ m) (hn : 0 ≤ n) (sm : isSq m = false) (sn : isSq n = false) (smn : isSq (m * n) = false) (cm : m.natAbs ≤ 2 ^ c) (cn : n.natAbs ≤ 2 ^ c)
    (hp : md A D p) (hq : md A D q) (hr : md A D r) (hs : md A D s) (h0 : ¬ (p = 0 ∧ q = 0 ∧ r = 0 ∧ s = 0)) :
    ∃ K, ∀ k, K ≤ k → tk (24 * D + 3 * A + 4 * c + 14) ≤ p + q * apx m k + (r + s * apx m k) * apx n k ∨ p + q * apx m k + (r + s * apx m k) * apx n k ≤ -tk (24 * D + 3 * A + 4 * c + 14) := by
  obtain ⟨X, hX⟩ : ∃ X, X = p * p + m * (q * q) - n * (r * r + m * (s * s)) := ⟨_, rfl⟩
  obtain ⟨Y, hY⟩ : ∃ Y, Y = (2 : Int) * (p * q - n * (r * s)) := ⟨_, rfl⟩
  have c2 : ((2 : Int) : Rat) = 2 := rfl
  have mm := md.int cm
  have mn := md.int cn
  have dX : md (2 * A + 2 * c + 2) (8 * D) X := by
    rw [hX]
    exact (((hp.mul hp).add (mm.mul (hq.mul hq))).sub (mn.mul ((hr.mul hr).add (mm.mul (hs.mul hs))))).mono (by omega) (by omega)
  have dY : md (2 * A + c + 2) (4 * D) Y := by
    rw [hY]
    exact ((md.int (a := 1) (z := 2) (by decide)).mul ((hp.mul hq).sub (mn.mul (hr.mul hs)))).mono (by omega) (by omega)
  have dN : md _ (24 * D) (X * X - m * (Y * Y)) := ((dX.mul dX).sub (mm.mul (dY.mul dY))).mono (Nat.le_refl _) (by omega)
  have hne : X * X - m * (Y * Y) ≠ 0 := fun e => by
    obtain ⟨h1, h2⟩ := irr' hm sm (x := X) (y := Y) (by grind)
    rw [hX] at h1
    rw [hY, c2] at h2
    have z1 : (p * r - m * (q * s)) * (p * r - m * (q * s)) + m * ((q * r - p * s) * (q * r - p * s)) - n * ((r * r - m * (s * s)) * (r * r - m * (s * s))) = (r * r + m * (s * s)) * (p * p + m * (q * q) - n * (r * r + m * (s * s))) - 2 * m * r * s * (2 * (p * q - n * (r * s))) := by grind
    have z2 : 2 * ((p * r - m * (q * s)) * (q * r - p * s)) = (r * r + m * (s * s)) * (2 * (p * q - n * (r * s))) - 2 * r * s * (p * p + m * (q * q) - n * (r * r + m * (s * s))) := by grind
    rw [h1, h2] at z1 z2
    obtain ⟨C, hC⟩ : ∃ C, C = p * r - m * (q * s) := ⟨_, rfl⟩
    obtain ⟨E, hE⟩ : ∃ E, E = q * r - p * s := ⟨_, rfl⟩
    obtain ⟨B, hB⟩ : ∃ B, B = r * r - m * (s * s) := ⟨_, rfl⟩
    rw [← hC, ← hE, ← hB] at z1
    rw [← hC, ← hE] at z2
    have hCE : C * E = 0 := by grind
    have hB0 : B = 0 := by
      rcases Rat.mul_eq_zero.1 hCE with hc | he
      · rw [hc] at z1
        refine irr (Int.mul_nonneg hm hn) smn (x := (m : Rat) * E) (y := B) ?_
        rw [Rat.intCast_mul]
        have : (m : Rat) * (E * E) = n * (B * B) := by grind
        grind
      · rw [he] at z1
        exact irr hn sn (x := C) (y := B) (by grind)
    obtain ⟨r0, s0⟩ := irr' hm sm (x := r) (y := s) (by grind)
    rw [r0, s0] at h1
    have hm1 : (1 : Rat) ≤ (m : Rat) := by
      have : m ≠ 0 := fun e => by rw [e, isSq_zero] at sm; simp at sm
      exact_mod_cast (show (1 : Int) ≤ m by omega)
    have sq : ∀ x : Rat, 0 ≤ x * x := fun x => by
      by_cases h : 0 ≤ x
      · exact Rat.mul_nonneg h h
      · have := Rat.mul_nonneg (show 0 ≤ -x by grind) (show 0 ≤ -x by grind)
        grind
    have sp := sq p
    have sq' := sq q
    have := Rat.mul_nonneg (show 0 ≤ (m : Rat) - 1 by grind) sq'
    have q0 : q * q = 0 := by grind
    have p0 : p * p = 0 := by grind
    refine h0 ⟨?_, ?_, r0, s0⟩
    · rcases Rat.mul_eq_zero.1 p0 with h | h <;> exact h
    · rcases Rat.mul_eq_zero.1 q0 with h | h <;> exact h
  have bd := away (v := fun k => p + q * apx m k + (r + s * apx m k) * apx n k) (c := fun k => (p + q * apx m k + -(r + s * apx m k) * apx n k) * (X - Y * apx m k)) (C := 3 * A + 4 * c + 13) (dN.nz hne) (fun k => by
    obtain ⟨a1, a2⟩ := apx_le hm cm k
    obtain ⟨b1, b2⟩ := apx_le hn cn k
    have lin : ∀ {B F : Nat} {x y : Rat}, -(tw B) ≤ x → x ≤ tw B → -(tw B) ≤ y → y ≤ tw B → ∀ {g : Rat}, 0 ≤ g → g + 1 ≤ tw F → -(tw (B + F)) ≤ x + y * g ∧ x + y * g ≤ tw (B + F) := by
      intro B F x y x1 x2 y1 y2 g g1 g2
      have p1 := tw_pos B
      have q1 := Rat.mul_nonneg (show 0 ≤ tw B - y by grind) g1
      have q2 := Rat.mul_nonneg (show 0 ≤ tw B + y by grind) g1
      have q3 := Rat.mul_nonneg (Rat.le_of_lt p1) (show 0 ≤ tw F - (g + 1) by grind)
      rw [tw_add]
      constructor <;> grind
    obtain ⟨l1, l2⟩ := lin hp.1 hp.2.1 hq.1 hq.2.1 a1 a2
    obtain ⟨l3, l4⟩ := lin hr.1 hr.2.1 hs.1 hs.2.1 a1 a2
    obtain ⟨l5, l6⟩ := lin l1 l2 (y := -(r + s * apx m k)) (le_neg' l4) (neg_le' l3) b1 b2
    have hXm := dX.mono (show 2 * A + 2 * c + 2 ≤ 2 * A + 2 * c + 2 by omega) (Nat.le_refl _)
    have hYm := dY.mono (show 2 * A + c + 2 ≤ 2 * A + 2 * c + 2 by omega) (Nat.le_refl _)
    have yb : -(tw (2 * A + c + 2)) ≤ -Y ∧ -Y ≤ tw (2 * A + c + 2) := ⟨by have := dY.2.1; grind, by have := dY.1; grind⟩
    have xb : -(tw (2 * A + 2 * c + 5)) ≤ X - Y * apx m k ∧ X - Y * apx m k ≤ tw (2 * A + 2 * c + 5) := by
      have p1 := tw_pos (2 * A + c + 2)
      have q1 := Rat.mul_nonneg (show 0 ≤ tw (2 * A + c + 2) - (-Y) by grind) a1
      have q2 := Rat.mul_nonneg (show 0 ≤ tw (2 * A + c + 2) + (-Y) by grind) a1
      have q3 := Rat.mul_nonneg (Rat.le_of_lt p1) (show 0 ≤ tw (c + 2) - (apx m k + 1) by grind)
      have e1 : tw (2 * A + c + 2) * tw (c + 2) = tw (2 * A + 2 * c + 4) := by rw [← tw_add]; congr 1; omega
      have e2 : tw (2 * A + 2 * c + 5) = tw (2 * A + 2 * c + 4) * 2 := by rw [← tw_one, ← tw_add]
      have e3 := tw_mono (show 2 * A + 2 * c + 2 ≤ 2 * A + 2 * c + 4 by omega)
      obtain ⟨x1, x2, _⟩ := dX
      rw [e2]
      constructor <;> grind
    have pr : ∀ {B F : Nat} {x y : Rat}, -(tw B) ≤ x → x ≤ tw B → -(tw F) ≤ y → y ≤ tw F → -(tw (B + F)) ≤ x * y ∧ x * y ≤ tw (B + F) := by
      intro B F x y x1 x2 y1 y2
      rw [tw_add]
      have q1 := Rat.mul_nonneg (show 0 ≤ tw B - x by grind) (show 0 ≤ tw F + y by grind)
      have q2 := Rat.mul_nonneg (show 0 ≤ tw B + x by grind) (show 0 ≤ tw F - y by grind)
      have q3 := Rat.mul_nonneg (show 0 ≤ tw B - x by grind) (show 0 ≤ tw F - y by grind)
      have q4 := Rat.mul_nonneg (show 0 ≤ tw B + x by grind) (show 0 ≤ tw F + y by grind)
      constructor <;> grind
    have fin := pr l5 l6 xb.1 xb.2
    have e := tw_mono (show A + (c + 2) + (c + 2) + (2 * A + 2 * c + 5) ≤ 3 * A + 4 * c + 13 by omega)
    exact ⟨Rat.le_trans (le_neg' e) fin.1, Rat.le_trans fin.2 e⟩) (by
    have na := apx_nul hm
    have nb := apx_nul hn
    have ba := apx_bdd hm
    have bb := apx_bdd hn
    have t1 := (na.mul (Bdd.const (q * q - n * (s * s)))).add ((nb.mul (((Bdd.const r).add ((Bdd.const s).mul ba)).mul ((Bdd.const r).add ((Bdd.const s).mul ba)))).neg)
    have t2 := t1.mul ((Bdd.const X).add ((Bdd.const (-Y)).mul ba))
    have t3 := na.mul (Bdd.const (-(Y * Y)))
    refine (t2.add t3).congr (fun k => ?_)
    have hX' : X = p * p + m * (q * q) - n * (r * r + m * (s * s)) := hX
    have hY' : Y = 2 * (p * q - n * (r * s)) := by rw [hY, c2]
    clear hX hY dX dY dN hne t1 t2 t3 ba bb na nb
    have e1 : (p + q * apx m k + (r + s * apx m k) * apx n k) * (p + q * apx m k + -(r + s * apx m k) * apx n k) = X + Y * apx m k + ((apx m k * apx m k - m) * (q * q - n * (s * s)) + -((apx n k * apx n k - n) * ((r + s * apx m k) * (r + s * apx m k)))) := by
      rw [hX', hY']
      grind
    have e2 : (p + q * apx m k + (r + s * apx m k) * apx n k) * ((p + q * apx m k + -(r + s * apx m k) * apx n k) * (X - Y * apx m k)) = ((p + q * apx m k + (r + s * apx m k) * apx n k) * (p + q * apx m k + -(r + s * apx m k) * apx n k)) * (X - Y * apx m k) := by rw [Rat.mul_assoc]
    rw [e2, e1]
    clear e1 e2 hX' hY'
    grind)
  rwa [show 24 * D + 1 + (3 * A + 4 * c + 13) = 24 * D + 3 * A + 4 * c + 14 by omega] at bd
end
end Go.Proofs.Ytaafmafdnnjmdaa

set_option linter.unusedSimpArgs false
set_option linter.unusedVariables false
namespace Go.Proofs.Ytaafmafdnnjmdaa
open Go.RowKit Go.IntWalk

theorem decide_sign (F : Sn) (hm : 0 ≤ F.m) (hn : 0 ≤ F.n) {A k E : Nat} (hp : -(tw A) ≤ F.p ∧ F.p ≤ tw A) (hq : -(tw A) ≤ F.q ∧ F.q ≤ tw A) (hr : -(tw A) ≤ F.r ∧ F.r ≤ tw A) (hs : -(tw A) ≤ F.s ∧ F.s ≤ tw A)
    (hv : ∃ K, ∀ j, K ≤ j → tk E ≤ F.v j ∨ F.v j ≤ -tk E) (hE : A + 2 + E < k) : 0 < F.lo k ∨ F.hi k < 0 := by
  by_cases h1 : 0 < F.lo k
  · exact .inl h1
  by_cases h2 : F.hi k < 0
  · exact .inr h2
  exfalso
  have hδ : 4 * (tw A * tk k) < tk E := by
    have e1 : k = (k - (A + 2)) + (A + 2) := by omega
    have e2 := tk_add (k - (A + 2)) (A + 2)
    rw [← e1] at e2
    have e3 : tw (A + 2) = tw A * 4 := by rw [tw_add]; rfl
    rw [e3] at e2
    have e4 := tk_lt (show E < k - (A + 2) by omega)
    grind
  obtain ⟨K1, g1⟩ := near_zero F hm hn (Rat.le_of_lt (tw_pos A)) h1 h2 hq hr hs hp hδ
  obtain ⟨K2, g2⟩ := hv
  have a1 := g1 (max K1 K2) (by omega)
  have a2 := g2 (max K1 K2) (by omega)
  rcases a2 with h | h <;> grind

theorem isq_le (x : Nat) : isq x ≤ x := by
  have h := (isq_spec x).1
  rcases Nat.eq_zero_or_pos (isq x) with e | e
  · omega
  · have : isq x * 1 ≤ isq x * isq x := Nat.mul_le_mul_left _ e
    omega
theorem md.rt {c : Nat} {n : Int} (h : n.natAbs ≤ 2 ^ c) : md c 0 (rtq n) := md.int (z := ((isq n.natAbs : Nat) : Int)) (Nat.le_trans (isq_le _) h)
theorem md.z {a d : Nat} {x : Rat} (h : md a d x) : md a d (0 + x) := by
  rw [Rat.zero_add]
  exact h
theorem md.b {a d : Nat} {x : Rat} (h : md a d x) : -(tw a) ≤ x ∧ x ≤ tw a := ⟨h.1, h.2.1⟩
theorem mul_bits {m n : Int} {c : Nat} (cm : m.natAbs ≤ 2 ^ c) (cn : n.natAbs ≤ 2 ^ c) : (m * n).natAbs ≤ 2 ^ (2 * c) := by
  rw [Int.natAbs_mul, show 2 * c = c + c by omega, Nat.pow_add]
  exact Nat.mul_le_mul cm cn
theorem md.rtm {c : Nat} {m n : Int} (hm : 0 < m) (cm : m.natAbs ≤ 2 ^ c) (cn : n.natAbs ≤ 2 ^ c) : md (2 * c) c (rtq (m * n) / (m : Rat)) := by
  have h := md.rt (mul_bits cm cn)
  have hmq : (1 : Rat) ≤ (m : Rat) := by exact_mod_cast (show (1 : Int) ≤ m by omega)
  have h0 : 0 ≤ rtq (m * n) := by unfold rtq; exact_mod_cast Int.natCast_nonneg _
  have hne : (m : Rat) ≠ 0 := fun e => by rw [e] at hmq; exact absurd hmq (by decide +kernel)
  have hmul : (m : Rat) * (m : Rat)⁻¹ = 1 := Rat.mul_inv_cancel _ hne
  have e : rtq (m * n) / (m : Rat) = Rat.divInt ((isq (m * n).natAbs : Nat) : Int) m := by
    rw [Rat.divInt_eq_div]; rfl
  refine ⟨?_, ?_, ?_⟩
  · have hp := tw_pos (2 * c)
    have : 0 ≤ rtq (m * n) / (m : Rat) := nonneg_of_mul (show 0 < (m : Rat) by grind) (by
      rw [Rat.div_def]
      generalize (m : Rat)⁻¹ = i at *
      have : rtq (m * n) * i * m = rtq (m * n) * (m * i) := by grind
      rw [this, hmul]
      grind)
    grind
  · have h2 := h.2.1
    have : 0 ≤ tw (2 * c) - rtq (m * n) / (m : Rat) := nonneg_of_mul (show 0 < (m : Rat) by grind) (by
      rw [Rat.div_def]
      generalize (m : Rat)⁻¹ = i at *
      have : (tw (2 * c) - rtq (m * n) * i) * m = tw (2 * c) * m - rtq (m * n) * (m * i) := by grind
      rw [this, hmul]
      have := Rat.mul_nonneg (show 0 ≤ tw (2 * c) by have := tw_pos (2 * c); grind) (show 0 ≤ (m : Rat) - 1 by grind)
      grind)
    grind
  · have := den_of hm e
    exact Nat.le_trans this cm

theorem v_pq (F : Sn) (hr : F.r = 0) (hs : F.s = 0) (j : Nat) : F.v j = F.p + F.q * apx F.m j := by
  unfold Sn.v v1
  rw [hr, hs]
  grind
theorem v_pr (F : Sn) (hq : F.q = 0) (hs : F.s = 0) (j : Nat) : F.v j = F.p + F.r * apx F.n j := by
  unfold Sn.v v1
  rw [hq, hs]
  grind
/-- Whether all parts are 0. -/
def Sn.nil (F : Sn) : Prop := F.p = 0 ∧ F.q = 0 ∧ F.r = 0 ∧ F.s = 0
theorem sep_all (S : Sn) {A D c : Nat} (hm : 0 ≤ S.m) (hn : 0 ≤ S.n) (cm : S.m.natAbs ≤ 2 ^ c) (cn : S.n.natAbs ≤ 2 ^ c) (hp : md A D S.p) (hq : md A D S.q) (hr : md A D S.r) (hs : md A D S.s)
    {k : Nat} (hE : 24 * D + 9 * c + 4 * A + 40 < k) (h0 : ¬ S.fold.nil) : 0 < S.fold.lo k ∨ S.fold.hi k < 0 := by
  have fm := fold_mn S
  have z0 : ∀ a : Nat, -(tw a) ≤ (0 : Rat) ∧ (0 : Rat) ≤ tw a := fun a => (md.zero a 0).b
  by_cases sm : isSq S.m = true
  · have e1 : S.f1 = ⟨S.m, S.n, 0 + S.p + rtq S.m * S.q, 0, 0 + S.r + rtq S.m * S.s, 0⟩ := by unfold Sn.f1; rw [if_pos sm]
    have m1 : md (c + A + 1) (2 * D) (0 + S.p + rtq S.m * S.q) := (hp.z.add ((md.rt cm).mul hq)).mono (by omega) (by omega)
    have m2 : md (c + A + 1) (2 * D) (0 + S.r + rtq S.m * S.s) := (hr.z.add ((md.rt cm).mul hs)).mono (by omega) (by omega)
    by_cases sn : isSq S.n = true
    · have e2 : S.fold = ⟨S.m, S.n, 0 + (0 + S.p + rtq S.m * S.q) + rtq S.n * (0 + S.r + rtq S.m * S.s), 0 + 0 + rtq S.n * 0, 0, 0⟩ := by
        unfold Sn.fold
        rw [e1]
        unfold Sn.f2
        rw [if_pos sn]
        unfold Sn.f3
        rw [if_neg (fun h => by rw [sm] at h; simp at h)]
      have q0 : S.fold.q = 0 := by rw [e2]; simp only; grind
      have r0 : S.fold.r = 0 := by rw [e2]
      have s0 : S.fold.s = 0 := by rw [e2]
      have mP : md (2 * c + A + 2) (4 * D) S.fold.p := by
        rw [e2]
        exact (m1.z.add ((md.rt cn).mul m2)).mono (by omega) (by omega)
      have p0 : S.fold.p ≠ 0 := fun h => h0 ⟨h, q0, r0, s0⟩
      refine decide_sign S.fold (by omega) (by omega) (A := 2 * c + A + 2) (E := 4 * D) mP.b (by rw [q0]; exact z0 _) (by rw [r0]; exact z0 _) (by rw [s0]; exact z0 _) ⟨0, fun j _ => ?_⟩ (by omega)
      rw [v_pq _ r0 s0, q0, Rat.zero_mul, Rat.add_zero]
      exact mP.nz p0
    · have sn' : isSq S.n = false := by simpa using sn
      have e2 : S.fold = S.f1 := by
        unfold Sn.fold
        rw [e1]
        unfold Sn.f2
        rw [if_neg sn]
        unfold Sn.f3
        rw [if_neg (fun h => by rw [sm] at h; simp at h)]
      have q0 : S.fold.q = 0 := by rw [e2, e1]
      have s0 : S.fold.s = 0 := by rw [e2, e1]
      have mP : md (c + A + 1) (2 * D) S.fold.p := by rw [e2, e1]; exact m1
      have mR : md (c + A + 1) (2 * D) S.fold.r := by rw [e2, e1]; exact m2
      have pr0 : S.fold.p ≠ 0 ∨ S.fold.r ≠ 0 := by
        by_cases h : S.fold.p = 0
        · exact .inr (fun h' => h0 ⟨h, q0, h', s0⟩)
        · exact .inl h
      have := sep2 (d := S.n) hn sn' cn mP mR pr0
      refine decide_sign S.fold (by omega) (by omega) (A := c + A + 1) (E := 4 * (2 * D) + (c + A + 1) + c + 4) mP.b (by rw [q0]; exact z0 _) mR.b (by rw [s0]; exact z0 _) ?_ (by omega)
      obtain ⟨K, hK⟩ := this
      exact ⟨K, fun j hj => by rw [v_pr _ q0 s0, fm.2]; exact hK j hj⟩
  · have sm' : isSq S.m = false := by simpa using sm
    have e1 : S.f1 = S := by unfold Sn.f1; rw [if_neg sm]
    have two : ∀ (P Q : Rat), S.fold = ⟨S.m, S.n, P, Q, 0, 0⟩ → md (2 * c + A + 1) (2 * D + c) P → md (2 * c + A + 1) (2 * D + c) Q → 0 < S.fold.lo k ∨ S.fold.hi k < 0 := by
      intro P Q e2 mP mQ
      have r0 : S.fold.r = 0 := by rw [e2]
      have s0 : S.fold.s = 0 := by rw [e2]
      have eP : S.fold.p = P := by rw [e2]
      have eQ : S.fold.q = Q := by rw [e2]
      have pq0 : P ≠ 0 ∨ Q ≠ 0 := by
        by_cases h : P = 0
        · exact .inr (fun h' => h0 ⟨by rw [eP]; exact h, by rw [eQ]; exact h', r0, s0⟩)
        · exact .inl h
      have := sep2 (d := S.m) hm sm' cm mP mQ pq0
      refine decide_sign S.fold (by omega) (by omega) (A := 2 * c + A + 1) (E := 4 * (2 * D + c) + (2 * c + A + 1) + c + 4) (by rw [eP]; exact mP.b) (by rw [eQ]; exact mQ.b) (by rw [r0]; exact z0 _) (by rw [s0]; exact z0 _) ?_ (by omega)
      obtain ⟨K, hK⟩ := this
      exact ⟨K, fun j hj => by rw [v_pq _ r0 s0, fm.1, eP, eQ]; exact hK j hj⟩
    by_cases sn : isSq S.n = true
    · refine two _ _ ?_ ((hp.z.add ((md.rt cn).mul hr)).mono (by omega) (by omega)) ((hq.z.add ((md.rt cn).mul hs)).mono (by omega) (by omega))
      unfold Sn.fold
      rw [e1]
      unfold Sn.f2
      rw [if_pos sn]
      unfold Sn.f3
      rw [if_neg (fun h => by have := h.2.2; simp only at this; rw [sn] at this; simp at this)]
    · have sn' : isSq S.n = false := by simpa using sn
      have e2 : S.f2 = S := by unfold Sn.f2; rw [if_neg sn]
      by_cases smn : isSq (S.m * S.n) = true
      · have hm0 : S.m ≠ 0 := fun e => by rw [e, isSq_zero] at sm'; simp at sm'
        refine two _ _ ?_ ((hp.z.add ((md.rt (mul_bits cm cn)).mul hs)).mono (by omega) (by omega)) ((hq.z.add ((md.rtm (by omega) cm cn).mul hr)).mono (by omega) (by omega))
        unfold Sn.fold
        rw [e1, e2]
        unfold Sn.f3
        rw [if_pos ⟨smn, sm', sn'⟩]
      · have smn' : isSq (S.m * S.n) = false := by simpa using smn
        have e3 : S.fold = S := by
          unfold Sn.fold
          rw [e1, e2]
          unfold Sn.f3
          rw [if_neg (fun h => smn h.1)]
        rw [e3] at h0 ⊢
        have := sep4 hm hn sm' sn' smn' cm cn hp hq hr hs h0
        exact decide_sign S hm hn (A := A) (E := 24 * D + 3 * A + 4 * c + 14) hp.b hq.b hr.b hs.b this (by omega)
/-- A number of root 2's field, of two parts. -/
abbrev r2F (x y : Rat) : Sn := ⟨2, 0, x, y, 0, 0⟩
/-- How near it comes to 0. -/
theorem sep_r2 {x y : Rat} {A D : Nat} (hx : md A D x) (hy : md A D y) {k : Nat} (hE : 4 * D + 2 * A + 10 < k) (h0 : ¬ (r2F x y).nil) : 0 < (r2F x y).lo k ∨ (r2F x y).hi k < 0 := by
  have s2 : isSq 2 = false := by decide
  have xy0 : x ≠ 0 ∨ y ≠ 0 := by
    by_cases h : x = 0
    · exact .inr (fun h' => h0 ⟨h, h', rfl, rfl⟩)
    · exact .inl h
  have := sep2 (d := 2) (c := 1) (by decide) s2 (by decide) hx hy xy0
  have z0 : ∀ a : Nat, -(tw a) ≤ (0 : Rat) ∧ (0 : Rat) ≤ tw a := fun a => (md.zero a 0).b
  refine decide_sign (r2F x y) (by show (0 : Int) ≤ 2; decide) (by show (0 : Int) ≤ 0; decide) (A := A) (E := 4 * D + A + 1 + 4) hx.b hy.b (z0 _) (z0 _) ?_ (by omega)
  obtain ⟨K, hK⟩ := this
  exact ⟨K, fun j hj => by rw [v_pq _ rfl rfl]; exact hK j hj⟩
theorem fold_r2 (x y : Rat) : (r2F x y).fold = r2F x y := by
  have s2 : isSq 2 = false := by decide
  have s0 : isSq 0 = true := by decide
  have e1 : (r2F x y).f1 = r2F x y := by unfold Sn.f1; rw [if_neg (by show ¬ isSq 2 = true; rw [s2]; simp)]
  have e2 : (r2F x y).f2 = r2F x y := by
    unfold Sn.f2
    rw [if_pos (by show isSq 0 = true; exact s0)]
    unfold r2F
    refine Sn.ext' rfl rfl ?_ ?_ rfl rfl <;> simp only <;> grind
  unfold Sn.fold
  rw [e1, e2]
  unfold Sn.f3
  rw [if_neg (fun h => by have : isSq 0 = false := h.2.2; rw [s0] at this; simp at this)]
end Go.Proofs.Ytaafmafdnnjmdaa
