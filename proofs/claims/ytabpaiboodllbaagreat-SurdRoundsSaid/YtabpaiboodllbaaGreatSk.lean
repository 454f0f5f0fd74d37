
/- The reference's sign of a number with two roots: other roots, bounds. Plain laws. -/
import Derived.Test.YtabpaiboodllbaaGreatSf
set_option linter.unusedSimpArgs false
set_option linter.unusedVariables false
namespace Go.Proofs.YtabpaiboodllbaaGreat
open Go.RowKit Go.IntWalk

/-- The root of a whole number, if it is one. -/
def rtq (n : Int) : Rat := ((isq n.natAbs : Nat) : Int)
def isSq (n : Int) : Bool := n.natAbs - isq n.natAbs * isq n.natAbs == 0
theorem isSq_eq {n : Int} (hn : 0 ≤ n) (h : isSq n = true) : rtq n * rtq n = (n : Rat) ∧ 0 ≤ rtq n := by
  unfold isSq at h
  have h1 := (isq_spec n.natAbs).1
  have h2 : isq n.natAbs * isq n.natAbs = n.natAbs := by have := eq_of_beq h; omega
  unfold rtq
  refine ⟨?_, by exact_mod_cast Int.natCast_nonneg _⟩
  rw [← natCast_mul', h2, show (n.natAbs : Int) = n by omega]
theorem nonneg_eq_of_sq {a b : Rat} (ha : 0 ≤ a) (hb : 0 ≤ b) (h : a * a = b * b) : a = b := by
  have h1 := le_of_sq hb (by rw [h]; grind : a * a ≤ b * b)
  have h2 := le_of_sq ha (by rw [h]; grind : b * b ≤ a * a)
  grind
theorem isq_sq (r : Nat) : isq (r * r) = r := isq_unique (Nat.le_refl _) (by grind)
theorem apx_sq {m : Int} (hm : 0 ≤ m) (h : isSq m = true) (k : Nat) : apx m k = rtq m := by
  unfold isSq at h
  have h1 := (isq_spec m.natAbs).1
  have h2 : isq m.natAbs * isq m.natAbs = m.natAbs := by have := eq_of_beq h; omega
  unfold apx rtq
  generalize isq m.natAbs = r at *
  rw [← h2, show r * r * 4 ^ k = (r * 2 ^ k) * (r * 2 ^ k) by rw [show (4 : Nat) ^ k = 2 ^ k * 2 ^ k by rw [← Nat.mul_pow]]; grind, isq_sq, Int.natCast_mul, Rat.intCast_mul]
  have := tk_mul k
  have e : ((((2 ^ k : Nat) : Int)) : Rat) = ((2 ^ k : Int) : Rat) := by push_cast; rfl
  rw [e]
  grind

def Sn.f1 (S : Sn) : Sn := if isSq S.m = true then ⟨S.m, S.n, 0 + S.p + rtq S.m * S.q, 0, 0 + S.r + rtq S.m * S.s, 0⟩ else S
def Sn.f2 (S : Sn) : Sn := if isSq S.n = true then ⟨S.m, S.n, 0 + S.p + rtq S.n * S.r, 0 + S.q + rtq S.n * S.s, 0, 0⟩ else S
def Sn.f3 (S : Sn) : Sn := if isSq (S.m * S.n) = true ∧ isSq S.m = false ∧ isSq S.n = false then ⟨S.m, S.n, 0 + S.p + rtq (S.m * S.n) * S.s, 0 + S.q + rtq (S.m * S.n) / (S.m : Rat) * S.r, 0, 0⟩ else S
/-- The same number over roots of which none is whole. -/
def Sn.fold (S : Sn) : Sn := S.f1.f2.f3
theorem f1_mn (S : Sn) : S.f1.m = S.m ∧ S.f1.n = S.n := by unfold Sn.f1; split <;> exact ⟨rfl, rfl⟩
theorem f2_mn (S : Sn) : S.f2.m = S.m ∧ S.f2.n = S.n := by unfold Sn.f2; split <;> exact ⟨rfl, rfl⟩
theorem f3_mn (S : Sn) : S.f3.m = S.m ∧ S.f3.n = S.n := by unfold Sn.f3; split <;> exact ⟨rfl, rfl⟩
theorem fold_mn (S : Sn) : S.fold.m = S.m ∧ S.fold.n = S.n := by
  unfold Sn.fold
  rw [(f3_mn _).1, (f3_mn _).2, (f2_mn _).1, (f2_mn _).2, (f1_mn _).1, (f1_mn _).2]
  exact ⟨rfl, rfl⟩
theorem sg_same {S T : Sn} (hm : 0 ≤ S.m) (hn : 0 ≤ S.n) (em : T.m = S.m) (en : T.n = S.n) (h : Nul (fun k => T.v k - S.v k)) : T.sg = S.sg :=
  (sig2 T (by omega) (by omega)).unique ((sig2 S hm hn).congr h)
theorem Nul.of_eq {f : Nat → Rat} (h : ∀ k, f k = 0) : Nul f := Nul.zero.congr (fun k => (h k).symm)
theorem f1_sg (S : Sn) (hm : 0 ≤ S.m) (hn : 0 ≤ S.n) : S.f1.sg = S.sg := by
  refine sg_same hm hn (f1_mn S).1 (f1_mn S).2 (Nul.of_eq fun k => ?_)
  unfold Sn.f1
  split
  · rename_i h
    have := apx_sq hm h k
    unfold Sn.v v1
    simp only [this]
    grind
  · grind
theorem f2_sg (S : Sn) (hm : 0 ≤ S.m) (hn : 0 ≤ S.n) : S.f2.sg = S.sg := by
  refine sg_same hm hn (f2_mn S).1 (f2_mn S).2 (Nul.of_eq fun k => ?_)
  unfold Sn.f2
  split
  · rename_i h
    have := apx_sq hn h k
    unfold Sn.v v1
    simp only [this]
    grind
  · grind
/-- What comes near to a root comes near to what else comes near to it. -/
theorem near_root {n : Int} (hn : 0 < n) {g : Nat → Rat} (g0 : ∀ k, 0 ≤ g k) (h : Nul (fun k => g k * g k - n)) : Nul (fun k => g k - apx n k) := by
  have h1 : Nul (fun k => g k * g k - apx n k * apx n k) := (h.add (apx_nul (Int.le_of_lt hn)).neg).congr (fun k => by grind)
  obtain ⟨e, he, K, hK⟩ := apx_pos hn
  have hp : Pos (fun k => g k + apx n k) := ⟨e, he, K, fun k hk => by
    have := hK k hk
    have := g0 k
    grind⟩
  exact Nul.div hp (h1.congr (fun k => by grind))
theorem isSq_zero : isSq 0 = true := by decide
theorem f3_sg (S : Sn) (hm : 0 ≤ S.m) (hn : 0 ≤ S.n) : S.f3.sg = S.sg := by
  unfold Sn.f3
  split
  · rename_i h
    obtain ⟨h1, h2, h3⟩ := h
    have hm0 : S.m ≠ 0 := fun e => by rw [e, isSq_zero] at h2; simp at h2
    have hn0 : S.n ≠ 0 := fun e => by rw [e, isSq_zero] at h3; simp at h3
    have hmp : 0 < S.m := by omega
    have hnp : 0 < S.n := by omega
    have hmn : 0 ≤ S.m * S.n := Int.mul_nonneg hm hn
    obtain ⟨q1, q2⟩ := isSq_eq hmn h1
    have hmq : (0 : Rat) < (S.m : Rat) := by exact_mod_cast hmp
    rw [Rat.intCast_mul] at q1
    -- the one root times the other
    have n1 : Nul (fun k => rtq (S.m * S.n) / (S.m : Rat) * apx S.m k - apx S.n k) := by
      refine near_root hnp (fun k => Rat.mul_nonneg ?_ (apx_spec hm k).1) ?_
      · have hne : (S.m : Rat) ≠ 0 := fun h => by rw [h] at hmq; exact absurd hmq (by decide +kernel)
        have hi : 0 ≤ (S.m : Rat)⁻¹ := nonneg_of_mul hmq (by rw [Rat.mul_comm, Rat.mul_inv_cancel _ hne]; decide +kernel)
        rw [Rat.div_def]
        exact Rat.mul_nonneg q2 hi
      · have e : ∀ k, rtq (S.m * S.n) / (S.m : Rat) * apx S.m k * (rtq (S.m * S.n) / (S.m : Rat) * apx S.m k) - (S.n : Rat) = (apx S.m k * apx S.m k - S.m) * ((S.n : Rat) / S.m) := by
          intro k
          have hne : (S.m : Rat) ≠ 0 := fun h => by rw [h] at hmq; exact absurd hmq (by decide +kernel)
          have hmul : (S.m : Rat) * (S.m : Rat)⁻¹ = 1 := Rat.mul_inv_cancel _ hne
          rw [Rat.div_def, Rat.div_def]
          generalize (S.m : Rat)⁻¹ = i at *
          grind
        exact (((apx_nul hm).mul (Bdd.const _))).congr (fun k => (e k).symm)
    have n2 : Nul (fun k => rtq (S.m * S.n) - apx S.m k * apx S.n k) := by
      have t := n1.mul (apx_bdd hm)
      have t2 := (apx_nul hm).mul (Bdd.const (rtq (S.m * S.n) / (S.m : Rat)))
      have e : ∀ k, rtq (S.m * S.n) - apx S.m k * apx S.n k = (rtq (S.m * S.n) / (S.m : Rat) * apx S.m k - apx S.n k) * apx S.m k + -((apx S.m k * apx S.m k - S.m) * (rtq (S.m * S.n) / (S.m : Rat))) := by
        intro k
        have hne : (S.m : Rat) ≠ 0 := fun h => by rw [h] at hmq; exact absurd hmq (by decide +kernel)
        have hmul : (S.m : Rat) * (S.m : Rat)⁻¹ = 1 := Rat.mul_inv_cancel _ hne
        rw [Rat.div_def]
        generalize (S.m : Rat)⁻¹ = i at *
        grind
      exact (t.add t2.neg).congr (fun k => (e k).symm)
    refine sg_same hm hn rfl rfl ((((n1.mul (Bdd.const S.r)).add (n2.mul (Bdd.const S.s)))).congr (fun k => ?_))
    unfold Sn.v v1
    simp only
    grind
  · rfl
theorem fold_sg (S : Sn) (hm : 0 ≤ S.m) (hn : 0 ≤ S.n) : S.fold.sg = S.sg := by
  obtain ⟨a1, a2⟩ := f1_mn S
  obtain ⟨b1, b2⟩ := f2_mn S.f1
  unfold Sn.fold
  rw [f3_sg _ (by omega) (by omega), f2_sg _ (by omega) (by omega), f1_sg _ hm hn]

/-- Bounds of a root. -/
def rlo (r : Int) (k : Nat) : Rat := Rat.divInt ((isq (r.natAbs * (2 ^ k * 2 ^ k)) : Nat) : Int) ((2 ^ k : Nat) : Int)
def rhi (r : Int) (k : Nat) : Rat := if r.natAbs * (2 ^ k * 2 ^ k) - isq (r.natAbs * (2 ^ k * 2 ^ k)) * isq (r.natAbs * (2 ^ k * 2 ^ k)) = 0 then rlo r k else Rat.divInt (((isq (r.natAbs * (2 ^ k * 2 ^ k)) + 1 : Nat)) : Int) ((2 ^ k : Nat) : Int)
theorem divInt_tk (x : Int) (k : Nat) : Rat.divInt x ((2 ^ k : Nat) : Int) = (x : Rat) * tk k := by
  unfold tk
  rw [← q_divInt1, Rat.divInt_mul_divInt]
  push_cast
  simp
theorem rlo_apx (r : Int) (k : Nat) : rlo r k = apx r k := by
  unfold rlo apx
  rw [divInt_tk, show (4 : Nat) ^ k = 2 ^ k * 2 ^ k by rw [← Nat.mul_pow]]
theorem rhi_le (r : Int) (k : Nat) : apx r k ≤ rhi r k ∧ rhi r k ≤ apx r k + tk k := by
  have ht := tk_pos k
  unfold rhi
  split
  · rw [rlo_apx]
    constructor <;> grind
  · rw [← rlo_apx]
    unfold rlo
    rw [divInt_tk, divInt_tk, nat_succ_rat]
    constructor <;> grind
theorem rhi_sq {r : Int} (hr : 0 ≤ r) (k : Nat) : (r : Rat) ≤ rhi r k * rhi r k := by
  obtain ⟨h1, h2, h3⟩ := apx_spec hr k
  unfold rhi
  split
  · rename_i h
    have e := isq_spec (r.natAbs * (2 ^ k * 2 ^ k))
    have e2 : isq (r.natAbs * (2 ^ k * 2 ^ k)) * isq (r.natAbs * (2 ^ k * 2 ^ k)) = r.natAbs * (2 ^ k * 2 ^ k) := by omega
    unfold rlo
    rw [divInt_tk]
    have e3 : (((isq (r.natAbs * (2 ^ k * 2 ^ k)) : Nat) : Int) : Rat) * (((isq (r.natAbs * (2 ^ k * 2 ^ k)) : Nat) : Int) : Rat) = (r : Rat) * (((2 ^ k : Int) : Rat) * ((2 ^ k : Int) : Rat)) := by
      rw [← natCast_mul', e2, natCast_mul', natCast_mul', show (r.natAbs : Int) = r by omega]
      push_cast
      rfl
    generalize ((isq (r.natAbs * (2 ^ k * 2 ^ k)) : Nat) : Int) = R at *
    have ht := tk_mul k
    generalize ((2 ^ k : Int) : Rat) = w at *
    have : (R : Rat) * tk k * ((R : Rat) * tk k) = (r : Rat) := by
      rw [show (R : Rat) * tk k * ((R : Rat) * tk k) = (R : Rat) * R * (tk k * tk k) by grind, e3, show (r : Rat) * (w * w) * (tk k * tk k) = r * ((tk k * w) * (tk k * w)) by grind, ht]
      grind
    rw [this]
    grind
  · rw [divInt_tk, nat_succ_rat, show ((((isq (r.natAbs * (2 ^ k * 2 ^ k)) : Nat) : Int) : Rat) + 1) * tk k = rlo r k + tk k by unfold rlo; rw [divInt_tk]; grind, rlo_apx]
    grind
/-- They close in. -/
theorem apx_mono (r : Int) {k j : Nat} (h : k ≤ j) : apx r k ≤ apx r j := by
  obtain ⟨d, rfl⟩ : ∃ d, j = k + d := ⟨j - k, by omega⟩
  have h1 := (isq_spec (r.natAbs * 4 ^ k)).1
  have h2 := (isq_spec (r.natAbs * 4 ^ (k + d))).2
  have e1 : r.natAbs * 4 ^ (k + d) = r.natAbs * 4 ^ k * (2 ^ d * 2 ^ d) := by
    rw [Nat.pow_add, show (4 : Nat) ^ d = 2 ^ d * 2 ^ d by rw [← Nat.mul_pow], Nat.mul_assoc]
  rw [e1] at h2
  have hlt : isq (r.natAbs * 4 ^ k) * 2 ^ d < isq (r.natAbs * 4 ^ (k + d)) + 1 := by
    rw [e1]
    generalize isq (r.natAbs * 4 ^ k) = a at *
    generalize isq (r.natAbs * 4 ^ k * (2 ^ d * 2 ^ d)) = b at *
    by_cases hh : a * 2 ^ d < b + 1
    · exact hh
    · have h3 : (b + 1) * (b + 1) ≤ (a * 2 ^ d) * (a * 2 ^ d) := Nat.mul_le_mul (by omega) (by omega)
      have h4 : (a * 2 ^ d) * (a * 2 ^ d) = a * a * (2 ^ d * 2 ^ d) := by grind
      have h5 : a * a * (2 ^ d * 2 ^ d) ≤ r.natAbs * 4 ^ k * (2 ^ d * 2 ^ d) := Nat.mul_le_mul_right _ h1
      omega
  unfold apx
  have q := nat_le_rat (show isq (r.natAbs * 4 ^ k) * 2 ^ d ≤ isq (r.natAbs * 4 ^ (k + d)) by omega)
  rw [natCast_mul'] at q
  have t1 := tk_mul k
  have t2 := tk_mul (k + d)
  have p2 := tk_pos (k + d)
  have e3 : ((2 ^ (k + d) : Int) : Rat) = ((2 ^ k : Int) : Rat) * ((2 ^ d : Int) : Rat) := by rw [← Rat.intCast_mul, Int.pow_add]
  have e4 : ((((2 ^ d : Nat) : Int)) : Rat) = ((2 ^ d : Int) : Rat) := by push_cast; rfl
  rw [e4] at q
  rw [e3] at t2
  have hk := two_pos k
  have hd := two_pos d
  generalize ((2 ^ k : Int) : Rat) = w at *
  generalize ((2 ^ d : Int) : Rat) = u at *
  generalize (((isq (r.natAbs * 4 ^ k) : Nat) : Int) : Rat) = A at *
  generalize (((isq (r.natAbs * 4 ^ (k + d)) : Nat) : Int) : Rat) = B at *
  have e5 : tk k = tk (k + d) * u := by
    have h0 : tk k * w = tk (k + d) * u * w := by grind
    have h9 : 0 ≤ (tk k - tk (k + d) * u) * w := by grind
    have h8 : 0 ≤ (tk (k + d) * u - tk k) * w := by grind
    have := nonneg_of_mul hk h9
    have := nonneg_of_mul hk h8
    grind
  rw [e5]
  have := Rat.mul_nonneg (show 0 ≤ B - A * u by grind) (Rat.le_of_lt p2)
  grind
theorem apx_le_rhi {r : Int} (hr : 0 ≤ r) (k j : Nat) : apx r j ≤ rhi r k := by
  have h1 := rhi_sq hr k
  have h2 := (apx_spec hr j).2.1
  have h3 := (rhi_le r k).1
  have h4 := (apx_spec hr k).1
  exact le_of_sq (by grind) (by grind)

def blo (x : Rat) (r : Int) (k : Nat) : Rat := if x.num.sign < 0 then x * rhi r k else x * rlo r k
def bhi (x : Rat) (r : Int) (k : Nat) : Rat := if x.num.sign < 0 then x * rlo r k else x * rhi r k
theorem bounds_ok (x : Rat) {r : Int} (hr : 0 ≤ r) {k j : Nat} (h : k ≤ j) : blo x r k ≤ x * apx r j ∧ x * apx r j ≤ bhi x r k := by
  have h1 := apx_mono r h
  have h2 := apx_le_rhi hr k j
  unfold blo bhi
  rw [rlo_apx]
  split
  · rename_i hs
    rw [sign_lt0] at hs
    have a := Rat.mul_nonneg (show 0 ≤ -x by grind) (show 0 ≤ rhi r k - apx r j by grind)
    have b := Rat.mul_nonneg (show 0 ≤ -x by grind) (show 0 ≤ apx r j - apx r k by grind)
    constructor <;> grind
  · rename_i hs
    rw [sign_lt0] at hs
    have a := Rat.mul_nonneg (show 0 ≤ x by grind) (show 0 ≤ rhi r k - apx r j by grind)
    have b := Rat.mul_nonneg (show 0 ≤ x by grind) (show 0 ≤ apx r j - apx r k by grind)
    constructor <;> grind
theorem bounds_w (x : Rat) (r : Int) (k : Nat) {A : Rat} (h1 : -A ≤ x) (h2 : x ≤ A) : bhi x r k - blo x r k ≤ A * tk k := by
  obtain ⟨g1, g2⟩ := rhi_le r k
  have ht := tk_pos k
  unfold blo bhi
  rw [rlo_apx]
  split
  · rename_i hs
    rw [sign_lt0] at hs
    have a := Rat.mul_nonneg (show 0 ≤ -x by grind) (show 0 ≤ tk k - (rhi r k - apx r k) by grind)
    have b := Rat.mul_nonneg (show 0 ≤ A + x by grind) (Rat.le_of_lt ht)
    grind
  · rename_i hs
    rw [sign_lt0] at hs
    have a := Rat.mul_nonneg (show 0 ≤ x by grind) (show 0 ≤ tk k - (rhi r k - apx r k) by grind)
    have b := Rat.mul_nonneg (show 0 ≤ A - x by grind) (Rat.le_of_lt ht)
    grind
def Sn.lo (S : Sn) (k : Nat) : Rat := ((0 : Int) : Rat) + blo S.p 1 k + blo S.q S.m k + blo S.r S.n k + blo S.s (S.m * S.n) k
def Sn.hi (S : Sn) (k : Nat) : Rat := ((0 : Int) : Rat) + bhi S.p 1 k + bhi S.q S.m k + bhi S.r S.n k + bhi S.s (S.m * S.n) k
/-- The number, with the root of the product as a root of its own. -/
def Sn.w (S : Sn) (j : Nat) : Rat := S.p * apx 1 j + S.q * apx S.m j + S.r * apx S.n j + S.s * apx (S.m * S.n) j
theorem apx_one (j : Nat) : apx 1 j = 1 := by
  rw [apx_sq (by decide) (by decide)]
  decide +kernel
theorem w_v (S : Sn) (hm : 0 ≤ S.m) (hn : 0 ≤ S.n) : Nul (fun j => S.w j - S.v j) := by
  have h : Nul (fun j => apx S.m j * apx S.n j - apx (S.m * S.n) j) := by
    by_cases h0 : S.m * S.n = 0
    · rw [h0]
      refine Nul.of_eq (fun j => ?_)
      rcases Int.mul_eq_zero.1 h0 with e | e <;> rw [e, apx_zero] <;> grind
    · have hp : 0 < S.m * S.n := by have := Int.mul_nonneg hm hn; omega
      refine near_root hp (fun j => Rat.mul_nonneg (apx_spec hm j).1 (apx_spec hn j).1) ?_
      have t1 := (apx_nul hm).mul ((apx_bdd hn).mul (apx_bdd hn))
      have t2 := (apx_nul hn).mul (Bdd.const (S.m : Rat))
      refine (t1.add t2).congr (fun j => ?_)
      rw [Rat.intCast_mul]
      grind
  refine ((h.mul (Bdd.const (-S.s)))).congr (fun j => ?_)
  unfold Sn.w Sn.v v1
  rw [apx_one]
  grind
theorem lo_w (S : Sn) (hm : 0 ≤ S.m) (hn : 0 ≤ S.n) {k j : Nat} (h : k ≤ j) : S.lo k ≤ S.w j ∧ S.w j ≤ S.hi k := by
  have h1 := bounds_ok S.p (r := 1) (by decide) h
  have h2 := bounds_ok S.q hm h
  have h3 := bounds_ok S.r hn h
  have h4 := bounds_ok S.s (Int.mul_nonneg hm hn) h
  have c0 : ((0 : Int) : Rat) = 0 := rfl
  unfold Sn.lo Sn.hi Sn.w
  rw [c0]
  constructor <;> grind
theorem lo_pos (S : Sn) (hm : 0 ≤ S.m) (hn : 0 ≤ S.n) {k : Nat} (h : 0 < S.lo k) : S.sg = 1 := by
  have hp : Pos S.w := ⟨S.lo k, h, k, fun j hj => (lo_w S hm hn hj).1⟩
  exact (sig2 S hm hn).unique (.inl ⟨rfl, (hp.add_nul (w_v S hm hn).neg).congr (fun j => by grind)⟩)
theorem hi_neg (S : Sn) (hm : 0 ≤ S.m) (hn : 0 ≤ S.n) {k : Nat} (h : S.hi k < 0) : S.sg = -1 := by
  have hp : Pos (fun j => -S.w j) := ⟨-S.hi k, by grind, k, fun j hj => by have := (lo_w S hm hn hj).2; grind⟩
  exact (sig2 S hm hn).unique (.inr (.inr ⟨rfl, (hp.add_nul (w_v S hm hn)).congr (fun j => by grind)⟩))
/-- Neither: it lies near to 0. -/
theorem near_zero (S : Sn) (hm : 0 ≤ S.m) (hn : 0 ≤ S.n) {k : Nat} {A : Rat} (hA : 0 ≤ A) (h1 : ¬ 0 < S.lo k) (h2 : ¬ S.hi k < 0) (hq : -A ≤ S.q ∧ S.q ≤ A) (hr : -A ≤ S.r ∧ S.r ≤ A) (hs : -A ≤ S.s ∧ S.s ≤ A) (hp : -A ≤ S.p ∧ S.p ≤ A)
    {δ : Rat} (hδ : 4 * (A * tk k) < δ) : ∃ K, ∀ j, K ≤ j → -δ < S.v j ∧ S.v j < δ := by
  have b0 := bounds_w S.p 1 k hp.1 hp.2
  have b1 := bounds_w S.q S.m k hq.1 hq.2
  have b2 := bounds_w S.r S.n k hr.1 hr.2
  have b3 := bounds_w S.s (S.m * S.n) k hs.1 hs.2
  have hw : S.hi k - S.lo k ≤ 4 * (A * tk k) := by
    unfold Sn.hi Sn.lo
    grind
  obtain ⟨K, hK⟩ := w_v S hm hn ((δ - 4 * (A * tk k)) * Rat.divInt 1 2) (Rat.mul_pos (by grind) (by decide +kernel))
  have hhalf := half_pos (show 0 < δ - 4 * (A * tk k) by grind)
  refine ⟨max K k, fun j hj => ?_⟩
  have a1 := hK j (by omega)
  have a2 := lo_w S hm hn (show k ≤ j by omega)
  constructor <;> grind
end Go.Proofs.YtabpaiboodllbaaGreat
