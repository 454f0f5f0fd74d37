/- Turns one behind the other: the reference's do what the program's do; how great a turn made of many is (by one denominator for all of its parts). -/
import Derived.Test.YtlpfkbkpnljieaaGreatTj
set_option linter.unusedSimpArgs false
set_option linter.unusedVariables false
namespace Go.Proofs.YtlpfkbkpnljieaaGreat
open Go.RowKit Go.IntWalk

def is2 (S : Sn) : Prop := ∃ a b, S = r2 a b
theorem is2.mul {S T : Sn} (h : is2 S) (g : is2 T) : is2 (S.mul T) := by
  obtain ⟨a, b, rfl⟩ := h
  obtain ⟨c, d, rfl⟩ := g
  exact ⟨_, _, r2_mul a b c d⟩
theorem is2.add {S T : Sn} (h : is2 S) (g : is2 T) : is2 (S.add T) := by
  obtain ⟨a, b, rfl⟩ := h
  obtain ⟨c, d, rfl⟩ := g
  exact ⟨_, _, r2_add a b c d⟩
theorem is2.neg {S : Sn} (h : is2 S) : is2 S.neg := by
  obtain ⟨a, b, rfl⟩ := h
  exact ⟨_, _, r2_neg a b⟩
def Rn.is2 (U : Rn) : Prop := Go.Proofs.YtlpfkbkpnljieaaGreat.is2 U.A ∧ Go.Proofs.YtlpfkbkpnljieaaGreat.is2 U.B ∧ Go.Proofs.YtlpfkbkpnljieaaGreat.is2 U.C ∧ Go.Proofs.YtlpfkbkpnljieaaGreat.is2 U.D ∧ Go.Proofs.YtlpfkbkpnljieaaGreat.is2 U.E ∧ Go.Proofs.YtlpfkbkpnljieaaGreat.is2 U.F
/-- The reference's turn does what the program's does. -/
def Acts (U : Rn) (V : On) : Prop := U.is2 ∧ ∀ p q r s : Rat, U.X (r2 p q) (r2 r s) = r2 (V.u0 p q r s) (V.u1 p q r s) ∧ U.Y (r2 p q) (r2 r s) = r2 (V.v0 p q r s) (V.v1 p q r s)
theorem mkRn_is2 (f : Bool) (m : Rat) (o : Int) (x y : Rat) : (mkRn f m o x y).is2 := by
  have h1 : is2 ((r2 m 0).mul (c8 o)) := is2.mul ⟨_, _, rfl⟩ ⟨_, _, rfl⟩
  have h2 : is2 ((r2 m 0).mul (c8 (o - 2))) := is2.mul ⟨_, _, rfl⟩ ⟨_, _, rfl⟩
  unfold mkRn Rn.is2
  cases f
  · exact ⟨h1, h2.neg, h2, h1, ⟨_, _, rfl⟩, ⟨_, _, rfl⟩⟩
  · exact ⟨h1, h2.neg.neg, h2, h1.neg, ⟨_, _, rfl⟩, ⟨_, _, rfl⟩⟩
theorem Acts.make (f : Bool) (o : Int) (m x y : Rat) (ho : 0 ≤ o ∧ o ≤ 7) (hm : 0 < m.num.sign) : Acts (mkRn f m o x y) ⟨f, o, m, x, 0, y, 0⟩ := ⟨mkRn_is2 f m o x y, fun p q r s => mkRn_at f o m x y ho hm p q r s⟩
/-- The turn that leaves all where it is. -/
def on0 : On := ⟨false, 0, 0, 0, 0, 0, 0⟩
theorem Acts.zero : Acts (mkRn false ((1 : Int) : Rat) 0 ((0 : Int) : Rat) ((0 : Int) : Rat)) on0 := ⟨mkRn_is2 _ _ _ _ _, fun p q r s => by
  have h := mkRn_at false 0 ((1 : Int) : Rat) ((0 : Int) : Rat) ((0 : Int) : Rat) (by decide) (by decide +kernel) p q r s
  have e : (⟨false, 0, ((1 : Int) : Rat), ((0 : Int) : Rat), 0, ((0 : Int) : Rat), 0⟩ : On).mag = on0.mag := by decide +kernel
  have e0 : ((0 : Int) : Rat) = 0 := rfl
  unfold On.u0 On.u1 On.v0 On.v1 at h ⊢
  rw [e] at h
  simp only [e0] at h
  exact h⟩
theorem lin_X (a0 a1 b0 b1 c0 c1 d0 d1 e0 e1 f0 f1 A0 A1 B0 B1 E0 E1 p q r s : Rat) :
    Sn.add (Sn.add (Sn.mul ((((r2 A0 A1).mul (r2 a0 a1)).add ((r2 B0 B1).mul (r2 c0 c1))).add (r2 ((0 : Int) : Rat) 0)) (r2 p q)) (Sn.mul ((((r2 A0 A1).mul (r2 b0 b1)).add ((r2 B0 B1).mul (r2 d0 d1))).add (r2 ((0 : Int) : Rat) 0)) (r2 r s))) ((((r2 A0 A1).mul (r2 e0 e1)).add ((r2 B0 B1).mul (r2 f0 f1))).add (r2 E0 E1)) =
    (((r2 A0 A1).mul (((((r2 a0 a1).mul (r2 p q)).add ((r2 b0 b1).mul (r2 r s))).add (r2 e0 e1)))).add ((r2 B0 B1).mul ((((r2 c0 c1).mul (r2 p q)).add ((r2 d0 d1).mul (r2 r s))).add (r2 f0 f1)))).add (r2 E0 E1) := by
  have e : ((0 : Int) : Rat) = 0 := rfl
  rw [e]
  simp only [r2_mul, r2_add]
  exact r2_ext (by grind) (by grind)
theorem Acts.then {U W : Rn} {V Z : On} (h : Acts U V) (g : Acts W Z) (hV : 0 ≤ V.o ∧ V.o ≤ 7) (hZ : 0 ≤ Z.o ∧ Z.o ≤ 7) : Acts (U.then W) (V.then Z) := by
  obtain ⟨hu, hx⟩ := h
  obtain ⟨gu, gx⟩ := g
  have key : ∀ p q r s : Rat, (U.then W).X (r2 p q) (r2 r s) = W.X (U.X (r2 p q) (r2 r s)) (U.Y (r2 p q) (r2 r s)) ∧ (U.then W).Y (r2 p q) (r2 r s) = W.Y (U.X (r2 p q) (r2 r s)) (U.Y (r2 p q) (r2 r s)) := by
    obtain ⟨A, B, C, D, E, F⟩ := U
    obtain ⟨⟨a0, a1, ha⟩, ⟨b0, b1, hb⟩, ⟨c0, c1, hc⟩, ⟨d0, d1, hd⟩, ⟨e0, e1, he⟩, ⟨f0, f1, hf⟩⟩ := hu
    simp only at ha hb hc hd he hf
    subst ha hb hc hd he hf
    obtain ⟨A, B, C, D, E, F⟩ := W
    obtain ⟨⟨A0, A1, ha⟩, ⟨B0, B1, hb⟩, ⟨C0, C1, hc⟩, ⟨D0, D1, hd⟩, ⟨E0, E1, he⟩, ⟨F0, F1, hf⟩⟩ := gu
    simp only at ha hb hc hd he hf
    subst ha hb hc hd he hf
    intro p q r s
    exact ⟨lin_X a0 a1 b0 b1 c0 c1 d0 d1 e0 e1 f0 f1 A0 A1 B0 B1 E0 E1 p q r s, lin_X a0 a1 b0 b1 c0 c1 d0 d1 e0 e1 f0 f1 C0 C1 D0 D1 F0 F1 p q r s⟩
  refine ⟨?_, fun p q r s => ?_⟩
  · obtain ⟨h1, h2, h3, h4, h5, h6⟩ := hu
    obtain ⟨g1, g2, g3, g4, g5, g6⟩ := gu
    have z : is2 (r2 ((0 : Int) : Rat) 0) := ⟨_, _, rfl⟩
    exact ⟨((g1.mul h1).add (g2.mul h3)).add z, ((g1.mul h2).add (g2.mul h4)).add z, ((g3.mul h1).add (g4.mul h3)).add z, ((g3.mul h2).add (g4.mul h4)).add z, ((g1.mul h5).add (g2.mul h6)).add g5, ((g3.mul h5).add (g4.mul h6)).add g6⟩
  · obtain ⟨k1, k2⟩ := key p q r s
    have e := On.then_ap V Z hV hZ ⟨p, q, r, s⟩
    unfold On.ap at e
    simp only [P4.mk.injEq] at e
    obtain ⟨e1, e2, e3, e4⟩ := e
    rw [k1, k2, (hx p q r s).1, (hx p q r s).2, (gx _ _ _ _).1, (gx _ _ _ _).2, e1, e2, e3, e4]
    exact ⟨rfl, rfl⟩
theorem Acts.move {U : Rn} {V : On} (h : Acts U V) : U.E = r2 V.a V.b ∧ U.F = r2 V.c V.d := by
  obtain ⟨⟨⟨a0, a1, ha⟩, ⟨b0, b1, hb⟩, ⟨c0, c1, hc⟩, ⟨d0, d1, hd⟩, ⟨e0, e1, he⟩, ⟨f0, f1, hf⟩⟩, hx⟩ := h
  obtain ⟨h1, h2⟩ := hx 0 0 0 0
  unfold Rn.X at h1
  unfold Rn.Y at h2
  rw [ha, hb, he] at h1
  rw [hc, hd, hf] at h2
  rw [he, hf]
  simp only [r2_mul, r2_add] at h1 h2
  have s0 : V.sg 0 = 0 := by unfold On.sg; split <;> grind
  have u : V.u0 0 0 0 0 = V.a ∧ V.u1 0 0 0 0 = V.b ∧ V.v0 0 0 0 0 = V.c ∧ V.v1 0 0 0 0 = V.d := by
    unfold On.u0 On.u1 On.v0 On.v1 tm1 tm2
    rw [s0]
    refine ⟨?_, ?_, ?_, ?_⟩ <;> grind
  rw [u.1, u.2.1] at h1
  rw [u.2.2.1, u.2.2.2] at h2
  unfold r2 at h1 h2 ⊢
  simp only [Sn.mk.injEq] at h1 h2 ⊢
  refine ⟨⟨trivial, trivial, ?_, ?_, trivial, trivial⟩, ⟨trivial, trivial, ?_, ?_, trivial, trivial⟩⟩ <;> grind

/-- A quotient over N, its numerator at most K. -/
def cq (N K : Nat) (q : Rat) : Prop := ∃ z : Int, q * (N : Rat) = (z : Rat) ∧ z.natAbs ≤ K
section
variable {N M K J : Nat} {p q : Rat}
theorem cq.mono (h : cq N K q) (hk : K ≤ J) : cq N J q := by
  obtain ⟨z, h1, h2⟩ := h
  exact ⟨z, h1, Nat.le_trans h2 hk⟩
theorem cq.add (h : cq N K p) (g : cq N J q) : cq N (K + J) (p + q) := by
  obtain ⟨z, h1, h2⟩ := h
  obtain ⟨y, g1, g2⟩ := g
  exact ⟨z + y, by rw [Rat.intCast_add]; grind, Nat.le_trans (Int.natAbs_add_le z y) (by omega)⟩
theorem cq.neg (h : cq N K p) : cq N K (-p) := by
  obtain ⟨z, h1, h2⟩ := h
  exact ⟨-z, by rw [Rat.intCast_neg]; grind, by rw [Int.natAbs_neg]; exact h2⟩
theorem cq.mul (h : cq N K p) (g : cq M J q) : cq (N * M) (K * J) (p * q) := by
  obtain ⟨z, h1, h2⟩ := h
  obtain ⟨y, g1, g2⟩ := g
  exact ⟨z * y, by rw [Rat.intCast_mul, Rat.natCast_mul]; grind, by rw [Int.natAbs_mul]; exact Nat.mul_le_mul h2 g2⟩
theorem cq.scale (h : cq N K p) (M : Nat) : cq (M * N) (M * K) p := by
  obtain ⟨z, h1, h2⟩ := h
  refine ⟨M * z, by rw [Rat.intCast_mul, Rat.natCast_mul, ← h1]; have : ((M : Int) : Rat) = (M : Rat) := rfl; grind, ?_⟩
  rw [Int.natAbs_mul]
  exact Nat.mul_le_mul (Nat.le_refl _) h2
theorem cq.unit (h : cq N K p) {c : Int} (hc : -1 ≤ c ∧ c ≤ 1) : cq N K (p * (c : Rat)) := by
  obtain ⟨z, h1, h2⟩ := h
  refine ⟨z * c, by rw [Rat.intCast_mul, ← h1]; grind, ?_⟩
  rw [Int.natAbs_mul]
  have : c.natAbs ≤ 1 := by omega
  exact Nat.le_trans (Nat.mul_le_mul h2 this) (by omega)
theorem cq.half (h : cq N K p) {c : Int} (hc : -1 ≤ c ∧ c ≤ 1) : cq (2 * N) K (p * Rat.divInt c 2) := by
  obtain ⟨z, h1, h2⟩ := (cq.unit h hc)
  refine ⟨z, ?_, h2⟩
  have hh : Rat.divInt 1 2 + Rat.divInt 1 2 = 1 := by decide +kernel
  have e2 : ((2 : Nat) : Rat) = 2 := rfl
  rw [divInt_half, Rat.natCast_mul, e2, ← h1]
  generalize Rat.divInt 1 2 = H at *
  grind
theorem cq.tm1 (hp : cq N K p) (hq : cq N K q) {c d : Int} (hc : -1 ≤ c ∧ c ≤ 1) (hd : -1 ≤ d ∧ d ≤ 1) : cq (2 * N) (4 * K) (tm1 p q c d) :=
  (((hp.unit hc).add (hq.unit hd)).scale 2).mono (by omega)
theorem cq.tm2 (hp : cq N K p) (hq : cq N K q) {c d : Int} (hc : -1 ≤ c ∧ c ≤ 1) (hd : -1 ≤ d ∧ d ≤ 1) : cq (2 * N) (4 * K) (tm2 p q c d) :=
  (((hq.unit hc).scale 2).add (hp.half hd)).mono (by omega)
theorem cq.bq {e : Nat} (h : cq N K q) (hN : 0 < N) (h1 : N ≤ 2 ^ e) (h2 : K ≤ 2 ^ e) : bq (e + 1) q := by
  obtain ⟨z, g1, g2⟩ := h
  have hp : 0 < 2 ^ e := Nat.two_pow_pos e
  have hs : 2 ^ (e + 1) = 2 ^ e * 2 := Nat.pow_succ 2 e
  refine bq.of (n := z) (d := (N : Int)) (by omega) ?_ (by omega) (by omega)
  have hne : (N : Rat) ≠ 0 := fun e0 => by
    have : N = 0 := Rat.natCast_inj.1 e0
    omega
  rw [Rat.divInt_eq_div, ← g1, show (((N : Nat) : Int) : Rat) = (N : Rat) from rfl, Rat.div_def, Rat.mul_assoc, Rat.mul_inv_cancel _ hne, Rat.mul_one]
theorem cq.of_bq {b : Nat} (h : Go.Proofs.YtlpfkbkpnljieaaGreat.bq b q) : cq q.den (2 ^ b) q := ⟨q.num, by
  have hp := q.den_pos
  have hne : ((q.den : Nat) : Rat) ≠ 0 := fun e0 => by
    have : q.den = 0 := Rat.natCast_inj.1 e0
    omega
  have e : q = (q.num : Rat) / (((q.den : Nat) : Int) : Rat) := by
    rw [← Rat.divInt_eq_div]
    exact (Rat.num_divInt_den q).symm
  have e2 : (((q.den : Nat) : Int) : Rat) = ((q.den : Nat) : Rat) := rfl
  rw [e2] at e
  generalize hd : ((q.den : Nat) : Rat) = d at *
  generalize (q.num : Rat) = m at *
  rw [e, Rat.div_def, Rat.mul_assoc, Rat.inv_mul_cancel _ hne, Rat.mul_one], Nat.le_of_lt h.1⟩
end
/-- All parts of a turn over one denominator. -/
def cO (N K : Nat) (V : On) : Prop := cq N K V.g ∧ cq N K V.a ∧ cq N K V.b ∧ cq N K V.c ∧ cq N K V.d
theorem cO.mag {N K : Nat} {V : On} (h : cO N K V) (hK : N ≤ K) : cq N K V.mag := by
  unfold On.mag
  split
  · exact ⟨N, by have : ((N : Int) : Rat) = (N : Rat) := rfl; grind, by omega⟩
  · exact h.1
theorem cq.sg {N K : Nat} {V : On} {z : Rat} (h : cq N K z) : cq N K (V.sg z) := by
  unfold On.sg
  split
  · exact h.neg
  · exact h
theorem cO.then {N K M J : Nat} {V U : On} (h : cO N K V) (g : cO M J U) (hK : N ≤ K) (hJ : M ≤ J) : cO (2 * (N * M)) (10 * (K * J)) (V.then U) := by
  have hm := g.mag hJ
  have hn := h.mag hK
  obtain ⟨_, h2, h3, h4, h5⟩ := h
  obtain ⟨_, g2, g3, g4, g5⟩ := g
  have c1 := pc_b U.o
  have c2 := ps_b U.o
  have c3 := pcr_b U.o
  have c4 := psr_b U.o
  have x := h2.mul hm
  have y := h3.mul hm
  have z := (h4.sg (V := U)).mul hm
  have w := (h5.sg (V := U)).mul hm
  have lift : ∀ {q : Rat}, cq M J q → cq (2 * (N * M)) (2 * (K * J)) q := fun hq => by
    have e := (hq.scale N).scale 2
    exact e.mono (Nat.mul_le_mul (Nat.le_refl _) (Nat.mul_le_mul hK (Nat.le_refl _)))
  have l2 := lift g2
  have l3 := lift g3
  have l4 := lift g4
  have l5 := lift g5
  generalize hP : K * J = P at *
  refine ⟨?_, ?_, ?_, ?_, ?_⟩
  · have e := (hn.mul hm).scale 2
    rw [hP] at e
    exact e.mono (by omega)
  · exact (((cq.tm1 x y c1 c3).add (cq.tm1 z w c2 c4).neg).add l2).mono (by omega)
  · exact (((cq.tm2 x y c1 c3).add (cq.tm2 z w c2 c4).neg).add l3).mono (by omega)
  · exact (((cq.tm1 x y c2 c4).add (cq.tm1 z w c1 c3)).add l4).mono (by omega)
  · exact (((cq.tm2 x y c2 c4).add (cq.tm2 z w c1 c3)).add l5).mono (by omega)
def wide (e : Nat) (V : On) : Prop := ∃ N K : Nat, 0 < N ∧ N ≤ K ∧ K ≤ 2 ^ e ∧ cO N K V
theorem wide.bO {e : Nat} {V : On} (h : wide e V) : bO (e + 1) V := by
  obtain ⟨N, K, h0, h1, h2, g1, g2, g3, g4, g5⟩ := h
  have hN := Nat.le_trans h1 h2
  exact ⟨g1.bq h0 hN h2, g2.bq h0 hN h2, g3.bq h0 hN h2, g4.bq h0 hN h2, g5.bq h0 hN h2⟩
theorem wide.then {e k : Nat} {V U : On} (h : wide e V) (g : wide k U) : wide (e + k + 4) (V.then U) := by
  obtain ⟨N, K, h0, h1, h2, h3⟩ := h
  obtain ⟨M, J, g0, g1, g2, g3⟩ := g
  have a := Nat.mul_le_mul h1 g1
  have b := Nat.mul_le_mul h2 g2
  rw [← Nat.pow_add] at b
  have c : 2 ^ (e + k + 4) = 2 ^ (e + k) * 16 := Nat.pow_add 2 (e + k) 4
  exact ⟨2 * (N * M), 10 * (K * J), Nat.mul_pos (by decide) (Nat.mul_pos h0 g0), by omega, by omega, h3.then g3 h1 g1⟩
theorem wide0 : wide 0 on0 := by
  have z : cq 1 1 0 := ⟨0, by decide +kernel, by decide⟩
  exact ⟨1, 1, by decide, by decide, by decide, z, z, z, z, z⟩
theorem wide_wayB {b : Nat} {f : Bool} {o : Int} {m x y : ByteArray} (h : bO b (wayOn f o m x y)) : wide (3 * b) (wayOn f o m x y) := by
  obtain ⟨h1, h2, _, h4, _⟩ := h
  simp only [wayOn] at h1 h2 h4
  have p1 := (qval m).den_pos
  have p2 := (qval x).den_pos
  have p3 := (qval y).den_pos
  have b1 := h1.2
  have b2 := h2.2
  have b4 := h4.2
  have c1 := cq.of_bq h1
  have c2 := cq.of_bq h2
  have c4 := cq.of_bq h4
  have e3 : 2 ^ (3 * b) = 2 ^ b * (2 ^ b * 2 ^ b) := by rw [← Nat.pow_add, ← Nat.pow_add]; congr 1; omega
  have k1 := Nat.le_of_lt b1
  have k2 := Nat.le_of_lt b2
  have k4 := Nat.le_of_lt b4
  refine ⟨(qval m).den * ((qval x).den * (qval y).den), 2 ^ (3 * b), Nat.mul_pos p1 (Nat.mul_pos p2 p3), ?_, Nat.le_refl _, ?_⟩
  · rw [e3]
    exact Nat.mul_le_mul k1 (Nat.mul_le_mul k2 k4)
  · have z : cq ((qval m).den * ((qval x).den * (qval y).den)) (2 ^ (3 * b)) 0 := ⟨0, by grind, Nat.zero_le _⟩
    refine ⟨?_, ?_, z, ?_, z⟩
    · have e := c1.scale ((qval x).den * (qval y).den)
      rw [Nat.mul_comm] at e
      refine e.mono ?_
      rw [e3, Nat.mul_comm]
      exact Nat.mul_le_mul (Nat.le_refl _) (Nat.mul_le_mul k2 k4)
    · have e := c2.scale ((qval m).den * (qval y).den)
      rw [show (qval m).den * (qval y).den * (qval x).den = (qval m).den * ((qval x).den * (qval y).den) by rw [Nat.mul_assoc, Nat.mul_comm (qval y).den]] at e
      refine e.mono ?_
      rw [e3, Nat.mul_assoc]
      exact Nat.mul_le_mul k1 (Nat.mul_le_mul k4 (Nat.le_refl _))
    · have e := c4.scale ((qval m).den * (qval x).den)
      rw [Nat.mul_assoc] at e
      refine e.mono ?_
      rw [e3, Nat.mul_assoc]
      exact Nat.mul_le_mul k1 (Nat.mul_le_mul k2 (Nat.le_refl _))
theorem wide_way {f : Bool} {o : Int} {m x y : ByteArray} (h : wayOk o m x y = true) : wide (3 * 100) (wayOn f o m x y) := wide_wayB (wayOk_bits h)
/-- How many bits the reference's parts may have after so many turns. -/
def fB : Nat → Nat
  | 0 => 10
  | k + 1 => 8 * fB k + 1004
theorem fB_le {k : Nat} (h : k ≤ 12) : fB k ≤ 10543531144780 := by
  have : ∀ j : _root_.Fin 13, fB j ≤ 10543531144780 := by decide
  exact this ⟨k, by omega⟩
end Go.Proofs.YtlpfkbkpnljieaaGreat
