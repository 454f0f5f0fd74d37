
/- Turns, by bits: how great they grow; the contracts with that. -/
import Derived.Test.YtabpaiboodllbaaGreatOg
import Derived.Test.YtabpaiboodllbaaGreatBq
set_option linter.unusedSimpArgs false
set_option linter.unusedVariables false
namespace Go.Proofs.YtabpaiboodllbaaGreat
open Go.RowKit Go.IntWalk

def bO (b : Nat) (V : On) : Prop := bq b V.g ∧ bq b V.a ∧ bq b V.b ∧ bq b V.c ∧ bq b V.d
def bP (b : Nat) (p : P4) : Prop := bq b p.x ∧ bq b p.y ∧ bq b p.z ∧ bq b p.w
theorem bq.pos {b : Nat} {q : Rat} (h : bq b q) : 1 ≤ b := by
  have h2 := h.2
  have := q.den_pos
  cases b with
  | zero => simp at h2; omega
  | succ b => omega
theorem bO.mag {b : Nat} {V : On} (h : bO b V) : bq b V.mag := by
  unfold On.mag
  split
  · exact bq.int (z := 1) (Nat.one_lt_two_pow (by have := h.1.pos; omega)) h.1.pos
  · exact h.1
theorem bq.sg {b : Nat} {V : On} {z : Rat} (h : bq b z) : bq b (V.sg z) := by
  unfold On.sg
  split
  · exact h.neg
  · exact h
theorem unit_bits {c : Int} (h : -1 ≤ c ∧ c ≤ 1) : bq 1 (c : Rat) := bq.int (by show c.natAbs < 2; omega) (by omega)
theorem half_bits {c : Int} (h : -1 ≤ c ∧ c ≤ 1) : bq 2 (Rat.divInt c 2) := bq.of (by decide) rfl (by show c.natAbs < 4; omega) (by decide)
theorem bq.tm1 {p : Nat} {x y : Rat} {c d : Int} (hx : bq p x) (hy : bq p y) (hc : -1 ≤ c ∧ c ≤ 1) (hd : -1 ≤ d ∧ d ≤ 1) : bq (2 * p + 3) (tm1 x y c d) :=
  ((hx.mul (unit_bits hc)).add (hy.mul (unit_bits hd))).mono (by omega)
theorem bq.tm2 {p : Nat} {x y : Rat} {c d : Int} (hx : bq p x) (hy : bq p y) (hc : -1 ≤ c ∧ c ≤ 1) (hd : -1 ≤ d ∧ d ≤ 1) : bq (2 * p + 4) (tm2 x y c d) :=
  ((hy.mul (unit_bits hc)).add (hx.mul (half_bits hd))).mono (by omega)
theorem bO.ap {b p : Nat} {V : On} {q : P4} (h : bO b V) (g : bP p q) : bP (4 * p + 5 * b + 10) (V.ap q) := by
  have hm := h.mag
  obtain ⟨h1, h2, h3, h4, h5⟩ := h
  obtain ⟨g1, g2, g3, g4⟩ := g
  have c1 := pc_b V.o
  have c2 := ps_b V.o
  have c3 := pcr_b V.o
  have c4 := psr_b V.o
  have x := g1.mul hm
  have y := g2.mul hm
  have z := (g3.sg (V := V)).mul hm
  have w := (g4.sg (V := V)).mul hm
  refine ⟨?_, ?_, ?_, ?_⟩
  · exact (((bq.tm1 x y c1 c3).add (bq.tm1 z w c2 c4).neg).add h2).mono (by omega)
  · exact (((bq.tm2 x y c1 c3).add (bq.tm2 z w c2 c4).neg).add h3).mono (by omega)
  · exact (((bq.tm1 x y c2 c4).add (bq.tm1 z w c1 c3)).add h4).mono (by omega)
  · exact (((bq.tm2 x y c2 c4).add (bq.tm2 z w c1 c3)).add h5).mono (by omega)
theorem bO.then {b c : Nat} {V U : On} (h : bO b V) (g : bO c U) : bO (4 * b + 5 * c + 10) (V.then U) := by
  have k := g.ap (q := ⟨V.a, V.b, V.c, V.d⟩) ⟨h.2.1, h.2.2.1, h.2.2.2.1, h.2.2.2.2⟩
  exact ⟨(h.mag.mul g.mag).mono (by omega), k.1, k.2.1, k.2.2.1, k.2.2.2⟩
theorem bS.r2 {b : Nat} {x y : Rat} (hx : bq b x) (hy : bq b y) (hb : 2 ≤ b) : bS b (r2 x y) :=
  ⟨Nat.lt_of_lt_of_le (by decide : 2 < 2 ^ 2) (pow_mono2 hb), Nat.two_pow_pos b, hx, hy, bq.zero b (by omega), bq.zero b (by omega)⟩
theorem int_bits {z : Int} (h : -9223372036854775808 ≤ z ∧ z < 9223372036854775808) : bq 64 (z : Rat) := bq.int (by
  have : (2 : Nat) ^ 64 = 18446744073709551616 := by decide
  omega) (by omega)
theorem OF.tight {x : Q5} {L k : Nat} {V : On} {I : Blk} {w : World} (h : (OF x (L, V)).p I w) (hq : bO k V) : (OF x (k / 32 + 1, V)).p I w := by
  obtain ⟨h1, h2, h3, h4, h5⟩ := h
  obtain ⟨g1, g2, g3, g4, g5⟩ := hq
  exact ⟨QF.tight h1 g1, QF.tight h2 g2, QF.tight h3 g3, QF.tight h4 g4, QF.tight h5 g5⟩
def On.X (V : On) (x y : Rat) : Sn := r2 (V.u0 x 0 y 0) (V.u1 x 0 y 0)
def On.Y (V : On) (x y : Rat) : Sn := r2 (V.v0 x 0 y 0) (V.v1 x 0 y 0)

section
variable {fin : VS → List Fact → Prop} {Γ : List Fact} {L M K : Nat}
theorem entTO {x : Q5} {V : On} {k : Nat} [h : Has (OF x) (L, V) Γ] (hq : bO k V) : ∀ (I : Blk) (w : World), DataOK tb I w → Holds Γ I w → Holds [OF x (k / 32 + 1, V)] I w := fun I w _ hh => holds1 (OF.tight (h.p hh) hq)
theorem p_othenT (V U : On) (x y : Q5) {b c : Nat} [Has (OF x) (L, V) Γ] [Has (OF y) (M, U) Γ] (hb : bO b V) (hc : bO c U) (ho : 0 ≤ V.o ∧ V.o ≤ 7) (hu : 0 ≤ U.o ∧ U.o ≤ 7) (hL : L ≤ 10000 ∧ M ≤ 10000 := by omega) :
    PCalls tb Tryz.prog 43 [otv V x, otv U y] Γ (fun v Δ => ∃ q : Q5, v = otv (V.then U) q ∧ Δ = [OF q ((4 * b + 5 * c + 10) / 32 + 1, V.then U)]) :=
  (p_othen V U x y ho hu hL).entH (fun v Δ ⟨q, e1, e2⟩ => ⟨_, ⟨q, e1, rfl⟩, fun I w hh => by
    subst e2
    exact holds1 (OF.tight hh.h0' (hb.then hc))⟩)
theorem PCalls.plT {f : FuncId} {args : List Value} {X Y : Sn} {k : Nat} (h : PCalls tb Tryz.prog f args Γ (PlPost L X Y)) (h1 : bS k X) (h2 : bS k Y) : PCalls tb Tryz.prog f args Γ (PlPost (k / 32 + 1) X Y) :=
  h.entH (fun v Δ ⟨x, y, e1, e2⟩ => ⟨_, ⟨x, y, e1, rfl⟩, fun I w hh => by
    subst e2
    exact Holds.cons (SF.tight (hh (SF x (L, X)) (List.Mem.head _)) h1) (holds1 (SF.tight (hh (SF y (L, Y)) (List.Mem.tail _ (List.Mem.head _))) h2))⟩)
theorem bO.X {b : Nat} {V : On} (h : bO b V) {x y : Int} (hx : -9223372036854775808 ≤ x ∧ x < 9223372036854775808) (hy : -9223372036854775808 ≤ y ∧ y < 9223372036854775808) : bS (5 * b + 266) (V.X x y) ∧ bS (5 * b + 266) (V.Y x y) := by
  have k := h.ap (q := ⟨x, 0, y, 0⟩) ⟨int_bits hx, bq.zero 64 (by omega), int_bits hy, bq.zero 64 (by omega)⟩
  exact ⟨bS.r2 (k.1.mono (by omega)) (k.2.1.mono (by omega)) (by omega), bS.r2 (k.2.2.1.mono (by omega)) (k.2.2.2.mono (by omega)) (by omega)⟩
theorem p_oatT (V : On) (x : Q5) (a b : Int) {k : Nat} [Has (OF x) (L, V) Γ] (hk : bO k V) (ho : 0 ≤ V.o ∧ V.o ≤ 7) (ha : -9223372036854775808 ≤ a ∧ a < 9223372036854775808) (hb : -9223372036854775808 ≤ b ∧ b < 9223372036854775808) (hL : L ≤ 10000 := by omega) :
    PCalls tb Tryz.prog 28 [otv V x, .agg #[.int .i64 a, .int .i64 b]] Γ (PlPost ((5 * k + 266) / 32 + 1) (V.X a b) (V.Y a b)) :=
  by
  obtain ⟨k1, k2⟩ := hk.X ha hb
  have h := p_oat (Γ := Γ) V x a b ho ha hb hL
  unfold On.X at k1 ⊢
  unfold On.Y at k2 ⊢
  exact h.plT k1 k2
theorem p_oatE (V : On) (x : Q5) (a b : Int) {k : Nat} {X Y : Sn} [Has (OF x) (L, V) Γ] (hk : bO k V) (ho : 0 ≤ V.o ∧ V.o ≤ 7) (ha : -9223372036854775808 ≤ a ∧ a < 9223372036854775808) (hb : -9223372036854775808 ≤ b ∧ b < 9223372036854775808) (hX : V.X a b = X) (hY : V.Y a b = Y) (hL : L ≤ 10000 := by omega) :
    PCalls tb Tryz.prog 28 [otv V x, .agg #[.int .i64 a, .int .i64 b]] Γ (PlPost ((5 * k + 266) / 32 + 1) X Y) := by
  subst hX hY
  exact p_oatT V x a b hk ho ha hb hL
theorem p_othenK (V U : On) (x y : Q5) {k : Nat} [Has (OF x) (L, V) Γ] [Has (OF y) (M, U) Γ] (hk : bO k (V.then U)) (ho : 0 ≤ V.o ∧ V.o ≤ 7) (hu : 0 ≤ U.o ∧ U.o ≤ 7) (hL : L ≤ 10000 ∧ M ≤ 10000 := by omega) :
    PCalls tb Tryz.prog 43 [otv V x, otv U y] Γ (fun v Δ => ∃ q : Q5, v = otv (V.then U) q ∧ Δ = [OF q (k / 32 + 1, V.then U)]) :=
  (p_othen V U x y ho hu hL).entH (fun v Δ ⟨q, e1, e2⟩ => ⟨_, ⟨q, e1, rfl⟩, fun I w hh => by
    subst e2
    exact holds1 (OF.tight hh.h0' hk)⟩)
theorem wayOk_bits {f : Bool} {o : Int} {m x y : ByteArray} (h : wayOk o m x y = true) : bO 100 (wayOn f o m x y) := by
  have hk : 10 ^ 30 < 2 ^ 100 := by decide +kernel
  unfold wayOk at h
  rw [Bool.and_eq_true, Bool.and_eq_true, Bool.and_eq_true] at h
  have h1 := of_decide_eq_true h.1
  have h2 := of_decide_eq_true h.2.1
  have h3 := of_decide_eq_true h.2.2.1
  have z := bq.zero 100 (by omega)
  unfold bO wayOn
  exact ⟨bq_qval h1 hk, bq_qval h2 hk, z, bq_qval h3 hk, z⟩
end
theorem beq0 {z : Int} (h : z = 0) : (z == 0) = true := by rw [h]; rfl
theorem Sn.sg_eq {A B : Sn} (h : A = B) : (A.sub B).sg = 0 := Sn.sg_sub (by rw [h]) (by rw [h]) (by rw [h]) (by rw [h])
theorem On.X_ap {V U : On} {x y : Rat} (h : V.ap ⟨x, 0, y, 0⟩ = U.ap ⟨x, 0, y, 0⟩) : V.X x y = U.X x y ∧ V.Y x y = U.Y x y := by
  unfold On.ap at h
  simp only [P4.mk.injEq] at h
  obtain ⟨h1, h2, h3, h4⟩ := h
  unfold On.X On.Y
  exact ⟨by rw [h1, h2], by rw [h3, h4]⟩
/-- What a turn is without its move. -/
theorem On.X_move (V : On) (x y : Rat) : V.X x y = ((⟨V.f, V.o, V.mag, 0, 0, 0, 0⟩ : On).X x y).add (r2 V.a V.b) ∧ V.Y x y = ((⟨V.f, V.o, V.mag, 0, 0, 0, 0⟩ : On).Y x y).add (r2 V.c V.d) := by
  have hm : (⟨V.f, V.o, V.mag, 0, 0, 0, 0⟩ : On).mag = V.mag := by
    have h := V.mag_ne
    show (if V.mag.num.sign = 0 then 1 else V.mag) = V.mag
    rw [if_neg (fun e => h (sign_eq0.1 e))]
  have hs : ∀ z, (⟨V.f, V.o, V.mag, 0, 0, 0, 0⟩ : On).sg z = V.sg z := fun z => rfl
  have h0 : (0 : Rat) + 0 = 0 := by decide +kernel
  unfold On.X On.Y On.u0 On.u1 On.v0 On.v1 r2 Sn.add
  rw [hm]
  simp only [hs, h0]
  generalize tm1 _ _ _ _ = a
  generalize tm1 _ _ _ _ = b
  constructor
  · refine Sn.ext' rfl rfl ?_ ?_ rfl rfl <;> simp only <;> grind
  · refine Sn.ext' rfl rfl ?_ ?_ rfl rfl <;> simp only <;> grind
theorem On.X_id {V : On} (hf : V.f = false) (ho : V.o = 0) (hm : V.mag = 1) (ha : V.a = 0) (hb : V.b = 0) (hc : V.c = 0) (hd : V.d = 0) (x y : Rat) : V.X x y = r2 x 0 ∧ V.Y x y = r2 y 0 := by
  have e1 : pc V.o = 1 := by rw [ho]; decide
  have e2 : ps V.o = 0 := by rw [ho]; decide
  have e3 : pcr V.o = 0 := by rw [ho]; decide
  have e4 : psr V.o = 0 := by rw [ho]; decide
  have hs : ∀ z, V.sg z = z := fun z => by unfold On.sg; rw [hf]; rfl
  have c1 : ((1 : Int) : Rat) = 1 := rfl
  have c0 : ((0 : Int) : Rat) = 0 := rfl
  have c2 : Rat.divInt 0 2 = 0 := by decide +kernel
  unfold On.X On.Y On.u0 On.u1 On.v0 On.v1 tm1 tm2
  rw [e1, e2, e3, e4, hm, ha, hb, hc, hd]
  simp only [hs, c1, c0, c2]
  exact ⟨r2_ext (by grind) (by grind), r2_ext (by grind) (by grind)⟩
/-- Two flips, and so many eighths. -/
def oxf : On := ⟨true, 0, ((1 : Int) : Rat), 0, 0, 0, 0⟩
def allT : Nat → On
  | 0 => oxf.then oxf
  | n + 1 => (allT n).then ox1
theorem bO_dec {b : Nat} {V : On} (h : (decide (V.g.num.natAbs < 2 ^ b) && decide (V.g.den < 2 ^ b) && decide (V.a.num.natAbs < 2 ^ b) && decide (V.a.den < 2 ^ b) && decide (V.b.num.natAbs < 2 ^ b) && decide (V.b.den < 2 ^ b) && decide (V.c.num.natAbs < 2 ^ b) && decide (V.c.den < 2 ^ b) && decide (V.d.num.natAbs < 2 ^ b) && decide (V.d.den < 2 ^ b)) = true) : bO b V := by
  simp only [Bool.and_eq_true, decide_eq_true_eq] at h
  obtain ⟨⟨⟨⟨⟨⟨⟨⟨⟨h1, h2⟩, h3⟩, h4⟩, h5⟩, h6⟩, h7⟩, h8⟩, h9⟩, h10⟩ := h
  exact ⟨⟨h1, h2⟩, ⟨h3, h4⟩, ⟨h5, h6⟩, ⟨h7, h8⟩, ⟨h9, h10⟩⟩
theorem allT_bits : bO 2 (allT 0) ∧ bO 2 (allT 1) ∧ bO 2 (allT 2) ∧ bO 2 (allT 3) ∧ bO 2 (allT 4) ∧ bO 2 (allT 5) ∧ bO 2 (allT 6) ∧ bO 2 (allT 7) ∧ bO 2 (allT 8) :=
  ⟨bO_dec (by decide +kernel), bO_dec (by decide +kernel), bO_dec (by decide +kernel), bO_dec (by decide +kernel), bO_dec (by decide +kernel), bO_dec (by decide +kernel), bO_dec (by decide +kernel), bO_dec (by decide +kernel), bO_dec (by decide +kernel)⟩
theorem allT_o (n : Nat) : 0 ≤ (allT n).o ∧ (allT n).o ≤ 7 := by
  cases n with
  | zero => exact On.then_o _ _
  | succ n => exact On.then_o _ _
theorem allT_id (x y : Rat) : (allT 8).X x y = r2 x 0 ∧ (allT 8).Y x y = r2 y 0 :=
  On.X_id (by decide +kernel) (by decide +kernel) (by decide +kernel) (by decide +kernel) (by decide +kernel) (by decide +kernel) (by decide +kernel) x y
theorem On.mag_pos {V : On} (h : 0 < V.g.num.sign) : 0 < V.mag := by
  unfold On.mag
  rw [if_neg (by omega)]
  have h1 : ¬ V.g.num.sign < 0 := by omega
  have h2 : ¬ V.g.num.sign = 0 := by omega
  rw [sign_lt0] at h1
  rw [sign_eq0] at h2
  grind
theorem sign_pos_of {q : Rat} (h : 0 < q) : 0 < q.num.sign := by
  have h1 : ¬ q.num.sign < 0 := fun e => by rw [sign_lt0] at e; grind
  have h2 : ¬ q.num.sign = 0 := fun e => by rw [sign_eq0] at e; grind
  omega
theorem On.then_pos {V U : On} (h1 : 0 < V.g.num.sign) (h2 : 0 < U.g.num.sign) : 0 < (V.then U).mag.num.sign := by
  rw [On.then_mag]
  exact sign_pos_of (Rat.mul_pos (On.mag_pos h1) (On.mag_pos h2))
end Go.Proofs.YtabpaiboodllbaaGreat
