/- The reference's turns; turns out of texts. Turns out of texts. Turns one behind the other: plain laws. Turns, by bits: how great they grow; the contracts with that. Places of whichever field, as numbers of root 2's field. The reference's turn of a point; it is the program's. -/
import Derived.Test.YtlpfkbkpnljieaaGreatOo
import Derived.Test.YtlpfkbkpnljieaaGreatRc
import Derived.Test.YtlpfkbkpnljieaaGreatRk
set_option linter.unusedSimpArgs false
set_option linter.unusedVariables false
namespace Go.Proofs.YtlpfkbkpnljieaaGreat
open Go.RowKit Go.IntWalk

/-- The cosine of so many eighths. -/
def c8 (k : Int) : Sn := r2 (pc (k % 8)) (Rat.divInt (pcr (k % 8)) 2)
abbrev rtv (A B C D E F : Tw) : Value := .agg ((tv A).cells ++ (tv B).cells ++ (tv C).cells ++ (tv D).cells ++ (tv E).cells ++ (tv F).cells)
/-- The reference's turn: four numbers, and where 0 0 comes to. -/
structure R6 where
  A : Tw
  B : Tw
  C : Tw
  D : Tw
  E : Tw
  F : Tw
structure Rn where
  A : Sn
  B : Sn
  C : Sn
  D : Sn
  E : Sn
  F : Sn
theorem TF.up2 {x : Tw} {S : Sn} {L L' : Nat} {I : Blk} {w : World} (h : (TF x (L, S)).p I w) (hL : L ≤ L') : (TF x (L', S)).p I w := by
  obtain ⟨g1, g2, g3, g4, g5, g6⟩ := h
  exact ⟨YF.up2 g1 hL, YF.up2 g2 hL, PF.up2 g3 hL, PF.up2 g4 hL, PF.up2 g5 hL, PF.up2 g6 hL⟩
def mkRn (f : Bool) (m : Rat) (o : Int) (x y : Rat) : Rn := ⟨(r2 m 0).mul (c8 o), if f then ((r2 m 0).mul (c8 (o - 2))).neg.neg else ((r2 m 0).mul (c8 (o - 2))).neg, (r2 m 0).mul (c8 (o - 2)), if f then ((r2 m 0).mul (c8 o)).neg else (r2 m 0).mul (c8 o), r2 x 0, r2 y 0⟩
section
variable {fin : VS → List Fact → Prop} {Γ : List Fact} {L M K : Nat}
end
end Go.Proofs.YtlpfkbkpnljieaaGreat

set_option linter.unusedSimpArgs false
set_option linter.unusedVariables false
namespace Go.Proofs.YtlpfkbkpnljieaaGreat
open Go.RowKit Go.IntWalk

/-- May a turn be made of this? -/
def wayOk (o : Int) (m x y : ByteArray) : Bool := decide (m.size ≤ 30) && (decide (x.size ≤ 30) && (decide (y.size ≤ 30) && (decide (0 ≤ o) && (decide (o ≤ 7) && (qerr m == 0 && (qerr x == 0 && (qerr y == 0 && decide (0 < (qval m).num.sign))))))))
def wayOn (f : Bool) (o : Int) (m x y : ByteArray) : On := ⟨f, o, qval m, qval x, 0, qval y, 0⟩
abbrev nilP : Pw := ⟨0, ⟨none, 0, 0⟩, 0, ⟨none, 0, 0⟩⟩
abbrev nilT : Tw := ⟨0, ⟨none, 0, 0⟩, 0, ⟨none, 0, 0⟩, nilP, nilP, nilP, nilP⟩
theorem wayOk_spec {o : Int} {m x y : ByteArray} (h : wayOk o m x y = true) : 0 ≤ o ∧ o ≤ 7 ∧ 0 < (qval m).num.sign := by
  unfold wayOk at h
  simp only [Bool.and_eq_true, decide_eq_true_eq, beq_iff_eq] at h
  exact ⟨h.2.2.2.1, h.2.2.2.2.1, h.2.2.2.2.2.2.2.2⟩
section
variable {fin : VS → List Fact → Prop} {Γ : List Fact} {L M K : Nat}
end
end Go.Proofs.YtlpfkbkpnljieaaGreat

set_option linter.unusedSimpArgs false
set_option linter.unusedVariables false
namespace Go.Proofs.YtlpfkbkpnljieaaGreat
open Go.RowKit Go.IntWalk

theorem ang_f : ∀ n m : _root_.Fin 8,
    2 * pc (((n : Int) + m) % 8) = 2 * pc n * pc m + pcr n * pcr m - 2 * ps n * ps m - psr n * psr m ∧ pcr (((n : Int) + m) % 8) = pc n * pcr m + pcr n * pc m - ps n * psr m - psr n * ps m ∧
    2 * ps (((n : Int) + m) % 8) = 2 * ps n * pc m + psr n * pcr m + 2 * pc n * ps m + pcr n * psr m ∧ psr (((n : Int) + m) % 8) = ps n * pcr m + psr n * pc m + pc n * psr m + pcr n * ps m := by decide +kernel
theorem ang_t : ∀ n m : _root_.Fin 8,
    2 * pc ((-(n : Int) + m) % 8) = 2 * pc n * pc m + pcr n * pcr m + 2 * ps n * ps m + psr n * psr m ∧ pcr ((-(n : Int) + m) % 8) = pc n * pcr m + pcr n * pc m + ps n * psr m + psr n * ps m ∧
    2 * ps ((-(n : Int) + m) % 8) = -2 * ps n * pc m - psr n * pcr m + 2 * pc n * ps m + pcr n * psr m ∧ psr ((-(n : Int) + m) % 8) = -ps n * pcr m - psr n * pc m + pc n * psr m + pcr n * ps m := by decide +kernel

theorem On.mag_ne (V : On) : V.mag ≠ 0 := by
  unfold On.mag
  split
  · decide +kernel
  · rename_i h
    exact fun e => h (by rw [e]; rfl)
theorem On.then_mag (V U : On) : (V.then U).mag = V.mag * U.mag := by
  have h1 := V.mag_ne
  have h2 := U.mag_ne
  have h3 : V.mag * U.mag ≠ 0 := fun e => by rcases Rat.mul_eq_zero.1 e with h | h <;> contradiction
  unfold On.mag
  rw [show (V.then U).g = V.mag * U.mag from rfl]
  rw [if_neg (fun h => h3 (sign_eq0.1 h))]
  rfl

/-- What a turn does to a point, by four numbers. -/
structure P4 where
  x : Rat
  y : Rat
  z : Rat
  w : Rat
def On.ap (V : On) (p : P4) : P4 := ⟨V.u0 p.x p.y p.z p.w, V.u1 p.x p.y p.z p.w, V.v0 p.x p.y p.z p.w, V.v1 p.x p.y p.z p.w⟩
def ang (f : Bool) (M a b c d x y z w u v s t : Rat) : P4 :=
  ⟨(x * M) * a + (y * M) * c - ((if f then -z else z) * M * b + (if f then -w else w) * M * d) + u,
   (y * M) * a + (x * M) * (c * Rat.divInt 1 2) - ((if f then -w else w) * M * b + (if f then -z else z) * M * (d * Rat.divInt 1 2)) + v,
   (x * M) * b + (y * M) * d + ((if f then -z else z) * M * a + (if f then -w else w) * M * c) + s,
   (y * M) * b + (x * M) * (d * Rat.divInt 1 2) + ((if f then -w else w) * M * a + (if f then -z else z) * M * (c * Rat.divInt 1 2)) + t⟩
theorem divInt_half (d : Int) : Rat.divInt d 2 = (d : Rat) * Rat.divInt 1 2 := by
  rw [← q_divInt1, Rat.divInt_mul_divInt]
  simp
theorem On.ap_ang (V : On) (p : P4) : V.ap p = ang V.f V.mag (pc V.o) (ps V.o) (pcr V.o) (psr V.o) p.x p.y p.z p.w V.a V.b V.c V.d := by
  unfold On.ap ang On.u0 On.u1 On.v0 On.v1 tm1 tm2 On.sg
  rw [divInt_half (pcr V.o), divInt_half (psr V.o)]
  simp only [P4.mk.injEq]
  refine ⟨?_, ?_, ?_, ?_⟩ <;> first | trivial | (split <;> grind)
theorem P4.ext' {p q : P4} (h1 : p.x = q.x) (h2 : p.y = q.y) (h3 : p.z = q.z) (h4 : p.w = q.w) : p = q := by
  cases p; cases q; simp_all
theorem ang_ang {f g fg : Bool} (hk : fg = !(f == g)) {M N a b c d a' b' c' d' A B C D x y z w u v s t u' v' s' t' : Rat}
    (e : if g then 2 * A = 2 * a * a' + c * c' + 2 * b * b' + d * d' ∧ C = a * c' + c * a' + b * d' + d * b' ∧ 2 * B = -2 * b * a' - d * c' + 2 * a * b' + c * d' ∧ D = -b * c' - d * a' + a * d' + c * b'
      else 2 * A = 2 * a * a' + c * c' - 2 * b * b' - d * d' ∧ C = a * c' + c * a' - b * d' - d * b' ∧ 2 * B = 2 * b * a' + d * c' + 2 * a * b' + c * d' ∧ D = b * c' + d * a' + a * d' + c * b') :
    ang g N a' b' c' d' (ang f M a b c d x y z w u v s t).x (ang f M a b c d x y z w u v s t).y (ang f M a b c d x y z w u v s t).z (ang f M a b c d x y z w u v s t).w u' v' s' t' =
    ang fg (M * N) A B C D x y z w (ang g N a' b' c' d' u v s t u' v' s' t').x (ang g N a' b' c' d' u v s t u' v' s' t').y (ang g N a' b' c' d' u v s t u' v' s' t').z (ang g N a' b' c' d' u v s t u' v' s' t').w := by
  have hh : Rat.divInt 1 2 + Rat.divInt 1 2 = 1 := by decide +kernel
  unfold ang
  generalize Rat.divInt 1 2 = H at *
  have k : ∀ r : Rat, 2 * r * H = r := fun r => by grind
  cases g <;> simp only [Bool.false_eq_true, if_false, if_true, reduceIte] at e <;> obtain ⟨e1, e2, e3, e4⟩ := e
  · have e1' : A = a * a' + c * c' * H - b * b' - d * d' * H := by
      have := k A
      have := k (a * a')
      have := k (b * b')
      grind
    have e3' : B = b * a' + d * c' * H + a * b' + c * d' * H := by
      have := k B
      have := k (b * a')
      have := k (a * b')
      grind
    clear e1 e3 k hh
    subst e1' e2 e3' e4
    cases f
    · obtain rfl : fg = false := hk
      simp only [Bool.false_eq_true, if_false, if_true, reduceIte, P4.mk.injEq]
      refine ⟨?_, ?_, ?_, ?_⟩ <;> grind
    · obtain rfl : fg = true := hk
      simp only [Bool.false_eq_true, if_false, if_true, reduceIte, P4.mk.injEq]
      refine ⟨?_, ?_, ?_, ?_⟩ <;> grind
  · have e1' : A = a * a' + c * c' * H + b * b' + d * d' * H := by
      have := k A
      have := k (a * a')
      have := k (b * b')
      grind
    have e3' : B = -b * a' - d * c' * H + a * b' + c * d' * H := by
      have := k B
      have := k (b * a')
      have := k (a * b')
      grind
    clear e1 e3 k hh
    subst e1' e2 e3' e4
    cases f
    · obtain rfl : fg = true := hk
      simp only [Bool.false_eq_true, if_false, if_true, reduceIte, P4.mk.injEq]
      refine ⟨?_, ?_, ?_, ?_⟩ <;> grind
    · obtain rfl : fg = false := hk
      simp only [Bool.false_eq_true, if_false, if_true, reduceIte, P4.mk.injEq]
      refine ⟨?_, ?_, ?_, ?_⟩ <;> grind
/-- One behind the other: what the one does to what the other did. -/
theorem On.then_ap (V U : On) (hV : 0 ≤ V.o ∧ V.o ≤ 7) (hU : 0 ≤ U.o ∧ U.o ≤ 7) (p : P4) : (V.then U).ap p = U.ap (V.ap p) := by
  rw [(V.then U).ap_ang, U.ap_ang, V.ap_ang, On.then_mag]
  rw [ang_ang (fg := (V.then U).f) rfl (A := pc (V.then U).o) (B := ps (V.then U).o) (C := pcr (V.then U).o) (D := psr (V.then U).o)]
  · have e : ∀ q : P4, U.ap ⟨V.a, V.b, V.c, V.d⟩ = q → (V.then U).a = q.x ∧ (V.then U).b = q.y ∧ (V.then U).c = q.z ∧ (V.then U).d = q.w := by
      rintro q rfl
      exact ⟨rfl, rfl, rfl, rfl⟩
    obtain ⟨e1, e2, e3, e4⟩ := e _ (U.ap_ang _)
    rw [e1, e2, e3, e4]
  · obtain ⟨n, hn⟩ := fin8 hV
    obtain ⟨m, hm⟩ := fin8 hU
    have cast : ∀ {a b : Int}, a = b → (a : Rat) = (b : Rat) := fun h => by rw [h]
    have c2 : ((2 : Int) : Rat) = 2 := rfl
    have cm2 : ((-2 : Int) : Rat) = -2 := rfl
    cases hf : U.f with
    | false =>
      obtain ⟨g1, g2, g3, g4⟩ := ang_f n m
      simp only [Bool.false_eq_true, if_false, reduceIte]
      rw [show (V.then U).o = ((n : Int) + m) % 8 by unfold On.then; simp only [hf, Bool.false_eq_true, if_false, reduceIte]; rw [hn, hm], hn, hm]
      have g1 := cast g1
      have g2 := cast g2
      have g3 := cast g3
      have g4 := cast g4
      simp only [Rat.intCast_add, Rat.intCast_mul, Rat.intCast_sub, Rat.intCast_neg, c2] at g1 g2 g3 g4
      exact ⟨g1, g2, g3, g4⟩
    | true =>
      obtain ⟨g1, g2, g3, g4⟩ := ang_t n m
      simp only [if_true, reduceIte]
      rw [show (V.then U).o = (-(n : Int) + m) % 8 by unfold On.then; simp only [hf, if_true, reduceIte]; rw [hn, hm], hn, hm]
      have g1 := cast g1
      have g2 := cast g2
      have g3 := cast g3
      have g4 := cast g4
      simp only [Rat.intCast_add, Rat.intCast_mul, Rat.intCast_sub, Rat.intCast_neg, c2, cm2] at g1 g2 g3 g4
      exact ⟨g1, g2, g3, g4⟩
end Go.Proofs.YtlpfkbkpnljieaaGreat

set_option linter.unusedSimpArgs false
set_option linter.unusedVariables false
namespace Go.Proofs.YtlpfkbkpnljieaaGreat
open Go.RowKit Go.IntWalk

def bO (b : Nat) (V : On) : Prop := bq b V.g ∧ bq b V.a ∧ bq b V.b ∧ bq b V.c ∧ bq b V.d
def bP (b : Nat) (p : P4) : Prop := bq b p.x ∧ bq b p.y ∧ bq b p.z ∧ bq b p.w
theorem bq.pos {b : Nat} {q : Rat} (h : bq b q) : 1 ≤ b := by
  have h2 := h.2
  have := q.den_pos
  cases b with
  | zero => simp at h2; omega
  | succ b => omega
theorem bO.mag {b : Nat} {V : On} (h : bO b V) : bq b V.mag := by
  unfold On.mag
  split
  · exact bq.int (z := 1) (Nat.one_lt_two_pow (by have := h.1.pos; omega)) h.1.pos
  · exact h.1
theorem bq.sg {b : Nat} {V : On} {z : Rat} (h : bq b z) : bq b (V.sg z) := by
  unfold On.sg
  split
  · exact h.neg
  · exact h
theorem unit_bits {c : Int} (h : -1 ≤ c ∧ c ≤ 1) : bq 1 (c : Rat) := bq.int (by show c.natAbs < 2; omega) (by omega)
theorem half_bits {c : Int} (h : -1 ≤ c ∧ c ≤ 1) : bq 2 (Rat.divInt c 2) := bq.of (by decide) rfl (by show c.natAbs < 4; omega) (by decide)
theorem bq.tm1 {p : Nat} {x y : Rat} {c d : Int} (hx : bq p x) (hy : bq p y) (hc : -1 ≤ c ∧ c ≤ 1) (hd : -1 ≤ d ∧ d ≤ 1) : bq (2 * p + 3) (tm1 x y c d) :=
  ((hx.mul (unit_bits hc)).add (hy.mul (unit_bits hd))).mono (by omega)
theorem bq.tm2 {p : Nat} {x y : Rat} {c d : Int} (hx : bq p x) (hy : bq p y) (hc : -1 ≤ c ∧ c ≤ 1) (hd : -1 ≤ d ∧ d ≤ 1) : bq (2 * p + 4) (tm2 x y c d) :=
  ((hy.mul (unit_bits hc)).add (hx.mul (half_bits hd))).mono (by omega)
theorem bO.ap {b p : Nat} {V : On} {q : P4} (h : bO b V) (g : bP p q) : bP (4 * p + 5 * b + 10) (V.ap q) := by
  have hm := h.mag
  obtain ⟨h1, h2, h3, h4, h5⟩ := h
  obtain ⟨g1, g2, g3, g4⟩ := g
  have c1 := pc_b V.o
  have c2 := ps_b V.o
  have c3 := pcr_b V.o
  have c4 := psr_b V.o
  have x := g1.mul hm
  have y := g2.mul hm
  have z := (g3.sg (V := V)).mul hm
  have w := (g4.sg (V := V)).mul hm
  refine ⟨?_, ?_, ?_, ?_⟩
  · exact (((bq.tm1 x y c1 c3).add (bq.tm1 z w c2 c4).neg).add h2).mono (by omega)
  · exact (((bq.tm2 x y c1 c3).add (bq.tm2 z w c2 c4).neg).add h3).mono (by omega)
  · exact (((bq.tm1 x y c2 c4).add (bq.tm1 z w c1 c3)).add h4).mono (by omega)
  · exact (((bq.tm2 x y c2 c4).add (bq.tm2 z w c1 c3)).add h5).mono (by omega)
theorem bO.then {b c : Nat} {V U : On} (h : bO b V) (g : bO c U) : bO (4 * b + 5 * c + 10) (V.then U) := by
  have k := g.ap (q := ⟨V.a, V.b, V.c, V.d⟩) ⟨h.2.1, h.2.2.1, h.2.2.2.1, h.2.2.2.2⟩
  exact ⟨(h.mag.mul g.mag).mono (by omega), k.1, k.2.1, k.2.2.1, k.2.2.2⟩
theorem bS.r2 {b : Nat} {x y : Rat} (hx : bq b x) (hy : bq b y) (hb : 2 ≤ b) : bS b (r2 x y) :=
  ⟨Nat.lt_of_lt_of_le (by decide : 2 < 2 ^ 2) (pow_mono2 hb), Nat.two_pow_pos b, hx, hy, bq.zero b (by omega), bq.zero b (by omega)⟩
theorem int_bits {z : Int} (h : -9223372036854775808 ≤ z ∧ z < 9223372036854775808) : bq 64 (z : Rat) := bq.int (by
  have : (2 : Nat) ^ 64 = 18446744073709551616 := by decide
  omega) (by omega)
theorem OF.tight {x : Q5} {L k : Nat} {V : On} {I : Blk} {w : World} (h : (OF x (L, V)).p I w) (hq : bO k V) : (OF x (k / 32 + 1, V)).p I w := by
  obtain ⟨h1, h2, h3, h4, h5⟩ := h
  obtain ⟨g1, g2, g3, g4, g5⟩ := hq
  exact ⟨QF.tight h1 g1, QF.tight h2 g2, QF.tight h3 g3, QF.tight h4 g4, QF.tight h5 g5⟩
def On.X (V : On) (x y : Rat) : Sn := r2 (V.u0 x 0 y 0) (V.u1 x 0 y 0)
def On.Y (V : On) (x y : Rat) : Sn := r2 (V.v0 x 0 y 0) (V.v1 x 0 y 0)

section
variable {fin : VS → List Fact → Prop} {Γ : List Fact} {L M K : Nat}
theorem PCalls.plT {f : FuncId} {args : List Value} {X Y : Sn} {k : Nat} (h : PCalls tb Tryz.prog f args Γ (PlPost L X Y)) (h1 : bS k X) (h2 : bS k Y) : PCalls tb Tryz.prog f args Γ (PlPost (k / 32 + 1) X Y) :=
  h.entH (fun v Δ ⟨x, y, e1, e2⟩ => ⟨_, ⟨x, y, e1, rfl⟩, fun I w hh => by
    subst e2
    exact Holds.cons (SF.tight (hh (SF x (L, X)) (List.Mem.head _)) h1) (holds1 (SF.tight (hh (SF y (L, Y)) (List.Mem.tail _ (List.Mem.head _))) h2))⟩)
theorem bO.X {b : Nat} {V : On} (h : bO b V) {x y : Int} (hx : -9223372036854775808 ≤ x ∧ x < 9223372036854775808) (hy : -9223372036854775808 ≤ y ∧ y < 9223372036854775808) : bS (5 * b + 266) (V.X x y) ∧ bS (5 * b + 266) (V.Y x y) := by
  have k := h.ap (q := ⟨x, 0, y, 0⟩) ⟨int_bits hx, bq.zero 64 (by omega), int_bits hy, bq.zero 64 (by omega)⟩
  exact ⟨bS.r2 (k.1.mono (by omega)) (k.2.1.mono (by omega)) (by omega), bS.r2 (k.2.2.1.mono (by omega)) (k.2.2.2.mono (by omega)) (by omega)⟩
theorem p_oatT (V : On) (x : Q5) (a b : Int) {k : Nat} [Has (OF x) (L, V) Γ] (hk : bO k V) (ho : 0 ≤ V.o ∧ V.o ≤ 7) (ha : -9223372036854775808 ≤ a ∧ a < 9223372036854775808) (hb : -9223372036854775808 ≤ b ∧ b < 9223372036854775808) (hL : L ≤ 10000 := by omega) :
    PCalls tb Tryz.prog 11 [otv V x, .agg #[.int .i64 a, .int .i64 b]] Γ (PlPost ((5 * k + 266) / 32 + 1) (V.X a b) (V.Y a b)) :=
  by
  obtain ⟨k1, k2⟩ := hk.X ha hb
  have h := p_oat (Γ := Γ) V x a b ho ha hb hL
  unfold On.X at k1 ⊢
  unfold On.Y at k2 ⊢
  exact h.plT k1 k2
theorem p_othenK (V U : On) (x y : Q5) {k : Nat} [Has (OF x) (L, V) Γ] [Has (OF y) (M, U) Γ] (hk : bO k (V.then U)) (ho : 0 ≤ V.o ∧ V.o ≤ 7) (hu : 0 ≤ U.o ∧ U.o ≤ 7) (hL : L ≤ 10000 ∧ M ≤ 10000 := by omega) :
    PCalls tb Tryz.prog 8 [otv V x, otv U y] Γ (fun v Δ => ∃ q : Q5, v = otv (V.then U) q ∧ Δ = [OF q (k / 32 + 1, V.then U)]) :=
  (p_othen V U x y ho hu hL).entH (fun v Δ ⟨q, e1, e2⟩ => ⟨_, ⟨q, e1, rfl⟩, fun I w hh => by
    subst e2
    exact holds1 (OF.tight hh.h0' hk)⟩)
theorem wayOk_bits {f : Bool} {o : Int} {m x y : ByteArray} (h : wayOk o m x y = true) : bO 100 (wayOn f o m x y) := by
  have hk : 10 ^ 30 < 2 ^ 100 := by decide +kernel
  unfold wayOk at h
  rw [Bool.and_eq_true, Bool.and_eq_true, Bool.and_eq_true] at h
  have h1 := of_decide_eq_true h.1
  have h2 := of_decide_eq_true h.2.1
  have h3 := of_decide_eq_true h.2.2.1
  have z := bq.zero 100 (by omega)
  unfold bO wayOn
  exact ⟨bq_qval h1 hk, bq_qval h2 hk, z, bq_qval h3 hk, z⟩
end
end Go.Proofs.YtlpfkbkpnljieaaGreat

set_option linter.unusedSimpArgs false
set_option linter.unusedVariables false
namespace Go.Proofs.YtlpfkbkpnljieaaGreat
open Go.RowKit Go.IntWalk

def rt0 (n : Int) : Rat := if n = 2 then 0 else (n : Rat)
def rt1 (n : Int) : Rat := if n = 2 then 1 else 0
def nm0 (a b c d : Rat) : Rat := a * c + (2 : Int) * b * d
def nm1 (a b c d : Rat) : Rat := a * d + b * c
/-- A number whose radicands are 0, 1, 2, by parts of 1 and root 2. -/
def Sn.n0 (S : Sn) : Rat := 0 + nm0 S.p 0 (1 : Int) 0 + nm0 S.q 0 (rt0 S.m) (rt1 S.m) + nm0 S.r 0 (rt0 S.n) (rt1 S.n) + nm0 S.s 0 (nm0 (rt0 S.m) (rt1 S.m) (rt0 S.n) (rt1 S.n)) (nm1 (rt0 S.m) (rt1 S.m) (rt0 S.n) (rt1 S.n))
def Sn.n1 (S : Sn) : Rat := 0 + nm1 S.p 0 (1 : Int) 0 + nm1 S.q 0 (rt0 S.m) (rt1 S.m) + nm1 S.r 0 (rt0 S.n) (rt1 S.n) + nm1 S.s 0 (nm0 (rt0 S.m) (rt1 S.m) (rt0 S.n) (rt1 S.n)) (nm1 (rt0 S.m) (rt1 S.m) (rt0 S.n) (rt1 S.n))
section
variable {fin : VS → List Fact → Prop} {Γ : List Fact} {L M K : Nat}
end
end Go.Proofs.YtlpfkbkpnljieaaGreat

set_option linter.unusedSimpArgs false
set_option linter.unusedVariables false
namespace Go.Proofs.YtlpfkbkpnljieaaGreat
open Go.RowKit Go.IntWalk

def Rn.X (U : Rn) (P Q : Sn) : Sn := ((U.A.mul P).add (U.B.mul Q)).add U.E
def Rn.Y (U : Rn) (P Q : Sn) : Sn := ((U.C.mul P).add (U.D.mul Q)).add U.F
section
variable {fin : VS → List Fact → Prop} {Γ : List Fact} {L M K : Nat}
end
theorem sin8 : ∀ n : _root_.Fin 8, pc (((n : Int) - 2) % 8) = ps n ∧ pcr (((n : Int) - 2) % 8) = psr n ∧ (n : Int) % 8 = n := by decide +kernel
theorem r2_mul (x y z w : Rat) : (r2 x y).mul (r2 z w) = r2 (x * z + 2 * (y * w)) (x * w + y * z) := by
  have c2 : ((2 : Int) : Rat) = 2 := rfl
  have c0 : ((0 : Int) : Rat) = 0 := rfl
  unfold r2 Sn.mul
  simp only [c2, c0]
  refine Sn.ext' rfl rfl ?_ ?_ ?_ ?_ <;> simp only <;> grind
theorem r2_add (x y z w : Rat) : (r2 x y).add (r2 z w) = r2 (x + z) (y + w) := by
  unfold r2 Sn.add
  refine Sn.ext' rfl rfl ?_ ?_ ?_ ?_ <;> simp only <;> grind
theorem r2_neg (x y : Rat) : (r2 x y).neg = r2 (-x) (-y) := by
  unfold r2 Sn.neg
  refine Sn.ext' rfl rfl ?_ ?_ ?_ ?_ <;> simp only <;> grind
/-- The reference's turn does what the program's does. -/
theorem mkRn_at (f : Bool) (o : Int) (m x y : Rat) (ho : 0 ≤ o ∧ o ≤ 7) (hm : 0 < m.num.sign) (p q r s : Rat) :
    (mkRn f m o x y).X (r2 p q) (r2 r s) = r2 ((⟨f, o, m, x, 0, y, 0⟩ : On).u0 p q r s) ((⟨f, o, m, x, 0, y, 0⟩ : On).u1 p q r s) ∧
    (mkRn f m o x y).Y (r2 p q) (r2 r s) = r2 ((⟨f, o, m, x, 0, y, 0⟩ : On).v0 p q r s) ((⟨f, o, m, x, 0, y, 0⟩ : On).v1 p q r s) := by
  have hmag : (⟨f, o, m, x, 0, y, 0⟩ : On).mag = m := by
    show (if m.num.sign = 0 then 1 else m) = m
    rw [if_neg (by omega)]
  have hsg : ∀ z, (⟨f, o, m, x, 0, y, 0⟩ : On).sg z = if f then -z else z := fun z => rfl
  have hc : c8 o = r2 (pc o) (Rat.divInt (pcr o) 2) ∧ c8 (o - 2) = r2 (ps o) (Rat.divInt (psr o) 2) := by
    obtain ⟨n, hn⟩ := fin8 ho
    obtain ⟨g1, g2, g3⟩ := sin8 n
    unfold c8
    rw [hn, g1, g2, g3]
    exact ⟨rfl, rfl⟩
  unfold mkRn Rn.X Rn.Y On.u0 On.u1 On.v0 On.v1 tm1 tm2
  rw [hmag, hc.1, hc.2, divInt_half (pcr o), divInt_half (psr o)]
  have hh : 2 * Rat.divInt 1 2 = 1 := by decide +kernel
  generalize Rat.divInt 1 2 = H at *
  simp only [hsg]
  cases f
  · simp only [Bool.false_eq_true, if_false, reduceIte, r2_mul, r2_add, r2_neg]
    exact ⟨r2_ext (by grind) (by grind), r2_ext (by grind) (by grind)⟩
  · simp only [if_true, reduceIte, r2_mul, r2_add, r2_neg]
    exact ⟨r2_ext (by grind) (by grind), r2_ext (by grind) (by grind)⟩
end Go.Proofs.YtlpfkbkpnljieaaGreat
