
/- The reference's turns; turns out of texts. Turns out of texts. Turns one behind the other: plain laws. Turns, by bits: how great they grow; the contracts with that. Places of whichever field, as numbers of root 2's field. The reference's turn of a point; it is the program's. -/
import Derived.Test.YtaafmafdnnjmdaaOo
import Derived.Test.YtaafmafdnnjmdaaRc
import Derived.Test.YtaafmafdnnjmdaaRk
set_option linter.unusedSimpArgs false
set_option linter.unusedVariables false
namespace Go.Proofs.Ytaafmafdnnjmdaa
open Go.RowKit Go.IntWalk

/-- The cosine of so many eighths. -/
def c8 (k : Int) : Sn := r2 (pc (k % 8)) (Rat.divInt (pcr (k % 8)) 2)
abbrev rtv (A B C D E F : Tw) : Value := .agg ((tv A).cells ++ (tv B).cells ++ (tv C).cells ++ (tv D).cells ++ (tv E).cells ++ (tv F).cells)
/-- The reference's turn: four numbers, and where 0 0 comes to. -/
structure R6 where
  A : Tw
  B : Tw
  C : Tw
  D : Tw
  E : Tw
  F : Tw
structure Rn where
  A : Sn
  B : Sn
  C : Sn
  D : Sn
  E : Sn
  F : Sn
def RT (x : R6) (a : Nat × Rn) : Fact where
  p I w := (TF x.A (a.1, a.2.A)).p I w ∧ (TF x.B (a.1, a.2.B)).p I w ∧ (TF x.C (a.1, a.2.C)).p I w ∧ (TF x.D (a.1, a.2.D)).p I w ∧ (TF x.E (a.1, a.2.E)).p I w ∧ (TF x.F (a.1, a.2.F)).p I w
  up := by
    rintro I I' w w' ⟨g1, g2, g3, g4, g5, g6⟩ h1 h2 h3
    exact ⟨(TF x.A _).up g1 h1 h2 h3, (TF x.B _).up g2 h1 h2 h3, (TF x.C _).up g3 h1 h2 h3, (TF x.D _).up g4 h1 h2 h3, (TF x.E _).up g5 h1 h2 h3, (TF x.F _).up g6 h1 h2 h3⟩
theorem TF.up2 {x : Tw} {S : Sn} {L L' : Nat} {I : Blk} {w : World} (h : (TF x (L, S)).p I w) (hL : L ≤ L') : (TF x (L', S)).p I w := by
  obtain ⟨g1, g2, g3, g4, g5, g6⟩ := h
  exact ⟨YF.up2 g1 hL, YF.up2 g2 hL, PF.up2 g3 hL, PF.up2 g4 hL, PF.up2 g5 hL, PF.up2 g6 hL⟩
def mkRn (f : Bool) (m : Rat) (o : Int) (x y : Rat) : Rn := ⟨(r2 m 0).mul (c8 o), if f then ((r2 m 0).mul (c8 (o - 2))).neg.neg else ((r2 m 0).mul (c8 (o - 2))).neg, (r2 m 0).mul (c8 (o - 2)), if f then ((r2 m 0).mul (c8 o)).neg else (r2 m 0).mul (c8 o), r2 x 0, r2 y 0⟩
section
variable {fin : VS → List Fact → Prop} {Γ : List Fact} {L M K : Nat}
theorem entRT {x : R6} {V : Rn} {L' L1 L2 L3 L4 L5 L6 : Nat} {a b c d e f : Sn} [h1 : Has (TF x.A) (L1, a) Γ] [h2 : Has (TF x.B) (L2, b) Γ] [h3 : Has (TF x.C) (L3, c) Γ] [h4 : Has (TF x.D) (L4, d) Γ] [h5 : Has (TF x.E) (L5, e) Γ] [h6 : Has (TF x.F) (L6, f) Γ]
    (e1 : a = V.A) (e2 : b = V.B) (e3 : c = V.C) (e4 : d = V.D) (e5 : e = V.E) (e6 : f = V.F) (hL : L1 ≤ L' ∧ L2 ≤ L' ∧ L3 ≤ L' ∧ L4 ≤ L' ∧ L5 ≤ L' ∧ L6 ≤ L') : ∀ (I : Blk) (w : World), DataOK tb I w → Holds Γ I w → Holds [RT x (L', V)] I w := fun I w _ hh => by
  subst e1 e2 e3 e4 e5 e6
  exact holds1 ⟨TF.up2 (h1.p hh) hL.1, TF.up2 (h2.p hh) hL.2.1, TF.up2 (h3.p hh) hL.2.2.1, TF.up2 (h4.p hh) hL.2.2.2.1, TF.up2 (h5.p hh) hL.2.2.2.2.1, TF.up2 (h6.p hh) hL.2.2.2.2.2⟩
end
end Go.Proofs.Ytaafmafdnnjmdaa

set_option linter.unusedSimpArgs false
set_option linter.unusedVariables false
namespace Go.Proofs.Ytaafmafdnnjmdaa
open Go.RowKit Go.IntWalk

/-- May a turn be made of this? -/
def wayOk (o : Int) (m x y : ByteArray) : Bool := decide (m.size ≤ 30) && (decide (x.size ≤ 30) && (decide (y.size ≤ 30) && (decide (0 ≤ o) && (decide (o ≤ 7) && (qerr m == 0 && (qerr x == 0 && (qerr y == 0 && decide (0 < (qval m).num.sign))))))))
def wayOn (f : Bool) (o : Int) (m x y : ByteArray) : On := ⟨f, o, qval m, qval x, 0, qval y, 0⟩
abbrev nilP : Pw := ⟨0, ⟨none, 0, 0⟩, 0, ⟨none, 0, 0⟩⟩
abbrev nilT : Tw := ⟨0, ⟨none, 0, 0⟩, 0, ⟨none, 0, 0⟩, nilP, nilP, nilP, nilP⟩
def KF (x : Q5) (y : R6) (a : Nat × Bool × On × Rn) : Fact where
  p I w := a.2.1 = true → (OF x (a.1, a.2.2.1)).p I w ∧ (RT y (a.1, a.2.2.2)).p I w
  up := by
    rintro I I' w w' h h1 h2 h3 ha
    exact ⟨(OF x _).up (h ha).1 h1 h2 h3, (RT y _).up (h ha).2 h1 h2 h3⟩
theorem wayOk_spec {o : Int} {m x y : ByteArray} (h : wayOk o m x y = true) : 0 ≤ o ∧ o ≤ 7 ∧ 0 < (qval m).num.sign := by
  unfold wayOk at h
  simp only [Bool.and_eq_true, decide_eq_true_eq, beq_iff_eq] at h
  exact ⟨h.2.2.2.1, h.2.2.2.2.1, h.2.2.2.2.2.2.2.2⟩
section
variable {fin : VS → List Fact → Prop} {Γ : List Fact} {L M K : Nat}
theorem entKF0 {x : Q5} {y : R6} {L' : Nat} {ok : Bool} {V : On} {U : Rn} (h : ok = false) : ∀ (I : Blk) (w : World), DataOK tb I w → Holds Γ I w → Holds [KF x y (L', ok, V, U)] I w := fun I w _ _ => holds1 (fun ha => by simp only at ha; rw [h] at ha; simp at ha)
theorem W.kf {P : Program} {c : Cfg} (x : Q5) (y : R6) {ok : Bool} {V : On} {U : Rn} [h : Has (KF x y) (L, ok, V, U) Γ] (hm : midOps c.k = false) (hok : ok = true) (hk : W tb P fin c (OF x (L, V) :: RT y (L, U) :: Γ)) : W tb P fin c Γ :=
  W.more (Δ := [OF x (L, V), RT y (L, U)]) hm (fun I w _ hh => Holds.cons ((h.p hh) hok).1 (holds1 ((h.p hh) hok).2)) hk

def WPost (f : Bool) (o : Int) (m x y : ByteArray) (v : Value) (Δ : List Fact) : Prop := ∃ (f' : Bool) (o' : Int) (a : Q5) (b : R6), v = .tuple #[ttv f' o' a.g a.a a.b a.c a.d, rtv b.A b.B b.C b.D b.E b.F, .bool (wayOk o m x y)] ∧
  (wayOk o m x y = true → f' = f ∧ o' = o) ∧ Δ = [KF a b (700, wayOk o m x y, wayOn f o m x y, mkRn f (qval m) o (qval x) (qval y))]
theorem wfail {f : Bool} {o : Int} {m x y : ByteArray} (hf : wayOk o m x y = false) : WPost f o m x y (.tuple #[ttv false 0 nilQ nilQ nilQ nilQ nilQ, rtv nilT nilT nilT nilT nilT nilT, .bool false]) [KF ⟨nilQ, nilQ, nilQ, nilQ, nilQ⟩ ⟨nilT, nilT, nilT, nilT, nilT, nilT⟩ (700, wayOk o m x y, wayOn f o m x y, mkRn f (qval m) o (qval x) (qval y))] :=
  ⟨false, 0, ⟨nilQ, nilQ, nilQ, nilQ, nilQ⟩, ⟨nilT, nilT, nilT, nilT, nilT, nilT⟩, by rw [hf], fun h => by rw [hf] at h; simp at h, rfl⟩

end
end Go.Proofs.Ytaafmafdnnjmdaa

set_option linter.unusedSimpArgs false
set_option linter.unusedVariables false
namespace Go.Proofs.Ytaafmafdnnjmdaa
open Go.RowKit Go.IntWalk

theorem ang_f : ∀ n m : _root_.Fin 8,
    2 * pc (((n : Int) + m) % 8) = 2 * pc n * pc m + pcr n * pcr m - 2 * ps n * ps m - psr n * psr m ∧ pcr (((n : Int) + m) % 8) = pc n * pcr m + pcr n * pc m - ps n * psr m - psr n * ps m ∧
    2 * ps (((n : Int) + m) % 8) = 2 * ps n * pc m + psr n * pcr m + 2 * pc n * ps m + pcr n * psr m ∧ psr (((n : Int) + m) % 8) = ps n * pcr m + psr n * pc m + pc n * psr m + pcr n * ps m := by decide +kernel
theorem ang_t : ∀ n m : _root_.Fin 8,
    2 * pc ((-(n : Int) + m) % 8) = 2 * pc n * pc m + pcr n * pcr m + 2 * ps n * ps m + psr n * psr m ∧ pcr ((-(n : Int) + m) % 8) = pc n * pcr m + pcr n * pc m + ps n * psr m + psr n * ps m ∧
    2 * ps ((-(n : Int) + m) % 8) = -2 * ps n * pc m - psr n * pcr m + 2 * pc n * ps m + pcr n * psr m ∧ psr ((-(n : Int) + m) % 8) = -ps n * pcr m - psr n * pc m + pc n * psr m + pcr n * ps m := by decide +kernel

theorem On.mag_ne (V : On) : V.mag ≠ 0 := by
  unfold On.mag
  split
  · decide +kernel
  · rename_i h
    exact fun e => h (by rw [e]; rfl)
theorem On.then_mag (V U : On) : (V.then U).mag = V.mag * U.mag := by
  have h1 := V.mag_ne
  have h2 := U.mag_ne
  have h3 : V.mag * U.mag ≠ 0 := fun e => by rcases Rat.mul_eq_zero.1 e with h | h <;> contradiction
  unfold On.mag
  rw [show (V.then U).g = V.mag * U.mag from rfl]
  rw [if_neg (fun h => h3 (sign_eq0.1 h))]
  rfl

/-- What a turn does to a point, by four numbers. -/
structure P4 where
  x : Rat
  y : Rat
  z : Rat
  w : Rat
def On.ap (V : On) (p : P4) : P4 := ⟨V.u0 p.x p.y p.z p.w, V.u1 p.x p.y p.z p.w, V.v0 p.x p.y p.z p.w, V.v1 p.x p.y p.z p.w⟩
def ang (f : Bool) (M a b c d x y z w u v s t : Rat) : P4 :=
  ⟨(x * M) * a + (y * M) * c - ((if f then -z else z) * M * b + (if f then -w else w) * M * d) + u,
   (y * M) * a + (x * M) * (c * Rat.divInt 1 2) - ((if f then -w else w) * M * b + (if f then -z else z) * M * (d * Rat.divInt 1 2)) + v,
   (x * M) * b + (y * M) * d + ((if f then -z else z) * M * a + (if f then -w else w) * M * c) + s,
   (y * M) * b + (x * M) * (d * Rat.divInt 1 2) + ((if f then -w else w) * M * a + (if f then -z else z) * M * (c * Rat.divInt 1 2)) + t⟩
theorem divInt_half (d : Int) : Rat.divInt d 2 = (d : Rat) * Rat.divInt 1 2 := by
  rw [← q_divInt1, Rat.divInt_mul_divInt]
  simp
theorem On.ap_ang (V : On) (p : P4) : V.ap p = ang V.f V.mag (pc V.o) (ps V.o) (pcr V.o) (psr V.o) p.x p.y p.z p.w V.a V.b V.c V.d := by
  unfold On.ap ang On.u0 On.u1 On.v0 On.v1 tm1 tm2 On.sg
  rw [divInt_half (pcr V.o), divInt_half (psr V.o)]
  simp only [P4.mk.injEq]
  refine ⟨?_, ?_, ?_, ?_⟩ <;> first | trivial | (split <;> grind)
theorem P4.ext' {p q : P4} (h1 : p.x = q.x) (h2 : p.y = q.y) (h3 : p.z = q.z) (h4 : p.w = q.w) : p = q := by
  cases p; cases q; simp_all
theorem ang_ang {f g fg : Bool} (hk : fg = !(f == g)) {M N a b c d a' b' c' d' A B C D x y z w u v s t u' v' s' t' : Rat}
    (e : if g then 2 * A = 2 * a * a' + c * c' + 2 * b * b' + d * d' ∧ C = a * c' + c * a' + b * d' + d * b' ∧ 2 * B = -2 * b * a' - d * c' + 2 * a * b' + c * d' ∧ D = -b * c' - d * a' + a * d' + c * b'
      else 2 * A = 2 * a * a' + c * c' - 2 * b * b' - d * d' ∧ C = a * c' + c * a' - b * d' - d * b' ∧ 2 * B = 2 * b * a' + d * c' + 2 * a * b' + c * d' ∧ D = b * c' + d * a' + a * d' + c * b') :
    ang g N a' b' c' d' (ang f M a b c d x y z w u v s t).x (ang f M a b c d x y z w u v s t).y (ang f M a b c d x y z w u v s t).z (ang f M a b c d x y z w u v s t).w u' v' s' t' =
    ang fg (M * N) A B C D x y z w (ang g N a' b' c' d' u v s t u' v' s' t').x (ang g N a' b' c' d' u v s t u' v' s' t').y (ang g N a' b' c' d' u v s t u' v' s' t').z (ang g N a' b' c' d' u v s t u' v' s' t').w := by
  have hh : Rat.divInt 1 2 + Rat.divInt 1 2 = 1 := by decide +kernel
  unfold ang
  generalize Rat.divInt 1 2 = H at *
  have k : ∀ r : Rat, 2 * r * H = r := fun r => by grind
  cases g <;> simp only [Bool.false_eq_true, if_false, if_true, reduceIte] at e <;> obtain ⟨e1, e2, e3, e4⟩ := e
  · have e1' : A = a * a' + c * c' * H - b * b' - d * d' * H := by
      have := k A
      have := k (a * a')
      have := k (b * b')
      grind
    have e3' : B = b * a' + d * c' * H + a * b' + c * d' * H := by
      have := k B
      have := k (b * a')
      have := k (a * b')
      grind
    clear e1 e3 k hh
    subst e1' e2 e3' e4
    cases f
    · obtain rfl : fg = false := hk
      simp only [Bool.false_eq_true, if_false, if_true, reduceIte, P4.mk.injEq]
      refine ⟨?_, ?_, ?_, ?_⟩ <;> grind
    · obtain rfl : fg = true := hk
      simp only [Bool.false_eq_true, if_false, if_true, reduceIte, P4.mk.injEq]
      refine ⟨?_, ?_, ?_, ?_⟩ <;> grind
  · have e1' : A = a * a' + c * c' * H + b * b' + d * d' * H := by
      have := k A
      have := k (a * a')
      have := k (b * b')
      grind
    have e3' : B = -b * a' - d * c' * H + a * b' + c * d' * H := by
      have := k B
      have := k (b * a')
      have := k (a * b')
      grind
    clear e1 e3 k hh
    subst e1' e2 e3' e4
    cases f
    · obtain rfl : fg = true := hk
      simp only [Bool.false_eq_true, if_false, if_true, reduceIte, P4.mk.injEq]
      refine ⟨?_, ?_, ?_, ?_⟩ <;> grind
    · obtain rfl : fg = false := hk
      simp only [Bool.false_eq_true, if_false, if_true, reduceIte, P4.mk.injEq]
      refine ⟨?_, ?_, ?_, ?_⟩ <;> grind
/-- One behind the other: what the one does to what the other did. -/
theorem On.then_ap (V U : On) (hV : 0 ≤ V.o ∧ V.o ≤ 7) (hU : 0 ≤ U.o ∧ U.o ≤ 7) (p : P4) : (V.then U).ap p = U.ap (V.ap p) := by
  rw [(V.then U).ap_ang, U.ap_ang, V.ap_ang, On.then_mag]
  rw [ang_ang (fg := (V.then U).f) rfl (A := pc (V.then U).o) (B := ps (V.then U).o) (C := pcr (V.then U).o) (D := psr (V.then U).o)]
  · have e : ∀ q : P4, U.ap ⟨V.a, V.b, V.c, V.d⟩ = q → (V.then U).a = q.x ∧ (V.then U).b = q.y ∧ (V.then U).c = q.z ∧ (V.then U).d = q.w := by
      rintro q rfl
      exact ⟨rfl, rfl, rfl, rfl⟩
    obtain ⟨e1, e2, e3, e4⟩ := e _ (U.ap_ang _)
    rw [e1, e2, e3, e4]
  · obtain ⟨n, hn⟩ := fin8 hV
    obtain ⟨m, hm⟩ := fin8 hU
    have cast : ∀ {a b : Int}, a = b → (a : Rat) = (b : Rat) := fun h => by rw [h]
    have c2 : ((2 : Int) : Rat) = 2 := rfl
    have cm2 : ((-2 : Int) : Rat) = -2 := rfl
    cases hf : U.f with
    | false =>
      obtain ⟨g1, g2, g3, g4⟩ := ang_f n m
      simp only [Bool.false_eq_true, if_false, reduceIte]
      rw [show (V.then U).o = ((n : Int) + m) % 8 by unfold On.then; simp only [hf, Bool.false_eq_true, if_false, reduceIte]; rw [hn, hm], hn, hm]
      have g1 := cast g1
      have g2 := cast g2
      have g3 := cast g3
      have g4 := cast g4
      simp only [Rat.intCast_add, Rat.intCast_mul, Rat.intCast_sub, Rat.intCast_neg, c2] at g1 g2 g3 g4
      exact ⟨g1, g2, g3, g4⟩
    | true =>
      obtain ⟨g1, g2, g3, g4⟩ := ang_t n m
      simp only [if_true, reduceIte]
      rw [show (V.then U).o = (-(n : Int) + m) % 8 by unfold On.then; simp only [hf, if_true, reduceIte]; rw [hn, hm], hn, hm]
      have g1 := cast g1
      have g2 := cast g2
      have g3 := cast g3
      have g4 := cast g4
      simp only [Rat.intCast_add, Rat.intCast_mul, Rat.intCast_sub, Rat.intCast_neg, c2, cm2] at g1 g2 g3 g4
      exact ⟨g1, g2, g3, g4⟩
theorem On.assoc_ap (V U Z : On) (hV : 0 ≤ V.o ∧ V.o ≤ 7) (hU : 0 ≤ U.o ∧ U.o ≤ 7) (hZ : 0 ≤ Z.o ∧ Z.o ≤ 7) (p : P4) : ((V.then U).then Z).ap p = (V.then (U.then Z)).ap p := by
  rw [On.then_ap _ _ (On.then_o V U) hZ, On.then_ap _ _ hV hU, On.then_ap _ _ hV (On.then_o U Z), On.then_ap _ _ hU hZ]
end Go.Proofs.Ytaafmafdnnjmdaa

set_option linter.unusedSimpArgs false
set_option linter.unusedVariables false
namespace Go.Proofs.Ytaafmafdnnjmdaa
open Go.RowKit Go.IntWalk

def bO (b : Nat) (V : On) : Prop := bq b V.g ∧ bq b V.a ∧ bq b V.b ∧ bq b V.c ∧ bq b V.d
def bP (b : Nat) (p : P4) : Prop := bq b p.x ∧ bq b p.y ∧ bq b p.z ∧ bq b p.w
theorem bq.pos {b : Nat} {q : Rat} (h : bq b q) : 1 ≤ b := by
  have h2 := h.2
  have := q.den_pos
  cases b with
  | zero => simp at h2; omega
  | succ b => omega
theorem bO.mag {b : Nat} {V : On} (h : bO b V) : bq b V.mag := by
  unfold On.mag
  split
  · exact bq.int (z := 1) (Nat.one_lt_two_pow (by have := h.1.pos; omega)) h.1.pos
  · exact h.1
theorem bq.sg {b : Nat} {V : On} {z : Rat} (h : bq b z) : bq b (V.sg z) := by
  unfold On.sg
  split
  · exact h.neg
  · exact h
theorem unit_bits {c : Int} (h : -1 ≤ c ∧ c ≤ 1) : bq 1 (c : Rat) := bq.int (by show c.natAbs < 2; omega) (by omega)
theorem half_bits {c : Int} (h : -1 ≤ c ∧ c ≤ 1) : bq 2 (Rat.divInt c 2) := bq.of (by decide) rfl (by show c.natAbs < 4; omega) (by decide)
theorem bq.tm1 {p : Nat} {x y : Rat} {c d : Int} (hx : bq p x) (hy : bq p y) (hc : -1 ≤ c ∧ c ≤ 1) (hd : -1 ≤ d ∧ d ≤ 1) : bq (2 * p + 3) (tm1 x y c d) :=
  ((hx.mul (unit_bits hc)).add (hy.mul (unit_bits hd))).mono (by omega)
theorem bq.tm2 {p : Nat} {x y : Rat} {c d : Int} (hx : bq p x) (hy : bq p y) (hc : -1 ≤ c ∧ c ≤ 1) (hd : -1 ≤ d ∧ d ≤ 1) : bq (2 * p + 4) (tm2 x y c d) :=
  ((hy.mul (unit_bits hc)).add (hx.mul (half_bits hd))).mono (by omega)
theorem bO.ap {b p : Nat} {V : On} {q : P4} (h : bO b V) (g : bP p q) : bP (4 * p + 5 * b + 10) (V.ap q) := by
  have hm := h.mag
  obtain ⟨h1, h2, h3, h4, h5⟩ := h
  obtain ⟨g1, g2, g3, g4⟩ := g
  have c1 := pc_b V.o
  have c2 := ps_b V.o
  have c3 := pcr_b V.o
  have c4 := psr_b V.o
  have x := g1.mul hm
  have y := g2.mul hm
  have z := (g3.sg (V := V)).mul hm
  have w := (g4.sg (V := V)).mul hm
  refine ⟨?_, ?_, ?_, ?_⟩
  · exact (((bq.tm1 x y c1 c3).add (bq.tm1 z w c2 c4).neg).add h2).mono (by omega)
  · exact (((bq.tm2 x y c1 c3).add (bq.tm2 z w c2 c4).neg).add h3).mono (by omega)
  · exact (((bq.tm1 x y c2 c4).add (bq.tm1 z w c1 c3)).add h4).mono (by omega)
  · exact (((bq.tm2 x y c2 c4).add (bq.tm2 z w c1 c3)).add h5).mono (by omega)
theorem bO.then {b c : Nat} {V U : On} (h : bO b V) (g : bO c U) : bO (4 * b + 5 * c + 10) (V.then U) := by
  have k := g.ap (q := ⟨V.a, V.b, V.c, V.d⟩) ⟨h.2.1, h.2.2.1, h.2.2.2.1, h.2.2.2.2⟩
  exact ⟨(h.mag.mul g.mag).mono (by omega), k.1, k.2.1, k.2.2.1, k.2.2.2⟩
theorem bS.r2 {b : Nat} {x y : Rat} (hx : bq b x) (hy : bq b y) (hb : 2 ≤ b) : bS b (r2 x y) :=
  ⟨Nat.lt_of_lt_of_le (by decide : 2 < 2 ^ 2) (pow_mono2 hb), Nat.two_pow_pos b, hx, hy, bq.zero b (by omega), bq.zero b (by omega)⟩
theorem int_bits {z : Int} (h : -9223372036854775808 ≤ z ∧ z < 9223372036854775808) : bq 64 (z : Rat) := bq.int (by
  have : (2 : Nat) ^ 64 = 18446744073709551616 := by decide
  omega) (by omega)
theorem OF.tight {x : Q5} {L k : Nat} {V : On} {I : Blk} {w : World} (h : (OF x (L, V)).p I w) (hq : bO k V) : (OF x (k / 32 + 1, V)).p I w := by
  obtain ⟨h1, h2, h3, h4, h5⟩ := h
  obtain ⟨g1, g2, g3, g4, g5⟩ := hq
  exact ⟨QF.tight h1 g1, QF.tight h2 g2, QF.tight h3 g3, QF.tight h4 g4, QF.tight h5 g5⟩
def On.X (V : On) (x y : Rat) : Sn := r2 (V.u0 x 0 y 0) (V.u1 x 0 y 0)
def On.Y (V : On) (x y : Rat) : Sn := r2 (V.v0 x 0 y 0) (V.v1 x 0 y 0)

section
variable {fin : VS → List Fact → Prop} {Γ : List Fact} {L M K : Nat}
theorem entTO {x : Q5} {V : On} {k : Nat} [h : Has (OF x) (L, V) Γ] (hq : bO k V) : ∀ (I : Blk) (w : World), DataOK tb I w → Holds Γ I w → Holds [OF x (k / 32 + 1, V)] I w := fun I w _ hh => holds1 (OF.tight (h.p hh) hq)
theorem PCalls.plT {f : FuncId} {args : List Value} {X Y : Sn} {k : Nat} (h : PCalls tb Try.prog f args Γ (PlPost L X Y)) (h1 : bS k X) (h2 : bS k Y) : PCalls tb Try.prog f args Γ (PlPost (k / 32 + 1) X Y) :=
  h.entH (fun v Δ ⟨x, y, e1, e2⟩ => ⟨_, ⟨x, y, e1, rfl⟩, fun I w hh => by
    subst e2
    exact Holds.cons (SF.tight (hh (SF x (L, X)) (List.Mem.head _)) h1) (holds1 (SF.tight (hh (SF y (L, Y)) (List.Mem.tail _ (List.Mem.head _))) h2))⟩)
theorem bO.X {b : Nat} {V : On} (h : bO b V) {x y : Int} (hx : -9223372036854775808 ≤ x ∧ x < 9223372036854775808) (hy : -9223372036854775808 ≤ y ∧ y < 9223372036854775808) : bS (5 * b + 266) (V.X x y) ∧ bS (5 * b + 266) (V.Y x y) := by
  have k := h.ap (q := ⟨x, 0, y, 0⟩) ⟨int_bits hx, bq.zero 64 (by omega), int_bits hy, bq.zero 64 (by omega)⟩
  exact ⟨bS.r2 (k.1.mono (by omega)) (k.2.1.mono (by omega)) (by omega), bS.r2 (k.2.2.1.mono (by omega)) (k.2.2.2.mono (by omega)) (by omega)⟩
theorem p_oatT (V : On) (x : Q5) (a b : Int) {k : Nat} [Has (OF x) (L, V) Γ] (hk : bO k V) (ho : 0 ≤ V.o ∧ V.o ≤ 7) (ha : -9223372036854775808 ≤ a ∧ a < 9223372036854775808) (hb : -9223372036854775808 ≤ b ∧ b < 9223372036854775808) (hL : L ≤ 10000 := by omega) :
    PCalls tb Try.prog 19 [otv V x, .agg #[.int .i64 a, .int .i64 b]] Γ (PlPost ((5 * k + 266) / 32 + 1) (V.X a b) (V.Y a b)) :=
  by
  obtain ⟨k1, k2⟩ := hk.X ha hb
  have h := p_oat (Γ := Γ) V x a b ho ha hb hL
  unfold On.X at k1 ⊢
  unfold On.Y at k2 ⊢
  exact h.plT k1 k2
theorem p_oatE (V : On) (x : Q5) (a b : Int) {k : Nat} {X Y : Sn} [Has (OF x) (L, V) Γ] (hk : bO k V) (ho : 0 ≤ V.o ∧ V.o ≤ 7) (ha : -9223372036854775808 ≤ a ∧ a < 9223372036854775808) (hb : -9223372036854775808 ≤ b ∧ b < 9223372036854775808) (hX : V.X a b = X) (hY : V.Y a b = Y) (hL : L ≤ 10000 := by omega) :
    PCalls tb Try.prog 19 [otv V x, .agg #[.int .i64 a, .int .i64 b]] Γ (PlPost ((5 * k + 266) / 32 + 1) X Y) := by
  subst hX hY
  exact p_oatT V x a b hk ho ha hb hL
theorem wayOk_bits {f : Bool} {o : Int} {m x y : ByteArray} (h : wayOk o m x y = true) : bO 100 (wayOn f o m x y) := by
  have hk : 10 ^ 30 < 2 ^ 100 := by decide +kernel
  unfold wayOk at h
  rw [Bool.and_eq_true, Bool.and_eq_true, Bool.and_eq_true] at h
  have h1 := of_decide_eq_true h.1
  have h2 := of_decide_eq_true h.2.1
  have h3 := of_decide_eq_true h.2.2.1
  have z := bq.zero 100 (by omega)
  unfold bO wayOn
  exact ⟨bq_qval h1 hk, bq_qval h2 hk, z, bq_qval h3 hk, z⟩
end
theorem beq0 {z : Int} (h : z = 0) : (z == 0) = true := by rw [h]; rfl
theorem Sn.sg_eq {A B : Sn} (h : A = B) : (A.sub B).sg = 0 := Sn.sg_sub (by rw [h]) (by rw [h]) (by rw [h]) (by rw [h])
theorem On.X_ap {V U : On} {x y : Rat} (h : V.ap ⟨x, 0, y, 0⟩ = U.ap ⟨x, 0, y, 0⟩) : V.X x y = U.X x y ∧ V.Y x y = U.Y x y := by
  unfold On.ap at h
  simp only [P4.mk.injEq] at h
  obtain ⟨h1, h2, h3, h4⟩ := h
  unfold On.X On.Y
  exact ⟨by rw [h1, h2], by rw [h3, h4]⟩
/-- What a turn is without its move. -/
theorem On.X_move (V : On) (x y : Rat) : V.X x y = ((⟨V.f, V.o, V.mag, 0, 0, 0, 0⟩ : On).X x y).add (r2 V.a V.b) ∧ V.Y x y = ((⟨V.f, V.o, V.mag, 0, 0, 0, 0⟩ : On).Y x y).add (r2 V.c V.d) := by
  have hm : (⟨V.f, V.o, V.mag, 0, 0, 0, 0⟩ : On).mag = V.mag := by
    have h := V.mag_ne
    show (if V.mag.num.sign = 0 then 1 else V.mag) = V.mag
    rw [if_neg (fun e => h (sign_eq0.1 e))]
  have hs : ∀ z, (⟨V.f, V.o, V.mag, 0, 0, 0, 0⟩ : On).sg z = V.sg z := fun z => rfl
  have h0 : (0 : Rat) + 0 = 0 := by decide +kernel
  unfold On.X On.Y On.u0 On.u1 On.v0 On.v1 r2 Sn.add
  rw [hm]
  simp only [hs, h0]
  generalize tm1 _ _ _ _ = a
  generalize tm1 _ _ _ _ = b
  constructor
  · refine Sn.ext' rfl rfl ?_ ?_ rfl rfl <;> simp only <;> grind
  · refine Sn.ext' rfl rfl ?_ ?_ rfl rfl <;> simp only <;> grind
theorem On.X_id {V : On} (hf : V.f = false) (ho : V.o = 0) (hm : V.mag = 1) (ha : V.a = 0) (hb : V.b = 0) (hc : V.c = 0) (hd : V.d = 0) (x y : Rat) : V.X x y = r2 x 0 ∧ V.Y x y = r2 y 0 := by
  have e1 : pc V.o = 1 := by rw [ho]; decide
  have e2 : ps V.o = 0 := by rw [ho]; decide
  have e3 : pcr V.o = 0 := by rw [ho]; decide
  have e4 : psr V.o = 0 := by rw [ho]; decide
  have hs : ∀ z, V.sg z = z := fun z => by unfold On.sg; rw [hf]; rfl
  have c1 : ((1 : Int) : Rat) = 1 := rfl
  have c0 : ((0 : Int) : Rat) = 0 := rfl
  have c2 : Rat.divInt 0 2 = 0 := by decide +kernel
  unfold On.X On.Y On.u0 On.u1 On.v0 On.v1 tm1 tm2
  rw [e1, e2, e3, e4, hm, ha, hb, hc, hd]
  simp only [hs, c1, c0, c2]
  exact ⟨r2_ext (by grind) (by grind), r2_ext (by grind) (by grind)⟩
/-- Two flips, and so many eighths. -/
def oxf : On := ⟨true, 0, ((1 : Int) : Rat), 0, 0, 0, 0⟩
def allT : Nat → On
  | 0 => oxf.then oxf
  | n + 1 => (allT n).then ox1
theorem bO_dec {b : Nat} {V : On} (h : (decide (V.g.num.natAbs < 2 ^ b) && decide (V.g.den < 2 ^ b) && decide (V.a.num.natAbs < 2 ^ b) && decide (V.a.den < 2 ^ b) && decide (V.b.num.natAbs < 2 ^ b) && decide (V.b.den < 2 ^ b) && decide (V.c.num.natAbs < 2 ^ b) && decide (V.c.den < 2 ^ b) && decide (V.d.num.natAbs < 2 ^ b) && decide (V.d.den < 2 ^ b)) = true) : bO b V := by
  simp only [Bool.and_eq_true, decide_eq_true_eq] at h
  obtain ⟨⟨⟨⟨⟨⟨⟨⟨⟨h1, h2⟩, h3⟩, h4⟩, h5⟩, h6⟩, h7⟩, h8⟩, h9⟩, h10⟩ := h
  exact ⟨⟨h1, h2⟩, ⟨h3, h4⟩, ⟨h5, h6⟩, ⟨h7, h8⟩, ⟨h9, h10⟩⟩
theorem allT_bits : bO 2 (allT 0) ∧ bO 2 (allT 1) ∧ bO 2 (allT 2) ∧ bO 2 (allT 3) ∧ bO 2 (allT 4) ∧ bO 2 (allT 5) ∧ bO 2 (allT 6) ∧ bO 2 (allT 7) ∧ bO 2 (allT 8) :=
  ⟨bO_dec (by decide +kernel), bO_dec (by decide +kernel), bO_dec (by decide +kernel), bO_dec (by decide +kernel), bO_dec (by decide +kernel), bO_dec (by decide +kernel), bO_dec (by decide +kernel), bO_dec (by decide +kernel), bO_dec (by decide +kernel)⟩
theorem allT_o (n : Nat) : 0 ≤ (allT n).o ∧ (allT n).o ≤ 7 := by
  cases n with
  | zero => exact On.then_o _ _
  | succ n => exact On.then_o _ _
theorem allT_id (x y : Rat) : (allT 8).X x y = r2 x 0 ∧ (allT 8).Y x y = r2 y 0 :=
  On.X_id (by decide +kernel) (by decide +kernel) (by decide +kernel) (by decide +kernel) (by decide +kernel) (by decide +kernel) (by decide +kernel) x y
theorem On.mag_pos {V : On} (h : 0 < V.g.num.sign) : 0 < V.mag := by
  unfold On.mag
  rw [if_neg (by omega)]
  have h1 : ¬ V.g.num.sign < 0 := by omega
  have h2 : ¬ V.g.num.sign = 0 := by omega
  rw [sign_lt0] at h1
  rw [sign_eq0] at h2
  grind
theorem sign_pos_of {q : Rat} (h : 0 < q) : 0 < q.num.sign := by
  have h1 : ¬ q.num.sign < 0 := fun e => by rw [sign_lt0] at e; grind
  have h2 : ¬ q.num.sign = 0 := fun e => by rw [sign_eq0] at e; grind
  omega
theorem On.then_pos {V U : On} (h1 : 0 < V.g.num.sign) (h2 : 0 < U.g.num.sign) : 0 < (V.then U).mag.num.sign := by
  rw [On.then_mag]
  exact sign_pos_of (Rat.mul_pos (On.mag_pos h1) (On.mag_pos h2))
end Go.Proofs.Ytaafmafdnnjmdaa

set_option linter.unusedSimpArgs false
set_option linter.unusedVariables false
namespace Go.Proofs.Ytaafmafdnnjmdaa
open Go.RowKit Go.IntWalk

def rt0 (n : Int) : Rat := if n = 2 then 0 else (n : Rat)
def rt1 (n : Int) : Rat := if n = 2 then 1 else 0
def nm0 (a b c d : Rat) : Rat := a * c + (2 : Int) * b * d
def nm1 (a b c d : Rat) : Rat := a * d + b * c
/-- A number whose radicands are 0, 1, 2, by parts of 1 and root 2. -/
def Sn.n0 (S : Sn) : Rat := 0 + nm0 S.p 0 (1 : Int) 0 + nm0 S.q 0 (rt0 S.m) (rt1 S.m) + nm0 S.r 0 (rt0 S.n) (rt1 S.n) + nm0 S.s 0 (nm0 (rt0 S.m) (rt1 S.m) (rt0 S.n) (rt1 S.n)) (nm1 (rt0 S.m) (rt1 S.m) (rt0 S.n) (rt1 S.n))
def Sn.n1 (S : Sn) : Rat := 0 + nm1 S.p 0 (1 : Int) 0 + nm1 S.q 0 (rt0 S.m) (rt1 S.m) + nm1 S.r 0 (rt0 S.n) (rt1 S.n) + nm1 S.s 0 (nm0 (rt0 S.m) (rt1 S.m) (rt0 S.n) (rt1 S.n)) (nm1 (rt0 S.m) (rt1 S.m) (rt0 S.n) (rt1 S.n))
theorem r2_n (x y : Rat) : (r2 x y).n0 = x ∧ (r2 x y).n1 = y := by
  have a0 : rt0 (r2 x y).m = 0 := rfl
  have a1 : rt1 (r2 x y).m = 1 := rfl
  have b0 : rt0 (r2 x y).n = 0 := rfl
  have b1 : rt1 (r2 x y).n = 0 := rfl
  have c1 : ((1 : Int) : Rat) = 1 := rfl
  have c2 : ((2 : Int) : Rat) = 2 := rfl
  unfold Sn.n0 Sn.n1
  rw [a0, a1, b0, b1]
  unfold nm0 nm1 r2
  simp only [c1, c2]
  constructor <;> grind
section
variable {fin : VS → List Fact → Prop} {Γ : List Fact} {L M K : Nat}
theorem p_olike (x y : Sw) {X Y : Sn} [Has (SF x) (L, X) Γ] [Has (SF y) (M, Y) Γ] (em : X.m = Y.m) (en : X.n = Y.n) (hL : L ≤ 100000 := by omega) (hM : M ≤ 100000 := by omega) :
    PCalls tb Try.prog 52 [plv x y] Γ (IsV (.bool true)) := by
  refine PCalls.of_W tbOk Try.func52 rfl (by kernel_rfl) ?_
  refine W.cl [] (by kernel_rfl) (p_xsub x y em en) ?_
  rintro _ _ ⟨X1, rfl, rfl⟩
  exact W.r [] (.bool (0 == 0)) (by kernel_rfl) ⟨rfl, rfl⟩ ent0
theorem p_olikeF (x y : Sw) {X Y : Sn} [Has (SF x) (L, X) Γ] [Has (SF y) (M, Y) Γ] (hu : ¬ (X.m = Y.m ∧ X.n = Y.n)) (hL : L ≤ 100000 := by omega) (hM : M ≤ 100000 := by omega) :
    PCalls tb Try.prog 52 [plv x y] Γ (IsV (.bool false)) := by
  refine PCalls.of_W tbOk Try.func52 rfl (by kernel_rfl) ?_
  refine W.cl [] (by kernel_rfl) (p_xsubE x y hu) ?_
  rintro _ _ ⟨rfl, rfl⟩
  exact W.r [] (.bool (6 == 0)) (by kernel_rfl) ⟨rfl, rfl⟩ ent0
theorem p_oroot (u : Sl) (d : Bool) {n : Int} [Has (ZF u d) (L, n) Γ] (hn : 0 ≤ n ∧ n ≤ 2) (hL : L ≤ 1000000 := by omega) :
    PCalls tb Try.prog 97 [zv u d] Γ (fun v Δ => ∃ a b : Qw, v = .tuple #[q2v a b, .bool true] ∧ Δ = [QG a (2, rt0 n), QG b (2, rt1 n)]) := by
  have hs : small n = true := by unfold small; simp only [Bool.and_eq_true, decide_eq_true_eq]; omega
  refine PCalls.of_W tbOk Try.func97 rfl (by kernel_rfl) ?_
  refine W.more rfl (entQ0 (L' := 0)) ?_
  refine W.cl [] (by kernel_rfl) (p_zsmallT u d hs) ?_
  rintro _ _ ⟨rfl, rfl⟩
  refine W.df [] 14 (!true) (by kernel_rfl) rfl ?_
  refine W.df [14] 11 (decide (n > 2)) (by kernel_rfl) (by rw [decide_eq_false_iff_not]; omega) ?_
  by_cases h2 : n = 2
  · refine W.dt [11] 19 (n == 2) (by kernel_rfl) (by rw [h2]; rfl) ?_
    refine W.cl [19] (by kernel_rfl) (p_owhole 1 (by omega) (by omega)) ?_
    rintro _ _ ⟨n2, a2, m2, b2, rfl, rfl⟩
    exact W.r [] (.tuple #[q2v nilQ ⟨n2, a2, m2, b2⟩, .bool true]) (by kernel_rfl) ⟨_, _, rfl, rfl⟩ (entG2 (by omega) (by unfold rt0; rw [if_pos h2]) (by unfold rt1; rw [if_pos h2]; rfl))
  · refine W.df [11] 19 (n == 2) (by kernel_rfl) (by rw [beq_eq_false_iff_ne]; exact h2) ?_
    refine W.cl [19] (by kernel_rfl) (p_owhole n (by omega) (by omega)) ?_
    rintro _ _ ⟨n3, a3, m3, b3, rfl, rfl⟩
    exact W.r [] (.tuple #[q2v ⟨n3, a3, m3, b3⟩ nilQ, .bool true]) (by kernel_rfl) ⟨_, _, rfl, rfl⟩ (entG2 (by omega) (by unfold rt0; rw [if_neg h2]) (by unfold rt1; rw [if_neg h2]))
theorem p_orootF (u : Sl) (d : Bool) {n : Int} [Has (ZF u d) (L, n) Γ] (hn : 2 < n) (hL : L ≤ 1000000 := by omega) :
    PCalls tb Try.prog 97 [zv u d] Γ (IsV (.tuple #[q2v nilQ nilQ, .bool false])) := by
  refine PCalls.of_W tbOk Try.func97 rfl (by kernel_rfl) ?_
  refine W.cl [] (by kernel_rfl) (p_zsmall u d) ?_
  rintro _ _ ⟨rfl, rfl⟩
  by_cases hs : small n = true
  · refine W.df [] 14 (!(small n)) (by kernel_rfl) (by rw [hs]; rfl) ?_
    refine W.dt [14] 11 (decide ((if small n = true then n else 0) > 2)) (by kernel_rfl) (by rw [if_pos hs, decide_eq_true_iff]; omega) ?_
    exact W.r [11] (.tuple #[q2v nilQ nilQ, .bool false]) (by kernel_rfl) ⟨rfl, rfl⟩ ent0
  · refine W.dt [] 14 (!(small n)) (by kernel_rfl) (by rw [Bool.eq_false_iff.2 hs]; rfl) ?_
    exact W.r [11, 14] (.tuple #[q2v nilQ nilQ, .bool false]) (by kernel_rfl) ⟨rfl, rfl⟩ ent0
theorem p_onmul (a b c d : Qw) {x y z w : Rat} {L1 L2 L3 L4 : Nat} [Has (QG a) (L1, x) Γ] [Has (QG b) (L2, y) Γ] [Has (QG c) (L3, z) Γ] [Has (QG d) (L4, w) Γ] (hL : L1 ≤ 100000 ∧ L2 ≤ 100000 ∧ L3 ≤ 100000 ∧ L4 ≤ 100000 := by omega) :
    PCalls tb Try.prog 98 [q2v a b, q2v c d] Γ (Q2Post (L1 + L2 + L3 + L4 + 25) (nm0 x y z w) (nm1 x y z w)) := by
  refine PCalls.of_W tbOk Try.func98 rfl (by kernel_rfl) ?_
  refine W.cl [] (by kernel_rfl) (p_qmul a.n a.a a.m a.b c.n c.a c.m c.b) ?_
  rintro _ _ ⟨n1, a1, m1, b1, rfl, rfl⟩   -- (?a.n * ?c.n)
  refine W.cl [] (by kernel_rfl) (p_owhole 2 (by omega) (by omega)) ?_
  rintro _ _ ⟨n2, a2, m2, b2, rfl, rfl⟩   -- (2 : Rat)
  refine W.cl [] (by kernel_rfl) (p_qmul n2 a2 m2 b2 b.n b.a b.m b.b) ?_
  rintro _ _ ⟨n3, a3, m3, b3, rfl, rfl⟩   -- ((2 : Rat) * ?b.n)
  refine W.cl [] (by kernel_rfl) (p_qmul n3 a3 m3 b3 d.n d.a d.m d.b) ?_
  rintro _ _ ⟨n4, a4, m4, b4, rfl, rfl⟩   -- (((2 : Rat) * ?b.n) * ?d.n)
  refine W.cl [] (by kernel_rfl) (p_qadd n1 a1 m1 b1 n4 a4 m4 b4) ?_
  rintro _ _ ⟨n5, a5, m5, b5, rfl, rfl⟩   -- ((?a.n * ?c.n) + (((2 : Rat) * ?b.n) * ?d.n))
  refine W.cl [] (by kernel_rfl) (p_qmul a.n a.a a.m a.b d.n d.a d.m d.b) ?_
  rintro _ _ ⟨n6, a6, m6, b6, rfl, rfl⟩   -- (?a.n * ?d.n)
  refine W.cl [] (by kernel_rfl) (p_qmul b.n b.a b.m b.b c.n c.a c.m c.b) ?_
  rintro _ _ ⟨n7, a7, m7, b7, rfl, rfl⟩   -- (?b.n * ?c.n)
  refine W.cl [] (by kernel_rfl) (p_qadd n6 a6 m6 b6 n7 a7 m7 b7) ?_
  rintro _ _ ⟨n8, a8, m8, b8, rfl, rfl⟩   -- ((?a.n * ?d.n) + (?b.n * ?c.n))
  exact W.r [] (q2v ⟨n5, a5, m5, b5⟩ ⟨n8, a8, m8, b8⟩) (by kernel_rfl) ⟨_, _, rfl, rfl⟩ (entG2 (by omega) rfl rfl)
set_option maxHeartbeats 4000000 in
theorem p_onarrow (x : Sw) {S : Sn} [Has (SF x) (L, S) Γ] (hm : 0 ≤ S.m ∧ S.m ≤ 2) (hn : 0 ≤ S.n ∧ S.n ≤ 2) (hL : L ≤ 20000 := by omega) :
    PCalls tb Try.prog 53 [sv x] Γ (fun v Δ => ∃ a b : Qw, v = .tuple #[q2v a b, .bool true] ∧ Δ = [QG a (4 * L + 200, S.n0), QG b (4 * L + 200, S.n1)]) := by
  refine PCalls.of_W tbOk Try.func53 rfl (by kernel_rfl) ?_
  refine W.more rfl (entQ0 (L' := 0)) ?_
  refine W.sf x rfl ?_
  refine W.cl [] (by kernel_rfl) (p_xfield x) ?_
  rintro _ _ ⟨rfl, rfl⟩   -- 
  refine W.cl [] (by kernel_rfl) (p_oroot x.u x.d hm) ?_
  rintro _ _ ⟨a2, b2, rfl, rfl⟩
  refine W.cl [] (by kernel_rfl) (p_oroot x.v x.e hn) ?_
  rintro _ _ ⟨a3, b3, rfl, rfl⟩
  refine W.df [] 31 (!true) (by kernel_rfl) rfl ?_
  refine W.df [31] 34 (!true) (by kernel_rfl) rfl ?_
  refine W.cl [34] (by kernel_rfl) (p_owhole 1 (by omega) (by omega)) ?_
  rintro _ _ ⟨n4, a4, m4, b4, rfl, rfl⟩   -- (1 : Rat)
  refine W.cl [] (by kernel_rfl) (p_onmul a2 b2 a3 b3) ?_
  rintro _ _ ⟨a5, b5, rfl, rfl⟩
  refine W.unr [] 6 (by kernel_rfl) ?_
  refine W.cl [46] (by kernel_rfl) (p_xparts x) ?_
  rintro _ _ ⟨rfl, rfl⟩
  refine W.cl [] (by kernel_rfl) (p_onmul x.p nilQ ⟨n4, a4, m4, b4⟩ nilQ) ?_
  rintro _ _ ⟨a7, b7, rfl, rfl⟩
  refine W.cl [] (by kernel_rfl) (p_osum nilQ nilQ a7 b7) ?_
  rintro _ _ ⟨a8, b8, rfl, rfl⟩
  refine W.cl [46] (by kernel_rfl) (p_xparts x) ?_
  rintro _ _ ⟨rfl, rfl⟩
  refine W.cl [] (by kernel_rfl) (p_onmul x.q nilQ a2 b2) ?_
  rintro _ _ ⟨a10, b10, rfl, rfl⟩
  refine W.cl [] (by kernel_rfl) (p_osum a8 b8 a10 b10) ?_
  rintro _ _ ⟨a11, b11, rfl, rfl⟩
  refine W.cl [46] (by kernel_rfl) (p_xparts x) ?_
  rintro _ _ ⟨rfl, rfl⟩
  refine W.cl [] (by kernel_rfl) (p_onmul x.r nilQ a3 b3) ?_
  rintro _ _ ⟨a13, b13, rfl, rfl⟩
  refine W.cl [] (by kernel_rfl) (p_osum a11 b11 a13 b13) ?_
  rintro _ _ ⟨a14, b14, rfl, rfl⟩
  refine W.cl [46] (by kernel_rfl) (p_xparts x) ?_
  rintro _ _ ⟨rfl, rfl⟩
  refine W.cl [] (by kernel_rfl) (p_onmul x.s nilQ a5 b5) ?_
  rintro _ _ ⟨a16, b16, rfl, rfl⟩
  refine W.cl [] (by kernel_rfl) (p_osum a14 b14 a16 b16) ?_
  rintro _ _ ⟨a17, b17, rfl, rfl⟩
  exact W.r [46] (.tuple #[q2v a17 b17, .bool true]) (by kernel_rfl) ⟨_, _, rfl, rfl⟩ (entG2 (by omega) rfl rfl)
theorem p_onarrowF (x : Sw) {S : Sn} [Has (SF x) (L, S) Γ] (h0 : 0 ≤ S.m ∧ 0 ≤ S.n) (hmn : 2 < S.m ∨ 2 < S.n) (hL : L ≤ 20000 := by omega) :
    PCalls tb Try.prog 53 [sv x] Γ (IsV (.tuple #[q2v nilQ nilQ, .bool false])) := by
  refine PCalls.of_W tbOk Try.func53 rfl (by kernel_rfl) ?_
  refine W.sf x rfl ?_
  refine W.cl [] (by kernel_rfl) (p_xfield x) ?_
  rintro _ _ ⟨rfl, rfl⟩
  by_cases hm : 2 < S.m
  · refine W.cl [] (by kernel_rfl) (p_orootF x.u x.d hm) ?_
    rintro _ _ ⟨rfl, rfl⟩
    by_cases hn : 2 < S.n
    · refine W.cl [] (by kernel_rfl) (p_orootF x.v x.e hn) ?_
      rintro _ _ ⟨rfl, rfl⟩
      refine W.dt [] 31 (!false) (by kernel_rfl) rfl ?_
      exact W.r [34, 31] (.tuple #[q2v nilQ nilQ, .bool false]) (by kernel_rfl) ⟨rfl, rfl⟩ ent0
    · refine W.cl [] (by kernel_rfl) (p_oroot x.v x.e ⟨h0.2, by omega⟩) ?_
      rintro _ _ ⟨a3, b3, rfl, rfl⟩
      refine W.dt [] 31 (!false) (by kernel_rfl) rfl ?_
      exact W.r [34, 31] (.tuple #[q2v nilQ nilQ, .bool false]) (by kernel_rfl) ⟨rfl, rfl⟩ ent0
  · have hn : 2 < S.n := by omega
    refine W.cl [] (by kernel_rfl) (p_oroot x.u x.d ⟨h0.1, by omega⟩) ?_
    rintro _ _ ⟨a2, b2, rfl, rfl⟩
    refine W.cl [] (by kernel_rfl) (p_orootF x.v x.e hn) ?_
    rintro _ _ ⟨rfl, rfl⟩
    refine W.df [] 31 (!true) (by kernel_rfl) rfl ?_
    refine W.dt [31] 34 (!false) (by kernel_rfl) rfl ?_
    exact W.r [34] (.tuple #[q2v nilQ nilQ, .bool false]) (by kernel_rfl) ⟨rfl, rfl⟩ ent0
def FarPost (L : Nat) (X Y : Sn) (v : Value) (Δ : List Fact) : Prop := ∃ x y : Sw, v = .tuple #[plv x y, .int .i64 0] ∧ Δ = [SF x (L, X), SF y (L, Y)]
set_option maxHeartbeats 4000000 in
theorem p_ofarS (V : On) (t : Q5) (x y : Sw) {X Y : Sn} {L1 : Nat} [Has (OF t) (L1, V) Γ] [Has (SF x) (L, X) Γ] [Has (SF y) (M, Y) Γ] (ho : 0 ≤ V.o ∧ V.o ≤ 7) (em : X.m = Y.m) (en : X.n = Y.n) (hm : 0 ≤ X.m ∧ X.m ≤ 2) (hn : 0 ≤ X.n ∧ X.n ≤ 2) (hL : L ≤ 2000 ∧ M ≤ 2000 ∧ L1 ≤ 10000 := by omega) :
    PCalls tb Try.prog 20 [otv V t, plv x y] Γ (FarPost (5 * L1 + 16 * max L M + 1100) (r2 (V.u0 X.n0 X.n1 Y.n0 Y.n1) (V.u1 X.n0 X.n1 Y.n0 Y.n1)) (r2 (V.v0 X.n0 X.n1 Y.n0 Y.n1) (V.v1 X.n0 X.n1 Y.n0 Y.n1))) := by
  refine PCalls.of_W tbOk Try.func20 rfl (by kernel_rfl) ?_
  refine W.cl [] (by kernel_rfl) (p_olike x y em en) ?_
  rintro _ _ ⟨rfl, rfl⟩
  refine W.df [] 24 (!true) (by kernel_rfl) rfl ?_
  refine W.cl [24] (by kernel_rfl) (p_onarrow x hm hn) ?_
  rintro _ _ ⟨a2, b2, rfl, rfl⟩
  refine W.dt [] 32 (true) (by kernel_rfl) rfl ?_
  refine W.cl [32] (by kernel_rfl) (p_onarrow y (em ▸ hm) (en ▸ hn)) ?_
  rintro _ _ ⟨a3, b3, rfl, rfl⟩
  refine W.cl [] (by kernel_rfl) (p_olead V t a2 b2 a3 b3 ho) ?_
  rintro _ _ ⟨a4, b4, c4, d4, rfl, rfl⟩
  refine W.cl [] (by kernel_rfl) (p_otwo) ?_
  rintro _ _ ⟨u5, d5, rfl, rfl⟩   -- 
  refine W.cl [] (by kernel_rfl) (p_onumber u5 d5 ⟨none, 0, 0⟩ false a4 b4 (by omega) (by omega)) ?_
  rintro _ _ ⟨X6, rfl, rfl⟩
  refine W.cl [] (by kernel_rfl) (p_onumber u5 d5 ⟨none, 0, 0⟩ false c4 d4 (by omega) (by omega)) ?_
  rintro _ _ ⟨X7, rfl, rfl⟩
  exact W.r [] (.tuple #[plv X6 X7, .int .i64 0]) (by kernel_rfl) ⟨_, _, rfl, rfl⟩ (entPl (by omega) rfl rfl)
end
end Go.Proofs.Ytaafmafdnnjmdaa

set_option linter.unusedSimpArgs false
set_option linter.unusedVariables false
namespace Go.Proofs.Ytaafmafdnnjmdaa
open Go.RowKit Go.IntWalk

def Rn.X (U : Rn) (P Q : Sn) : Sn := ((U.A.mul P).add (U.B.mul Q)).add U.E
def Rn.Y (U : Rn) (P Q : Sn) : Sn := ((U.C.mul P).add (U.D.mul Q)).add U.F
section
variable {fin : VS → List Fact → Prop} {Γ : List Fact} {L M K : Nat}
theorem p_ofarE (V : On) (t : Q5) (x y : Sw) {X Y X' Y' : Sn} {L1 : Nat} [Has (OF t) (L1, V) Γ] [Has (SF x) (L, X) Γ] [Has (SF y) (M, Y) Γ] (ho : 0 ≤ V.o ∧ V.o ≤ 7) (em : X.m = Y.m) (en : X.n = Y.n) (hm : 0 ≤ X.m ∧ X.m ≤ 2) (hn : 0 ≤ X.n ∧ X.n ≤ 2)
    (hX : r2 (V.u0 X.n0 X.n1 Y.n0 Y.n1) (V.u1 X.n0 X.n1 Y.n0 Y.n1) = X') (hY : r2 (V.v0 X.n0 X.n1 Y.n0 Y.n1) (V.v1 X.n0 X.n1 Y.n0 Y.n1) = Y') (hL : L ≤ 2000 ∧ M ≤ 2000 ∧ L1 ≤ 10000 := by omega) :
    PCalls tb Try.prog 20 [otv V t, plv x y] Γ (FarPost (5 * L1 + 16 * max L M + 1100) X' Y') := by
  subst hX hY
  exact p_ofarS V t x y ho em en hm hn hL
theorem entEF (x : R6) {U : Rn} {X Y : Sn} [h : Has (RT x) (L, U) Γ] (hX : U.E = X) (hY : U.F = Y) : ∀ (I : Blk) (w : World), DataOK tb I w → Holds Γ I w → Holds [TF x.E (L, X), TF x.F (L, Y)] I w := fun I w _ hh => by
  subst hX hY
  obtain ⟨g1, g2, g3, g4, g5, g6⟩ := h.p hh
  exact Holds.cons g5 (holds1 g6)
end
theorem sin8 : ∀ n : _root_.Fin 8, pc (((n : Int) - 2) % 8) = ps n ∧ pcr (((n : Int) - 2) % 8) = psr n ∧ (n : Int) % 8 = n := by decide +kernel
theorem r2_mul (x y z w : Rat) : (r2 x y).mul (r2 z w) = r2 (x * z + 2 * (y * w)) (x * w + y * z) := by
  have c2 : ((2 : Int) : Rat) = 2 := rfl
  have c0 : ((0 : Int) : Rat) = 0 := rfl
  unfold r2 Sn.mul
  simp only [c2, c0]
  refine Sn.ext' rfl rfl ?_ ?_ ?_ ?_ <;> simp only <;> grind
theorem r2_add (x y z w : Rat) : (r2 x y).add (r2 z w) = r2 (x + z) (y + w) := by
  unfold r2 Sn.add
  refine Sn.ext' rfl rfl ?_ ?_ ?_ ?_ <;> simp only <;> grind
theorem r2_neg (x y : Rat) : (r2 x y).neg = r2 (-x) (-y) := by
  unfold r2 Sn.neg
  refine Sn.ext' rfl rfl ?_ ?_ ?_ ?_ <;> simp only <;> grind
/-- The reference's turn does what the program's does. -/
theorem mkRn_at (f : Bool) (o : Int) (m x y : Rat) (ho : 0 ≤ o ∧ o ≤ 7) (hm : 0 < m.num.sign) (p q r s : Rat) :
    (mkRn f m o x y).X (r2 p q) (r2 r s) = r2 ((⟨f, o, m, x, 0, y, 0⟩ : On).u0 p q r s) ((⟨f, o, m, x, 0, y, 0⟩ : On).u1 p q r s) ∧
    (mkRn f m o x y).Y (r2 p q) (r2 r s) = r2 ((⟨f, o, m, x, 0, y, 0⟩ : On).v0 p q r s) ((⟨f, o, m, x, 0, y, 0⟩ : On).v1 p q r s) := by
  have hmag : (⟨f, o, m, x, 0, y, 0⟩ : On).mag = m := by
    show (if m.num.sign = 0 then 1 else m) = m
    rw [if_neg (by omega)]
  have hsg : ∀ z, (⟨f, o, m, x, 0, y, 0⟩ : On).sg z = if f then -z else z := fun z => rfl
  have hc : c8 o = r2 (pc o) (Rat.divInt (pcr o) 2) ∧ c8 (o - 2) = r2 (ps o) (Rat.divInt (psr o) 2) := by
    obtain ⟨n, hn⟩ := fin8 ho
    obtain ⟨g1, g2, g3⟩ := sin8 n
    unfold c8
    rw [hn, g1, g2, g3]
    exact ⟨rfl, rfl⟩
  unfold mkRn Rn.X Rn.Y On.u0 On.u1 On.v0 On.v1 tm1 tm2
  rw [hmag, hc.1, hc.2, divInt_half (pcr o), divInt_half (psr o)]
  have hh : 2 * Rat.divInt 1 2 = 1 := by decide +kernel
  generalize Rat.divInt 1 2 = H at *
  simp only [hsg]
  cases f
  · simp only [Bool.false_eq_true, if_false, reduceIte, r2_mul, r2_add, r2_neg]
    exact ⟨r2_ext (by grind) (by grind), r2_ext (by grind) (by grind)⟩
  · simp only [if_true, reduceIte, r2_mul, r2_add, r2_neg]
    exact ⟨r2_ext (by grind) (by grind), r2_ext (by grind) (by grind)⟩
end Go.Proofs.Ytaafmafdnnjmdaa
