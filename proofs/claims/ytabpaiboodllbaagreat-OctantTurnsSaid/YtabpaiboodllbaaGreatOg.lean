
/- Turns one behind the other: plain laws. -/
import Derived.Test.YtabpaiboodllbaaGreatOf
set_option linter.unusedSimpArgs false
set_option linter.unusedVariables false
namespace Go.Proofs.YtabpaiboodllbaaGreat
open Go.RowKit Go.IntWalk

theorem ang_f : ∀ n m : _root_.Fin 8,
    2 * pc (((n : Int) + m) % 8) = 2 * pc n * pc m + pcr n * pcr m - 2 * ps n * ps m - psr n * psr m ∧ pcr (((n : Int) + m) % 8) = pc n * pcr m + pcr n * pc m - ps n * psr m - psr n * ps m ∧
    2 * ps (((n : Int) + m) % 8) = 2 * ps n * pc m + psr n * pcr m + 2 * pc n * ps m + pcr n * psr m ∧ psr (((n : Int) + m) % 8) = ps n * pcr m + psr n * pc m + pc n * psr m + pcr n * ps m := by decide +kernel
theorem ang_t : ∀ n m : _root_.Fin 8,
    2 * pc ((-(n : Int) + m) % 8) = 2 * pc n * pc m + pcr n * pcr m + 2 * ps n * ps m + psr n * psr m ∧ pcr ((-(n : Int) + m) % 8) = pc n * pcr m + pcr n * pc m + ps n * psr m + psr n * ps m ∧
    2 * ps ((-(n : Int) + m) % 8) = -2 * ps n * pc m - psr n * pcr m + 2 * pc n * ps m + pcr n * psr m ∧ psr ((-(n : Int) + m) % 8) = -ps n * pcr m - psr n * pc m + pc n * psr m + pcr n * ps m := by decide +kernel

theorem On.mag_ne (V : On) : V.mag ≠ 0 := by
  unfold On.mag
  split
  · decide +kernel
  · rename_i h
    exact fun e => h (by rw [e]; rfl)
theorem On.then_mag (V U : On) : (V.then U).mag = V.mag * U.mag := by
  have h1 := V.mag_ne
  have h2 := U.mag_ne
  have h3 : V.mag * U.mag ≠ 0 := fun e => by rcases Rat.mul_eq_zero.1 e with h | h <;> contradiction
  unfold On.mag
  rw [show (V.then U).g = V.mag * U.mag from rfl]
  rw [if_neg (fun h => h3 (sign_eq0.1 h))]
  rfl

/-- What a turn does to a point, by four numbers. -/
structure P4 where
  x : Rat
  y : Rat
  z : Rat
  w : Rat
def On.ap (V : On) (p : P4) : P4 := ⟨V.u0 p.x p.y p.z p.w, V.u1 p.x p.y p.z p.w, V.v0 p.x p.y p.z p.w, V.v1 p.x p.y p.z p.w⟩
def ang (f : Bool) (M a b c d x y z w u v s t : Rat) : P4 :=
  ⟨(x * M) * a + (y * M) * c - ((if f then -z else z) * M * b + (if f then -w else w) * M * d) + u,
   (y * M) * a + (x * M) * (c * Rat.divInt 1 2) - ((if f then -w else w) * M * b + (if f then -z else z) * M * (d * Rat.divInt 1 2)) + v,
   (x * M) * b + (y * M) * d + ((if f then -z else z) * M * a + (if f then -w else w) * M * c) + s,
   (y * M) * b + (x * M) * (d * Rat.divInt 1 2) + ((if f then -w else w) * M * a + (if f then -z else z) * M * (c * Rat.divInt 1 2)) + t⟩
theorem divInt_half (d : Int) : Rat.divInt d 2 = (d : Rat) * Rat.divInt 1 2 := by
  rw [← q_divInt1, Rat.divInt_mul_divInt]
  simp
theorem On.ap_ang (V : On) (p : P4) : V.ap p = ang V.f V.mag (pc V.o) (ps V.o) (pcr V.o) (psr V.o) p.x p.y p.z p.w V.a V.b V.c V.d := by
  unfold On.ap ang On.u0 On.u1 On.v0 On.v1 tm1 tm2 On.sg
  rw [divInt_half (pcr V.o), divInt_half (psr V.o)]
  simp only [P4.mk.injEq]
  refine ⟨?_, ?_, ?_, ?_⟩ <;> first | trivial | (split <;> grind)
theorem P4.ext' {p q : P4} (h1 : p.x = q.x) (h2 : p.y = q.y) (h3 : p.z = q.z) (h4 : p.w = q.w) : p = q := by
  cases p; cases q; simp_all
theorem ang_ang {f g fg : Bool} (hk : fg = !(f == g)) {M N a b c d a' b' c' d' A B C D x y z w u v s t u' v' s' t' : Rat}
    (e : if g then 2 * A = 2 * a * a' + c * c' + 2 * b * b' + d * d' ∧ C = a * c' + c * a' + b * d' + d * b' ∧ 2 * B = -2 * b * a' - d * c' + 2 * a * b' + c * d' ∧ D = -b * c' - d * a' + a * d' + c * b'
      else 2 * A = 2 * a * a' + c * c' - 2 * b * b' - d * d' ∧ C = a * c' + c * a' - b * d' - d * b' ∧ 2 * B = 2 * b * a' + d * c' + 2 * a * b' + c * d' ∧ D = b * c' + d * a' + a * d' + c * b') :
    ang g N a' b' c' d' (ang f M a b c d x y z w u v s t).x (ang f M a b c d x y z w u v s t).y (ang f M a b c d x y z w u v s t).z (ang f M a b c d x y z w u v s t).w u' v' s' t' =
    ang fg (M * N) A B C D x y z w (ang g N a' b' c' d' u v s t u' v' s' t').x (ang g N a' b' c' d' u v s t u' v' s' t').y (ang g N a' b' c' d' u v s t u' v' s' t').z (ang g N a' b' c' d' u v s t u' v' s' t').w := by
  have hh : Rat.divInt 1 2 + Rat.divInt 1 2 = 1 := by decide +kernel
  unfold ang
  generalize Rat.divInt 1 2 = H at *
  have k : ∀ r : Rat, 2 * r * H = r := fun r => by grind
  cases g <;> simp only [Bool.false_eq_true, if_false, if_true, reduceIte] at e <;> obtain ⟨e1, e2, e3, e4⟩ := e
  · have e1' : A = a * a' + c * c' * H - b * b' - d * d' * H := by
      have := k A
      have := k (a * a')
      have := k (b * b')
      grind
    have e3' : B = b * a' + d * c' * H + a * b' + c * d' * H := by
      have := k B
      have := k (b * a')
      have := k (a * b')
      grind
    clear e1 e3 k hh
    subst e1' e2 e3' e4
    cases f
    · obtain rfl : fg = false := hk
      simp only [Bool.false_eq_true, if_false, if_true, reduceIte, P4.mk.injEq]
      refine ⟨?_, ?_, ?_, ?_⟩ <;> grind
    · obtain rfl : fg = true := hk
      simp only [Bool.false_eq_true, if_false, if_true, reduceIte, P4.mk.injEq]
      refine ⟨?_, ?_, ?_, ?_⟩ <;> grind
  · have e1' : A = a * a' + c * c' * H + b * b' + d * d' * H := by
      have := k A
      have := k (a * a')
      have := k (b * b')
      grind
    have e3' : B = -b * a' - d * c' * H + a * b' + c * d' * H := by
      have := k B
      have := k (b * a')
      have := k (a * b')
      grind
    clear e1 e3 k hh
    subst e1' e2 e3' e4
    cases f
    · obtain rfl : fg = true := hk
      simp only [Bool.false_eq_true, if_false, if_true, reduceIte, P4.mk.injEq]
      refine ⟨?_, ?_, ?_, ?_⟩ <;> grind
    · obtain rfl : fg = false := hk
      simp only [Bool.false_eq_true, if_false, if_true, reduceIte, P4.mk.injEq]
      refine ⟨?_, ?_, ?_, ?_⟩ <;> grind
/-- One behind the other: what the one does to what the other did. -/
theorem On.then_ap (V U : On) (hV : 0 ≤ V.o ∧ V.o ≤ 7) (hU : 0 ≤ U.o ∧ U.o ≤ 7) (p : P4) : (V.then U).ap p = U.ap (V.ap p) := by
  rw [(V.then U).ap_ang, U.ap_ang, V.ap_ang, On.then_mag]
  rw [ang_ang (fg := (V.then U).f) rfl (A := pc (V.then U).o) (B := ps (V.then U).o) (C := pcr (V.then U).o) (D := psr (V.then U).o)]
  · have e : ∀ q : P4, U.ap ⟨V.a, V.b, V.c, V.d⟩ = q → (V.then U).a = q.x ∧ (V.then U).b = q.y ∧ (V.then U).c = q.z ∧ (V.then U).d = q.w := by
      rintro q rfl
      exact ⟨rfl, rfl, rfl, rfl⟩
    obtain ⟨e1, e2, e3, e4⟩ := e _ (U.ap_ang _)
    rw [e1, e2, e3, e4]
  · obtain ⟨n, hn⟩ := fin8 hV
    obtain ⟨m, hm⟩ := fin8 hU
    have cast : ∀ {a b : Int}, a = b → (a : Rat) = (b : Rat) := fun h => by rw [h]
    have c2 : ((2 : Int) : Rat) = 2 := rfl
    have cm2 : ((-2 : Int) : Rat) = -2 := rfl
    cases hf : U.f with
    | false =>
      obtain ⟨g1, g2, g3, g4⟩ := ang_f n m
      simp only [Bool.false_eq_true, if_false, reduceIte]
      rw [show (V.then U).o = ((n : Int) + m) % 8 by unfold On.then; simp only [hf, Bool.false_eq_true, if_false, reduceIte]; rw [hn, hm], hn, hm]
      have g1 := cast g1
      have g2 := cast g2
      have g3 := cast g3
      have g4 := cast g4
      simp only [Rat.intCast_add, Rat.intCast_mul, Rat.intCast_sub, Rat.intCast_neg, c2] at g1 g2 g3 g4
      exact ⟨g1, g2, g3, g4⟩
    | true =>
      obtain ⟨g1, g2, g3, g4⟩ := ang_t n m
      simp only [if_true, reduceIte]
      rw [show (V.then U).o = (-(n : Int) + m) % 8 by unfold On.then; simp only [hf, if_true, reduceIte]; rw [hn, hm], hn, hm]
      have g1 := cast g1
      have g2 := cast g2
      have g3 := cast g3
      have g4 := cast g4
      simp only [Rat.intCast_add, Rat.intCast_mul, Rat.intCast_sub, Rat.intCast_neg, c2, cm2] at g1 g2 g3 g4
      exact ⟨g1, g2, g3, g4⟩
theorem On.assoc_ap (V U Z : On) (hV : 0 ≤ V.o ∧ V.o ≤ 7) (hU : 0 ≤ U.o ∧ U.o ≤ 7) (hZ : 0 ≤ Z.o ∧ Z.o ≤ 7) (p : P4) : ((V.then U).then Z).ap p = (V.then (U.then Z)).ap p := by
  rw [On.then_ap _ _ (On.then_o V U) hZ, On.then_ap _ _ hV hU, On.then_ap _ _ hV (On.then_o U Z), On.then_ap _ _ hU hZ]
end Go.Proofs.YtabpaiboodllbaaGreat
