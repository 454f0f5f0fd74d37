
/- Where places of other fields come to: the plain law. -/
import Derived.Test.YtabpaiboodllbaaGreatFo
set_option linter.unusedSimpArgs false
set_option linter.unusedVariables false
namespace Go.Proofs.YtabpaiboodllbaaGreat
open Go.RowKit Go.IntWalk

def Eqv (f g : Nat → Rat) : Prop := Nul (fun k => f k - g k)
theorem Eqv.of {f g : Nat → Rat} (h : ∀ k, f k = g k) : Eqv f g := Nul.of_eq (fun k => by rw [h k]; grind)
theorem Eqv.symm {f g : Nat → Rat} (h : Eqv f g) : Eqv g f := (Nul.neg h).congr (fun k => by grind)
theorem Eqv.trans {f g e : Nat → Rat} (h : Eqv f g) (h' : Eqv g e) : Eqv f e := (Nul.add h h').congr (fun k => by grind)
theorem Eqv.add {f g p q : Nat → Rat} (h : Eqv f g) (h' : Eqv p q) : Eqv (fun k => f k + p k) (fun k => g k + q k) := (Nul.add h h').congr (fun k => by grind)
theorem Eqv.mul {f g p q : Nat → Rat} (h : Eqv f g) (h' : Eqv p q) (bp : Bdd p) (bg : Bdd g) : Eqv (fun k => f k * p k) (fun k => g k * q k) :=
  (Nul.add (Nul.mul h bp) (Nul.mul h' bg)).congr (fun k => by grind)
theorem Eqv.bdd {m n : Int} {c : Rat} {g : Nat → Rat} (h : Eqv (Sn.v ⟨m, n, c, 0, 0, 0⟩) g) (hm : 0 ≤ m) (hn : 0 ≤ n) : Bdd (Sn.v ⟨m, n, c, 0, 0, 0⟩) := Sn.v_bdd ⟨m, n, c, 0, 0, 0⟩ hm hn
theorem v_mul (S T : Sn) (hm : 0 ≤ S.m) (hn : 0 ≤ S.n) (em : T.m = S.m) (en : T.n = S.n) : Eqv (S.mul T).v (fun k => S.v k * T.v k) := by
  have n1 := (apx_nul hm).mul (((Bdd.const (-(S.q * T.q))).add ((Bdd.const (-(S.q * T.s + S.s * T.q))).mul (apx_bdd hn))).add ((Bdd.const (-(S.s * T.s))).mul ((apx_bdd hn).mul (apx_bdd hn))))
  have n2 := (apx_nul hn).mul ((Bdd.const (-(S.r * T.r + S.m * (S.s * T.s)))).add ((Bdd.const (-(S.r * T.s + S.s * T.r))).mul (apx_bdd hm)))
  exact (n1.add n2).congr (fun k => by simp only [Sn.v, v1, Sn.mul, em, en]; grind)
theorem v_add (S T : Sn) (em : T.m = S.m) (en : T.n = S.n) : Eqv (S.add T).v (fun k => S.v k + T.v k) :=
  Eqv.of (fun k => by simp only [Sn.v, v1, Sn.add, em, en]; grind)
theorem lessq_congr {S T : Sn} (hm : 0 ≤ S.m) (hn : 0 ≤ S.n) (hm' : 0 ≤ T.m) (hn' : 0 ≤ T.n) (h : Eqv S.v T.v) (q : Int) : (S.lessq q).sg = (T.lessq q).sg :=
  (sig2 (S.lessq q) hm hn).unique ((sig2 (T.lessq q) hm' hn').congr (h.congr (fun k => by rw [Sn.lessq_v, Sn.lessq_v]; grind)))
theorem fl_congr {S T : Sn} (hm : 0 ≤ S.m) (hn : 0 ≤ S.n) (hm' : 0 ≤ T.m) (hn' : 0 ≤ T.n) (h : Eqv S.v T.v) : S.fl = T.fl := by
  obtain ⟨g1, g2⟩ := T.fl_spec hm' hn'
  exact S.fl_unique hm hn (by rw [lessq_congr hm hn hm' hn' h]; exact g1) (by rw [lessq_congr hm hn hm' hn' h]; exact g2)
theorem nr_congr {S T : Sn} (hm : 0 ≤ S.m) (hn : 0 ≤ S.n) (hm' : 0 ≤ T.m) (hn' : 0 ≤ T.n) (h : Eqv S.v T.v) : S.nr = T.nr := by
  have hh : Eqv S.half.v T.half.v := h.congr (fun k => by simp only [Sn.half, Sn.up, Sn.v, v1]; grind)
  have e1 := fl_congr (S := S.half) (T := T.half) hm hn hm' hn' hh
  unfold Sn.nr
  rw [e1, lessq_congr (S := S.half) (T := T.half) hm hn hm' hn' hh]

theorem int3 {m : Int} (h : 0 ≤ m ∧ m ≤ 2) : m = 0 ∨ m = 1 ∨ m = 2 := by omega
theorem apx_1 (k : Nat) : apx 1 k = 1 := apx_one k
/-- A number whose radicands are small, by parts of 1 and root 2. -/
theorem n_eqv (X : Sn) (hm : 0 ≤ X.m ∧ X.m ≤ 2) (hn : 0 ≤ X.n ∧ X.n ≤ 2) : Eqv X.v (r2 X.n0 X.n1).v := by
  have h2 := (apx_nul (m := 2) (by decide)).mul (Bdd.const X.s)
  have c0 : ((0 : Int) : Rat) = 0 := rfl
  have c1 : ((1 : Int) : Rat) = 1 := rfl
  have c2 : ((2 : Int) : Rat) = 2 := rfl
  obtain ⟨m, n, p, q, r, s⟩ := X
  simp only at hm hn h2
  have key : ∀ k, (r2 (Sn.n0 ⟨m, n, p, q, r, s⟩) (Sn.n1 ⟨m, n, p, q, r, s⟩)).v k = Sn.n0 ⟨m, n, p, q, r, s⟩ + Sn.n1 ⟨m, n, p, q, r, s⟩ * apx 2 k := fun k => by
    simp only [Sn.v, v1, r2]
    grind
  have e0 : (apx 0) = fun _ => 0 := funext apx_zero
  have e1 : (apx 1) = fun _ => 1 := funext apx_one
  rcases int3 hm with rfl | rfl | rfl <;> rcases int3 hn with rfl | rfl | rfl
  · exact Eqv.of (fun k => by rw [key k]; simp only [Sn.v, v1, Sn.n0, Sn.n1, nm0, nm1, rt0, rt1, e0, e1]; simp <;> grind)
  · exact Eqv.of (fun k => by rw [key k]; simp only [Sn.v, v1, Sn.n0, Sn.n1, nm0, nm1, rt0, rt1, e0, e1]; simp <;> grind)
  · exact Eqv.of (fun k => by rw [key k]; simp only [Sn.v, v1, Sn.n0, Sn.n1, nm0, nm1, rt0, rt1, e0, e1]; simp <;> grind)
  · exact Eqv.of (fun k => by rw [key k]; simp only [Sn.v, v1, Sn.n0, Sn.n1, nm0, nm1, rt0, rt1, e0, e1]; simp <;> grind)
  · exact Eqv.of (fun k => by rw [key k]; simp only [Sn.v, v1, Sn.n0, Sn.n1, nm0, nm1, rt0, rt1, e0, e1]; simp <;> grind)
  · exact Eqv.of (fun k => by rw [key k]; simp only [Sn.v, v1, Sn.n0, Sn.n1, nm0, nm1, rt0, rt1, e0, e1]; simp <;> grind)
  · exact Eqv.of (fun k => by rw [key k]; simp only [Sn.v, v1, Sn.n0, Sn.n1, nm0, nm1, rt0, rt1, e0, e1]; simp <;> grind)
  · exact Eqv.of (fun k => by rw [key k]; simp only [Sn.v, v1, Sn.n0, Sn.n1, nm0, nm1, rt0, rt1, e0, e1]; simp <;> grind)
  · exact h2.congr (fun k => by rw [key k]; simp only [Sn.v, v1, Sn.n0, Sn.n1, nm0, nm1, rt0, rt1, e0, e1]; simp <;> grind)

theorem Sn.mul_scale (S : Sn) (c : Rat) : S.mul ⟨S.m, S.n, c, 0, 0, 0⟩ = ⟨S.m, S.n, S.p * c, S.q * c, S.r * c, S.s * c⟩ := by
  refine Sn.ext' rfl rfl ?_ ?_ ?_ ?_ <;> simp only [Sn.mul] <;> grind
def sq (X Y : Sn) : Sn := (X.mul X).add (Y.mul Y)
theorem sq_comm {X Y : Sn} (em : Y.m = X.m) (en : Y.n = X.n) : sq X Y = sq Y X := by
  unfold sq
  refine Sn.ext' em.symm en.symm ?_ ?_ ?_ ?_ <;> simp only [Sn.add] <;> grind
theorem neg_sq (X : Sn) : X.neg.mul X.neg = X.mul X := by
  refine Sn.ext' rfl rfl ?_ ?_ ?_ ?_ <;> simp only [Sn.mul, Sn.neg] <;> grind
theorem rot_mn : ∀ (k : Nat) {m n : Int} {X Y : Sn}, X.m = m → X.n = n → Y.m = m → Y.n = n → (rot k X Y).1.m = m ∧ (rot k X Y).1.n = n ∧ (rot k X Y).2.m = m ∧ (rot k X Y).2.n = n
  | 0, _, _, _, _, h1, h2, h3, h4 => ⟨h1, h2, h3, h4⟩
  | k + 1, _, _, X, Y, h1, h2, h3, h4 => rot_mn k (X := Y.neg) (Y := X) h3 h4 h1 h2
theorem rot_sq : ∀ (k : Nat) {X Y : Sn} (em : Y.m = X.m) (en : Y.n = X.n), sq (rot k X Y).1 (rot k X Y).2 = sq X Y
  | 0, _, _, _, _ => rfl
  | k + 1, X, Y, em, en => by
    have h1 := rot_sq k (X := Y.neg) (Y := X) em.symm en.symm
    have h2 : sq Y.neg X = sq Y X := by unfold sq; rw [neg_sq]
    exact h1.trans (h2.trans (sq_comm em en).symm)
theorem sq_scale {X Y : Sn} (em : Y.m = X.m) (en : Y.n = X.n) (c : Rat) : sq (X.mul ⟨X.m, X.n, c, 0, 0, 0⟩) (Y.mul ⟨X.m, X.n, c, 0, 0, 0⟩) = (sq X Y).mul ⟨X.m, X.n, c * c, 0, 0, 0⟩ := by
  rw [show (⟨X.m, X.n, c, 0, 0, 0⟩ : Sn) = ⟨Y.m, Y.n, c, 0, 0, 0⟩ by rw [em, en], Sn.mul_scale Y, show (⟨Y.m, Y.n, c, 0, 0, 0⟩ : Sn) = ⟨X.m, X.n, c, 0, 0, 0⟩ by rw [em, en], Sn.mul_scale X]
  unfold sq
  rw [show (⟨X.m, X.n, c * c, 0, 0, 0⟩ : Sn) = ⟨((X.mul X).add (Y.mul Y)).m, ((X.mul X).add (Y.mul Y)).n, c * c, 0, 0, 0⟩ from rfl, Sn.mul_scale]
  refine Sn.ext' rfl rfl ?_ ?_ ?_ ?_ <;> simp only [Sn.mul, Sn.add, em, en] <;> grind
theorem On.farP_mn (V : On) {X Y : Sn} (em : Y.m = X.m) (en : Y.n = X.n) : (V.farP X Y).1.m = X.m ∧ (V.farP X Y).1.n = X.n ∧ (V.farP X Y).2.m = X.m ∧ (V.farP X Y).2.n = X.n := by
  unfold On.farP
  refine rot_mn _ rfl rfl ?_ ?_ <;> split <;> first | exact em | exact en
theorem On.farP_sq (V : On) {X Y : Sn} (em : Y.m = X.m) (en : Y.n = X.n) : sq (V.farP X Y).1 (V.farP X Y).2 = (sq X Y).mul ⟨X.m, X.n, V.mag * V.mag, 0, 0, 0⟩ := by
  unfold On.farP
  rw [rot_sq _ (by split <;> exact em) (by split <;> exact en), ← sq_scale em en]
  split
  · unfold sq
    rw [neg_sq]
  · rfl
theorem add_back (S : Sn) (m n : Int) (a b c : Rat) (h : a + c = 0) (hb : b = 0) : (S.add ⟨m, n, a, b, 0, 0⟩).add ⟨m, n, c, 0, 0, 0⟩ = S := by
  subst hb
  refine Sn.ext' rfl rfl ?_ ?_ ?_ ?_ <;> simp only [Sn.add] <;> grind
/-- Where a far place is as far off as it was, a mag apart. -/
theorem far_big (V : On) {X Y : Sn} (em : Y.m = X.m) (en : Y.n = X.n) (hb : V.b = 0) (hd : V.d = 0) :
    (V.farX X Y).add ⟨X.m, X.n, -V.a, 0, 0, 0⟩ = (V.farP X Y).1 ∧ (V.farY X Y).add ⟨X.m, X.n, -V.c, 0, 0, 0⟩ = (V.farP X Y).2 :=
  ⟨add_back _ _ _ _ _ _ (by grind) hb, add_back _ _ _ _ _ _ (by grind) hd⟩
theorem eight {o : Int} (h : 0 ≤ o ∧ o ≤ 7) : o = 0 ∨ o = 1 ∨ o = 2 ∨ o = 3 ∨ o = 4 ∨ o = 5 ∨ o = 6 ∨ o = 7 := by omega
theorem cs8 {o : Int} (h : 0 ≤ o ∧ o ≤ 7) : ∃ c s e f : Rat, ((pc o : Int) : Rat) = c ∧ ((ps o : Int) : Rat) = s ∧ ((pcr o : Int) : Rat) = e ∧ ((psr o : Int) : Rat) = f ∧
    ((c * c + s * s = 1 ∧ e = 0 ∧ f = 0) ∨ (c = 0 ∧ s = 0 ∧ e * e = 1 ∧ f * f = 1)) := by
  refine ⟨_, _, _, _, rfl, rfl, rfl, rfl, ?_⟩
  rcases eight h with rfl | rfl | rfl | rfl | rfl | rfl | rfl | rfl <;> first | (left; decide +kernel) | (right; decide +kernel)
/-- The same for a place whose field is small. -/
theorem far_small (V : On) (ho : 0 ≤ V.o ∧ V.o ≤ 7) (hb : V.b = 0) (hd : V.d = 0) (p q r s : Rat) :
    sq ((r2 (V.u0 p q r s) (V.u1 p q r s)).add ⟨2, 0, -V.a, 0, 0, 0⟩) ((r2 (V.v0 p q r s) (V.v1 p q r s)).add ⟨2, 0, -V.c, 0, 0, 0⟩) = (sq (r2 p q) (r2 r s)).mul (r2 (V.mag * V.mag) 0) := by
  obtain ⟨c, n, e, f, h1, h2, h3, h4, hh⟩ := cs8 ho
  have hsg : ∀ z, V.sg z = if V.f then -z else z := fun z => rfl
  have hH : 2 * Rat.divInt 1 2 = 1 := by decide +kernel
  rw [show (⟨2, 0, -V.a, 0, 0, 0⟩ : Sn) = r2 (-V.a) 0 from rfl, show (⟨2, 0, -V.c, 0, 0, 0⟩ : Sn) = r2 (-V.c) 0 from rfl]
  unfold sq On.u0 On.u1 On.v0 On.v1 tm1 tm2
  rw [hb, hd, divInt_half (pcr V.o), divInt_half (psr V.o), h1, h2, h3, h4]
  generalize V.mag = g
  generalize Rat.divInt 1 2 = H at *
  simp only [hsg, r2_mul, r2_add]
  rcases hh with ⟨h5, rfl, rfl⟩ | ⟨rfl, rfl, h5, h6⟩
  · cases V.f
    · simp only [Bool.false_eq_true, if_false, reduceIte]
      exact r2_ext (by grind) (by grind)
    · simp only [if_true, reduceIte]
      exact r2_ext (by grind) (by grind)
  · cases V.f
    · simp only [Bool.false_eq_true, if_false, reduceIte]
      exact r2_ext (by grind) (by grind)
    · simp only [if_true, reduceIte]
      exact r2_ext (by grind) (by grind)
theorem lift_v (m n : Int) (c : Rat) : Eqv (Sn.v ⟨m, n, c, 0, 0, 0⟩) (fun _ => c) := Eqv.of (fun k => by simp only [Sn.v, v1]; grind)
theorem sq_eqv {X Y : Sn} (hm : 0 ≤ X.m) (hn : 0 ≤ X.n) (em : Y.m = X.m) (en : Y.n = X.n) : Eqv (sq X Y).v (fun k => X.v k * X.v k + Y.v k * Y.v k) := by
  have h1 := v_mul X X hm hn rfl rfl
  have h2 := v_mul Y Y (by omega) (by omega) rfl rfl
  exact (v_add (X.mul X) (Y.mul Y) em en).trans (Eqv.add h1 h2)
theorem Bdd.of_v {X : Sn} (hm : 0 ≤ X.m) (hn : 0 ≤ X.n) : Bdd X.v := X.v_bdd hm hn
theorem far_was {X Y : Sn} (hm : 0 ≤ X.m ∧ X.m ≤ 2) (hn : 0 ≤ X.n ∧ X.n ≤ 2) (em : Y.m = X.m) (en : Y.n = X.n) (g : Rat) :
    Eqv ((sq (r2 X.n0 X.n1) (r2 Y.n0 Y.n1)).mul (r2 g 0)).v ((sq X Y).mul ⟨X.m, X.n, g, 0, 0, 0⟩).v := by
  have ex := n_eqv X hm hn
  have ey := n_eqv Y (by omega) (by omega)
  have bx := X.v_bdd hm.1 hn.1
  have by' := Y.v_bdd (by omega) (by omega)
  have z2 : (0 : Int) ≤ 2 := by decide
  have z0 : (0 : Int) ≤ 0 := by decide
  have bnx := (r2 X.n0 X.n1).v_bdd z2 z0
  have bny := (r2 Y.n0 Y.n1).v_bdd z2 z0
  have h1 := (v_mul (sq X Y) ⟨X.m, X.n, g, 0, 0, 0⟩ hm.1 hn.1 rfl rfl).trans (Eqv.mul (sq_eqv hm.1 hn.1 em en) (lift_v _ _ g) ((lift_v X.m X.n g).bdd hm.1 hn.1) ((bx.mul bx).add (by'.mul by')))
  have h2 := (v_mul (sq (r2 X.n0 X.n1) (r2 Y.n0 Y.n1)) (r2 g 0) z2 z0 rfl rfl).trans (Eqv.mul (sq_eqv (X := r2 X.n0 X.n1) (Y := r2 Y.n0 Y.n1) z2 z0 rfl rfl) (lift_v 2 0 g) ((lift_v 2 0 g).bdd z2 z0) ((bnx.mul bnx).add (bny.mul bny)))
  refine h2.trans (Eqv.trans ?_ h1.symm)
  refine Eqv.mul (Eqv.add (Eqv.mul ex.symm ex.symm bnx bx) (Eqv.mul ey.symm ey.symm bny by')) (Eqv.of (fun _ => rfl)) (Bdd.const g) ((bx.mul bx).add (by'.mul by'))
theorem md.bq {a d b : Nat} {x : Rat} (h : md a d x) (hb : a + d + 1 ≤ b) : bq b x := by
  have h1 := rat_den x
  have hd : (0 : Rat) < ((x.den : Int) : Rat) := by exact_mod_cast (show (0 : Int) < x.den by have := x.den_pos; omega)
  have hD : ((x.den : Int) : Rat) ≤ tw d := nat_le_rat h.2.2
  have hl : ∀ n : Nat, n ≤ 2 ^ (a + d) → n < 2 ^ b := fun n hn => Nat.lt_of_lt_of_le (Nat.lt_of_le_of_lt hn (Nat.pow_lt_pow_right (by decide) (Nat.lt_succ_self _))) (pow_mono2 hb)
  have ta := tw_pos a
  have td := tw_pos d
  have p1 := Rat.mul_nonneg (show 0 ≤ tw a - x by have := h.2.1; grind) (Rat.le_of_lt hd)
  have p2 := Rat.mul_nonneg (show 0 ≤ tw a + x by have := h.1; grind) (Rat.le_of_lt hd)
  have p3 := Rat.mul_nonneg (Rat.le_of_lt ta) (show 0 ≤ tw d - ((x.den : Int) : Rat) by grind)
  have e := tw_add a d
  have g1 : ((x.num : Int) : Rat) ≤ ((((2 ^ (a + d) : Nat) : Int)) : Rat) := by
    show _ ≤ tw (a + d)
    grind
  have g2 : ((-x.num : Int) : Rat) ≤ ((((2 ^ (a + d) : Nat) : Int)) : Rat) := by
    show _ ≤ tw (a + d)
    rw [Rat.intCast_neg]
    grind
  refine ⟨hl _ ?_, hl _ (Nat.le_trans h.2.2 (pow_mono2 (Nat.le_add_left _ _)))⟩
  have g1 := Rat.intCast_le_intCast.1 g1
  have g2 := Rat.intCast_le_intCast.1 g2
  omega
theorem md.two : md 1 0 2 := md.int (a := 1) (z := 2) (by decide)
theorem rt_md {n : Int} (h : 0 ≤ n ∧ n ≤ 2) : md 1 0 (rt0 n) ∧ md 1 0 (rt1 n) := by
  rcases int3 h with rfl | rfl | rfl
  · exact ⟨md.zero 1 0, md.zero 1 0⟩
  · exact ⟨(md.int (a := 0) (z := 1) (by decide)).mono (by decide) (by decide), md.zero 1 0⟩
  · exact ⟨md.zero 1 0, (md.int (a := 0) (z := 1) (by decide)).mono (by decide) (by decide)⟩
theorem nm_md {a d b e : Nat} {x y z w : Rat} (hx : md a d x) (hy : md a d y) (hz : md b e z) (hw : md b e w) : md (a + b + 2) (d + e + (d + e)) (nm0 x y z w) ∧ md (a + b + 2) (d + e + (d + e)) (nm1 x y z w) := by
  unfold nm0 nm1
  exact ⟨((hx.mul hz).add ((md.two.mul hy).mul hw)).mono (by omega) (by omega), ((hx.mul hw).add (hy.mul hz)).mono (by omega) (by omega)⟩
/-- One that has no part of root 2. -/
theorem nm0_md {a d b e : Nat} {x z w : Rat} (hx : md a d x) (hz : md b e z) (hw : md b e w) : md (a + b) (d + e) (nm0 x 0 z w) ∧ md (a + b) (d + e) (nm1 x 0 z w) := by
  unfold nm0 nm1
  rw [show x * z + ((2 : Int) : Rat) * 0 * w = x * z by grind, show x * w + 0 * z = x * w by grind]
  exact ⟨hx.mul hz, hx.mul hw⟩
theorem n_md {S : Sn} {a d : Nat} (hm : 0 ≤ S.m ∧ S.m ≤ 2) (hn : 0 ≤ S.n ∧ S.n ≤ 2) (hp : md a d S.p) (hq : md a d S.q) (hr : md a d S.r) (hs : md a d S.s) : md (a + 7) (4 * d) S.n0 ∧ md (a + 7) (4 * d) S.n1 := by
  obtain ⟨m0, m1⟩ := rt_md hm
  obtain ⟨k0, k1⟩ := rt_md hn
  have u := nm0_md hp (md.int (a := 0) (z := 1) (by decide)) (md.zero 0 0)
  have v := nm0_md hq m0 m1
  have w := nm0_md hr k0 k1
  have mm := nm_md m0 m1 k0 k1
  have z := nm0_md hs mm.1 mm.2
  have o := md.zero 0 0
  unfold Sn.n0 Sn.n1
  exact ⟨((((o.add u.1).add v.1).add w.1).add z.1).mono (by omega) (by omega), ((((o.add u.2).add v.2).add w.2).add z.2).mono (by omega) (by omega)⟩
/-- Bounds of a number's parts. -/
def mS (a d : Nat) (S : Sn) : Prop := md a d S.p ∧ md a d S.q ∧ md a d S.r ∧ md a d S.s
theorem mul_mS {a d : Nat} {X : Sn} (h : mS a d X) (hm : 0 ≤ X.m ∧ X.m ≤ 2) (hn : 0 ≤ X.n ∧ X.n ≤ 2) : mS (2 * a + 6) (8 * d) (X.mul X) := by
  obtain ⟨p, q, r, s⟩ := h
  have m : md 1 0 (X.m : Rat) := md.int (a := 1) (z := X.m) (by omega)
  have n : md 1 0 (X.n : Rat) := md.int (a := 1) (z := X.n) (by omega)
  refine ⟨?_, ?_, ?_, ?_⟩ <;> simp only [Sn.mul]
  · exact ((((p.mul p).add (m.mul (q.mul q))).add (n.mul (r.mul r))).add ((m.mul n).mul (s.mul s))).mono (by omega) (by omega)
  · exact (((p.mul q).add (q.mul p)).add (n.mul ((r.mul s).add (s.mul r)))).mono (by omega) (by omega)
  · exact (((p.mul r).add (r.mul p)).add (m.mul ((q.mul s).add (s.mul q)))).mono (by omega) (by omega)
  · exact ((((p.mul s).add (s.mul p)).add (q.mul r)).add (r.mul q)).mono (by omega) (by omega)
theorem add_mS {a d b e : Nat} {X Y : Sn} (h : mS a d X) (g : mS b e Y) : mS (max a b + 1) (d + e) (X.add Y) :=
  ⟨h.1.add g.1, h.2.1.add g.2.1, h.2.2.1.add g.2.2.1, h.2.2.2.add g.2.2.2⟩
theorem scale_mS {a d b e : Nat} {X : Sn} {c : Rat} (h : mS a d X) (g : md b e c) : mS (a + b) (d + e) (X.mul ⟨X.m, X.n, c, 0, 0, 0⟩) := by
  rw [Sn.mul_scale]
  exact ⟨h.1.mul g, h.2.1.mul g, h.2.2.1.mul g, h.2.2.2.mul g⟩
theorem mS.bits {a d b : Nat} {S : Sn} (h : mS a d S) (hm : 0 ≤ S.m ∧ S.m ≤ 2) (hn : 0 ≤ S.n ∧ S.n ≤ 2) (hb : a + d + 1 ≤ b) (h2 : 2 ≤ b) : bS b S := by
  have k : ∀ {z : Int}, 0 ≤ z ∧ z ≤ 2 → z.natAbs < 2 ^ b := fun {z} hz => Nat.lt_of_lt_of_le (show z.natAbs < 2 ^ 2 by simp only [Nat.reducePow]; omega) (pow_mono2 h2)
  exact ⟨k hm, k hn, h.1.bq hb, h.2.1.bq hb, h.2.2.1.bq hb, h.2.2.2.bq hb⟩
/-- How long what was is. -/
theorem was_bits {X Y : Sn} (hm : 0 ≤ X.m ∧ X.m ≤ 2) (hn : 0 ≤ X.n ∧ X.n ≤ 2) (em : Y.m = X.m) (en : Y.n = X.n) (hx : mS 67 67 X) (hy : mS 67 67 Y) {g : Rat} (hg : md 200 200 g) :
    bS 2000 ((sq X Y).mul ⟨X.m, X.n, g, 0, 0, 0⟩) := by
  have h1 := mul_mS hx hm hn
  have h2 := mul_mS hy (by omega) (by omega)
  exact (scale_mS (X := sq X Y) (add_mS h1 h2) hg).bits hm hn (by omega) (by omega)
theorem r2_sq_mS {a d : Nat} {x y : Rat} (hx : md a d x) (hy : md a d y) : mS (2 * a + 3) (4 * d) ((r2 x y).mul (r2 x y)) := by
  rw [r2_mul]
  exact ⟨((hx.mul hx).add (md.two.mul (hy.mul hy))).mono (by omega) (by omega), ((hx.mul hy).add (hy.mul hx)).mono (by omega) (by omega), md.zero _ _, md.zero _ _⟩
theorem far_bits {X Y : Sn} (hm : 0 ≤ X.m ∧ X.m ≤ 2) (hn : 0 ≤ X.n ∧ X.n ≤ 2) (em : Y.m = X.m) (en : Y.n = X.n) (hx : mS 67 67 X) (hy : mS 67 67 Y) {g : Rat} (hg : md 200 200 g) :
    bS 3000 ((sq (r2 X.n0 X.n1) (r2 Y.n0 Y.n1)).mul (r2 g 0)) := by
  obtain ⟨a0, a1⟩ := n_md hm hn hx.1 hx.2.1 hx.2.2.1 hx.2.2.2
  obtain ⟨b0, b1⟩ := n_md (S := Y) (by omega) (by omega) hy.1 hy.2.1 hy.2.2.1 hy.2.2.2
  exact (scale_mS (X := sq (r2 X.n0 X.n1) (r2 Y.n0 Y.n1)) (add_mS (r2_sq_mS a0 a1) (r2_sq_mS b0 b1)) hg).bits ⟨(by decide : (0:Int) ≤ 2), (by decide : (2:Int) ≤ 2)⟩ ⟨(by decide : (0:Int) ≤ 0), (by decide : (0:Int) ≤ 2)⟩ (by omega) (by omega)
theorem rot_bS {b : Nat} : ∀ (k : Nat) {X Y : Sn}, bS b X → bS b Y → bS b (rot k X Y).1 ∧ bS b (rot k X Y).2
  | 0, _, _, h, g => ⟨h, g⟩
  | k + 1, X, Y, h, g => rot_bS k (X := Y.neg) (Y := X) g.neg h
/-- Places of large fields. -/
theorem farP_bits (V : On) {X Y : Sn} (hx : bS 67 X) (hy : bS 67 Y) (hg : bq 100 V.mag) : bS 939 (V.farP X Y).1 ∧ bS 939 (V.farP X Y).2 := by
  have z := bq.zero 100 (by omega)
  have hl : bS 100 ⟨X.m, X.n, V.mag, 0, 0, 0⟩ := ⟨Nat.lt_of_lt_of_le hx.1 (pow_mono2 (by omega)), Nat.lt_of_lt_of_le hx.2.1 (pow_mono2 (by omega)), hg, z, z, z⟩
  have h1 := (hx.mul hl).mono (b := 939) (by omega)
  have h2 := (hy.mul hl).mono (b := 939) (by omega)
  unfold On.farP
  refine rot_bS _ h1 ?_
  split
  · exact h2.neg
  · exact h2
theorem sq_bits {b : Nat} {X Y : Sn} (hx : bS b X) (hy : bS b Y) : bS (24 * b + 7) (sq X Y) := ((hx.mul hx).add (hy.mul hy)).mono (by omega)
theorem numOk_spec {M N : Int} {ss : List ByteArray} (h : numOk M N ss = true) : 0 ≤ M ∧ 0 ≤ N ∧ ∀ i, bq 67 (pAt ss i) := by
  have hk : 10 ^ 20 < 2 ^ 67 := by decide +kernel
  unfold numOk at h
  simp only [Bool.and_eq_true, decide_eq_true_eq] at h
  refine ⟨h.2.2.1, h.2.2.2, fun i => ?_⟩
  unfold pAt
  split
  · rename_i s hs
    have := List.all_eq_true.1 h.2.1 s (List.mem_of_getElem? hs)
    unfold ngood at this
    rw [Bool.and_eq_true] at this
    exact bq_qval (of_decide_eq_true this.1) hk
  · exact bq.zero 67 (by omega)
end Go.Proofs.YtabpaiboodllbaaGreat
