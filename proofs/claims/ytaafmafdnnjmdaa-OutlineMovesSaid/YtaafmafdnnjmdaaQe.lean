/- Places lie on their lines. -/
import Derived.Test.YtaafmafdnnjmdaaQa
import Derived.Test.YtaafmafdnnjmdaaRr
import Derived.Test.YtaafmafdnnjmdaaPf
import Derived.Test.YtaafmafdnnjmdaaPv
set_option linter.unusedSimpArgs false
set_option linter.unusedVariables false
namespace Go.Proofs.Ytaafmafdnnjmdaa
open Go.RowKit Go.IntWalk

/-- A number times a root, in a field. -/
def rootS (x : LnV) (m n : Int) : Sn :=
  if x.sl = true then ⟨m, n, 0, 0, 0, x.r * Rat.divInt 1 2⟩ else if x.m = m then ⟨m, n, 0, x.r, 0, 0⟩ else ⟨m, n, 0, 0, x.r, 0⟩
/-- What is 0 just where a place lies on a line. -/
def onS (x : LnV) (X Y : Sn) : Sn :=
  ((Sn.mul ⟨X.m, X.n, (x.d.x : Rat), 0, 0, 0⟩ ⟨X.m, X.n, X.p - (x.p.x : Rat), X.q, X.r, X.s⟩).add (Sn.mul ⟨X.m, X.n, (x.d.y : Rat), 0, 0, 0⟩ ⟨Y.m, Y.n, Y.p - (x.p.y : Rat), Y.q, Y.r, Y.s⟩)).add (rootS x X.m X.n).neg
theorem fold_nil0 {S : Sn} (h : S.nil) : S.fold.nil := by
  obtain ⟨h1, h2, h3, h4⟩ := h
  cases sm : isSq S.m with
  | true =>
    cases sn : isSq S.n with
    | true => rw [fold_tt sm sn, h1, h2, h3, h4]; refine ⟨?_, ?_, rfl, rfl⟩ <;> (simp only; grind)
    | false => rw [fold_tf sm sn, h1, h2, h3, h4]; refine ⟨?_, rfl, ?_, rfl⟩ <;> (simp only; grind)
  | false =>
    cases sn : isSq S.n with
    | true => rw [fold_ft sm sn, h1, h2, h3, h4]; refine ⟨?_, ?_, rfl, rfl⟩ <;> (simp only; grind)
    | false =>
      cases sx : isSq (S.m * S.n) with
      | true => rw [fold_fft sm sn sx, h1, h2, h3, h4]; refine ⟨?_, ?_, rfl, rfl⟩ <;> (simp only; grind)
      | false => rw [fold_fff sm sn sx]; exact ⟨h1, h2, h3, h4⟩
theorem rtq_sq {m : Int} (h : 0 ≤ m) : isSq (m * m) = true ∧ rtq (m * m) = (m : Rat) := by
  have hm : (m * m).natAbs = m.natAbs * m.natAbs := Int.natAbs_mul _ _
  constructor
  · unfold isSq
    rw [hm, isq_sq]
    simp
  · unfold rtq
    rw [hm, isq_sq, show ((m.natAbs : Nat) : Int) = m by omega]
/-- Two roots of the same go together. -/
theorem fold_nil1 {S : Sn} (hm : 0 ≤ S.m) (hmn : S.m = S.n) (h1 : S.p = 0) (h2 : S.q + S.r = 0) (h4 : S.s = 0) : S.fold.nil := by
  have hq : S.q = -S.r := by grind
  cases sm : isSq S.m with
  | true => rw [fold_tt sm (hmn ▸ sm), h1, hq, h4, ← hmn]; refine ⟨?_, ?_, rfl, rfl⟩ <;> (simp only; grind)
  | false =>
    obtain ⟨e1, e2⟩ := rtq_sq hm
    have hne := sq_ne sm
    rw [fold_fft sm (hmn ▸ sm) (hmn ▸ e1), ← hmn, e2, h1, hq, h4]
    refine ⟨?_, ?_, rfl, rfl⟩
    · simp only; grind
    · simp only
      rw [Rat.div_def, Rat.mul_inv_cancel _ hne]
      grind

/-- A place lies on its two lines. -/
structure Lies (P : Sn × Sn) (t : TwV) : Prop where
  xm : P.1.m = t.m
  xn : P.1.n = t.n
  ym : P.2.m = t.m
  yn : P.2.n = t.n
  m0 : 0 ≤ t.m
  n0 : 0 ≤ t.n
  a : (onS t.a P.1 P.2).fold.nil
  b : (onS t.b P.1 P.2).fold.nil
theorem one_sq {d : Dp} (h : sqD d ≠ 0) : ∃ i : Rat, Rat.divInt 1 (sqD d) = i ∧ ((d.x : Rat) * d.x + (d.y : Rat) * d.y) * i = 1 := by
  refine ⟨_, rfl, ?_⟩
  have e : ((d.x : Rat) * d.x + (d.y : Rat) * d.y) = ((sqD d : Int) : Rat) := by unfold sqD; rw [Rat.intCast_add, Rat.intCast_mul, Rat.intCast_mul]
  have hne : ((sqD d : Int) : Rat) ≠ 0 := by exact_mod_cast h
  rw [e, Rat.divInt_eq_div, show ((1 : Int) : Rat) = 1 from rfl, Rat.div_def, Rat.one_mul, Rat.mul_inv_cancel _ hne]
theorem two_sq {d : Dp} (h : sqD d ≠ 0) : ∃ i : Rat, Rat.divInt 1 (sqD d * 2) = i ∧ ((d.x : Rat) * d.x + (d.y : Rat) * d.y) * i = Rat.divInt 1 2 := by
  refine ⟨_, rfl, ?_⟩
  have e : ((d.x : Rat) * d.x + (d.y : Rat) * d.y) = ((sqD d : Int) : Rat) := by unfold sqD; rw [Rat.intCast_add, Rat.intCast_mul, Rat.intCast_mul]
  have hne : ((sqD d : Int) : Rat) ≠ 0 := by exact_mod_cast h
  have h2 : Rat.divInt 1 2 = 1 / 2 := by decide +kernel
  rw [e, Rat.divInt_eq_div, show ((1 : Int) : Rat) = 1 from rfl, Rat.intCast_mul, show ((2 : Int) : Rat) = 2 from rfl, h2]
  generalize ((sqD d : Int) : Rat) = q at *
  have := Rat.mul_inv_cancel _ hne
  grind
def AllL (l : List (Sn × Sn)) (w : List TwV) : Prop := l.length = w.length ∧ ∀ (i : Nat) (a : Sn × Sn) (b : TwV), l[i]? = some a → w[i]? = some b → Lies a b
theorem AllL.nil : AllL [] [] := ⟨rfl, fun i a b h => by simp at h⟩
theorem AllL.cons {a : Sn × Sn} {b : TwV} {l : List (Sn × Sn)} {w : List TwV} (h : Lies a b) (hl : AllL l w) : AllL (a :: l) (b :: w) := ⟨by simp [hl.1], fun i x y hx hy => by
  cases i with
  | zero => simp at hx hy; subst hx hy; exact h
  | succ i => exact hl.2 i x y hx hy⟩
theorem AllL.append {l l' : List (Sn × Sn)} {w w' : List TwV} (h : AllL l w) (h' : AllL l' w') : AllL (l ++ l') (w ++ w') := ⟨by simp [h.1, h'.1], fun i a b ha hb => by
  by_cases hi : i < l.length
  · rw [List.getElem?_append_left hi] at ha
    rw [List.getElem?_append_left (by rw [← h.1]; exact hi)] at hb
    exact h.2 i a b ha hb
  · rw [List.getElem?_append_right (by omega)] at ha
    rw [List.getElem?_append_right (by rw [← h.1]; omega), ← h.1] at hb
    exact h'.2 _ a b ha hb⟩
theorem AllL.reverse {l : List (Sn × Sn)} {w : List TwV} (h : AllL l w) : AllL l.reverse w.reverse := ⟨by simp [h.1], fun i a b ha hb => by
  have hi := (List.getElem?_eq_some_iff.1 ha).1
  have h1 := h.1
  simp only [List.length_reverse] at hi
  rw [List.getElem?_reverse hi] at ha
  rw [List.getElem?_reverse (by omega), ← h1] at hb
  exact h.2 _ a b ha hb⟩
theorem AllL.take {l : List (Sn × Sn)} {w : List TwV} (h : AllL l w) (k : Nat) : AllL (l.take k) (w.take k) := ⟨by simp [h.1], fun i a b ha hb => by
  rw [List.getElem?_take] at ha hb
  split at ha
  · rw [if_pos (by assumption)] at hb
    exact h.2 i a b ha hb
  · simp at ha⟩
theorem AllL.drop {l : List (Sn × Sn)} {w : List TwV} (h : AllL l w) (k : Nat) : AllL (l.drop k) (w.drop k) := ⟨by simp [h.1], fun i a b ha hb => by
  rw [List.getElem?_drop] at ha hb
  exact h.2 _ a b ha hb⟩
theorem lies_of {P : Sn × Sn} {t : TwV} {m n : Int} (h1 : P.1.m = m) (h2 : P.1.n = n) (h3 : P.2.m = m) (h4 : P.2.n = n) (h5 : t.m = m) (h6 : t.n = n) (hm : 0 ≤ m) (hn : 0 ≤ n) (h7 : (onS t.a P.1 P.2).nil) (h8 : (onS t.b P.1 P.2).fold.nil) : Lies P t :=
  ⟨by rw [h1, h5], by rw [h2, h6], by rw [h3, h5], by rw [h4, h6], by omega, by omega, fold_nil0 h7, h8⟩
theorem sq_turn (d : Dp) : sqD (leftD d) = sqD d ∧ sqD (rightD d) = sqD d := by
  unfold sqD leftD rightD
  simp only [Int.neg_mul_neg]
  omega
theorem half2 : Rat.divInt 1 2 + Rat.divInt 1 2 = 1 := by decide +kernel
/-- A place by two parts, and a line. -/
theorem on_two (x : LnV) (m n : Int) (p : Dp) (u v : Pa) : onS x (alX m n p.x [u, v]) (alY m n p.y [u, v]) = ⟨m, n,
    (x.d.x : Rat) * ((p.x : Rat) + u.a * (u.d.x : Rat) + v.a * (v.d.x : Rat) - (x.p.x : Rat)) + (x.d.y : Rat) * ((p.y : Rat) + u.a * (u.d.y : Rat) + v.a * (v.d.y : Rat) - (x.p.y : Rat)) - (rootS x m n).p,
    (x.d.x : Rat) * (u.b * (u.d.x : Rat) + v.b * (v.d.x : Rat)) + (x.d.y : Rat) * (u.b * (u.d.y : Rat) + v.b * (v.d.y : Rat)) - (rootS x m n).q,
    (x.d.x : Rat) * (u.c * (u.d.x : Rat) + v.c * (v.d.x : Rat)) + (x.d.y : Rat) * (u.c * (u.d.y : Rat) + v.c * (v.d.y : Rat)) - (rootS x m n).r,
    (x.d.x : Rat) * (u.e * (u.d.x : Rat) + v.e * (v.d.x : Rat)) + (x.d.y : Rat) * (u.e * (u.d.y : Rat) + v.e * (v.d.y : Rat)) - (rootS x m n).s⟩ := by
  simp only [onS, alX, alY, List.foldl_cons, List.foldl_nil, Sn.add, Sn.mul, Sn.neg, Pa.sx, Pa.sy, Sn.mk.injEq, true_and]
  generalize (rootS x m n).p = r1
  generalize (rootS x m n).q = r2
  generalize (rootS x m n).r = r3
  generalize (rootS x m n).s = r4
  generalize (x.d.x : Rat) = dx
  generalize (x.d.y : Rat) = dy
  refine ⟨?_, ?_, ?_, ?_⟩ <;> grind
theorem on_one (x : LnV) (m n : Int) (p : Dp) (u : Pa) : onS x (alX m n p.x [u]) (alY m n p.y [u]) = ⟨m, n,
    (x.d.x : Rat) * ((p.x : Rat) + u.a * (u.d.x : Rat) - (x.p.x : Rat)) + (x.d.y : Rat) * ((p.y : Rat) + u.a * (u.d.y : Rat) - (x.p.y : Rat)) - (rootS x m n).p,
    (x.d.x : Rat) * (u.b * (u.d.x : Rat)) + (x.d.y : Rat) * (u.b * (u.d.y : Rat)) - (rootS x m n).q,
    (x.d.x : Rat) * (u.c * (u.d.x : Rat)) + (x.d.y : Rat) * (u.c * (u.d.y : Rat)) - (rootS x m n).r,
    (x.d.x : Rat) * (u.e * (u.d.x : Rat)) + (x.d.y : Rat) * (u.e * (u.d.y : Rat)) - (rootS x m n).s⟩ := by
  simp only [onS, alX, alY, List.foldl_cons, List.foldl_nil, Sn.add, Sn.mul, Sn.neg, Pa.sx, Pa.sy, Sn.mk.injEq, true_and]
  generalize (rootS x m n).p = r1
  generalize (rootS x m n).q = r2
  generalize (rootS x m n).r = r3
  generalize (rootS x m n).s = r4
  generalize (x.d.x : Rat) = dx
  generalize (x.d.y : Rat) = dy
  refine ⟨?_, ?_, ?_, ?_⟩ <;> grind
theorem root_f (p d : Dp) (r : Rat) (m n : Int) : rootS ⟨p, d, r, m, false⟩ m n = ⟨m, n, 0, r, 0, 0⟩ := by
  unfold rootS
  rw [if_neg (by simp), if_pos rfl]
theorem root_t (p d : Dp) (r : Rat) (m n : Int) : rootS ⟨p, d, r, m, true⟩ m n = ⟨m, n, 0, 0, 0, r * Rat.divInt 1 2⟩ := by
  unfold rootS
  rw [if_pos rfl]
theorem castL (d : Dp) : ((leftD d).x : Rat) = -(d.y : Rat) ∧ ((leftD d).y : Rat) = (d.x : Rat) := ⟨by show ((-d.y : Int) : Rat) = _; rw [Rat.intCast_neg], rfl⟩
theorem castR (d : Dp) : ((rightD d).x : Rat) = (d.y : Rat) ∧ ((rightD d).y : Rat) = -(d.x : Rat) := ⟨rfl, by show ((-d.x : Int) : Rat) = _; rw [Rat.intCast_neg]⟩
theorem tip_lies {p d : Dp} (hd : sqD d ≠ 0) (h b : Rat) (round : Bool) : AllL (tipL p d h b round) (rtip p d h b round) := by
  obtain ⟨i, hi, hi1⟩ := one_sq hd
  obtain ⟨j, hj, hj1⟩ := two_sq hd
  have hm0 := sqD_nn d
  obtain ⟨s1, s2⟩ := sq_turn d
  obtain ⟨l1, l2⟩ := castL d
  obtain ⟨r1, r2⟩ := castR d
  have hh := half2
  have z0 : ((0 : Int) : Rat) = 0 := rfl
  have h1 : Lies (al (sqD d) 2 p [unitP d b, unitP (leftD d) h]) ⟨⟨p, d, b, sqD d, false⟩, ⟨p, leftD d, h, sqD d, false⟩, sqD d, 2⟩ := by
    refine lies_of (n := 2) rfl rfl rfl rfl rfl rfl hm0 (by decide) ?_ (fold_nil0 ?_) <;>
    (simp only [al, on_two, root_f, unitP, s1, s2, hi, l1, l2, Sn.nil]
     generalize (d.x : Rat) = dx at *
     generalize (d.y : Rat) = dy at *
     generalize Rat.divInt 1 2 = hf at *
     refine ⟨?_, ?_, ?_, ?_⟩ <;> grind)
  have h5 : Lies (al (sqD d) 2 p [unitP d b, unitP (rightD d) h]) ⟨⟨p, d, b, sqD d, false⟩, ⟨p, leftD d, -h, sqD d, false⟩, sqD d, 2⟩ := by
    refine lies_of (n := 2) rfl rfl rfl rfl rfl rfl hm0 (by decide) ?_ (fold_nil0 ?_) <;>
    (simp only [al, on_two, root_f, unitP, s1, s2, hi, l1, l2, r1, r2, Sn.nil]
     generalize (d.x : Rat) = dx at *
     generalize (d.y : Rat) = dy at *
     generalize Rat.divInt 1 2 = hf at *
     refine ⟨?_, ?_, ?_, ?_⟩ <;> grind)
  cases round with
  | false => exact AllL.cons h1 (AllL.cons h5 AllL.nil)
  | true =>
    refine AllL.cons h1 (AllL.cons ?_ (AllL.cons ?_ (AllL.cons ?_ (AllL.cons h5 AllL.nil))))
    · refine lies_of (n := 2) rfl rfl rfl rfl rfl rfl hm0 (by decide) ?_ (fold_nil0 ?_) <;>
      (simp only [al, on_two, root_t, slantP, s1, s2, hj, l1, l2, Sn.nil]
       generalize (d.x : Rat) = dx at *
       generalize (d.y : Rat) = dy at *
       generalize Rat.divInt 1 2 = hf at *
       refine ⟨?_, ?_, ?_, ?_⟩ <;> grind)
    · refine lies_of (n := 2) rfl rfl rfl rfl rfl rfl hm0 (by decide) ?_ (fold_nil0 ?_) <;>
      (simp only [al, on_one, root_f, unitP, s1, s2, hi, l1, l2, Sn.nil, z0]
       generalize (d.x : Rat) = dx at *
       generalize (d.y : Rat) = dy at *
       generalize Rat.divInt 1 2 = hf at *
       refine ⟨?_, ?_, ?_, ?_⟩ <;> grind)
    · refine lies_of (n := 2) rfl rfl rfl rfl rfl rfl hm0 (by decide) ?_ (fold_nil0 ?_) <;>
      (simp only [al, on_two, root_t, slantP, s1, s2, hj, l1, l2, r1, r2, Sn.nil]
       generalize (d.x : Rat) = dx at *
       generalize (d.y : Rat) = dy at *
       generalize Rat.divInt 1 2 = hf at *
       refine ⟨?_, ?_, ?_, ?_⟩ <;> grind)
theorem miter_lies {p d e : Dp} (hc : dotD (leftD d) e ≠ 0) (h : Rat) : Lies (miterP p d e h) (rcorn p d e h) := by
  obtain ⟨l1, l2⟩ := castL d
  obtain ⟨k1, k2⟩ := castL e
  have hm0 := sqD_nn d
  have hn0 := sqD_nn e
  have em : ((sqD d : Int) : Rat) = (d.x : Rat) * d.x + (d.y : Rat) * d.y := by unfold sqD; rw [Rat.intCast_add, Rat.intCast_mul, Rat.intCast_mul]
  have en : ((sqD e : Int) : Rat) = (e.x : Rat) * e.x + (e.y : Rat) * e.y := by unfold sqD; rw [Rat.intCast_add, Rat.intCast_mul, Rat.intCast_mul]
  have et : ((-(dotD d e) : Int) : Rat) = -((d.x : Rat) * e.x + (d.y : Rat) * e.y) := by unfold dotD; rw [Rat.intCast_neg, Rat.intCast_add, Rat.intCast_mul, Rat.intCast_mul]
  have ec : ((dotD (leftD d) e : Int) : Rat) = (d.x : Rat) * e.y - (d.y : Rat) * e.x := by unfold dotD; rw [Rat.intCast_add, Rat.intCast_mul, Rat.intCast_mul, l1, l2]; grind
  have hcc : ((dotD (leftD d) e : Int) : Rat) ≠ 0 := by exact_mod_cast hc
  have hk : h / ((dotD (leftD d) e * dotD (leftD d) e : Int) : Rat) * ((dotD (leftD d) e : Int) : Rat) * ((dotD (leftD d) e : Int) : Rat) = h := by
    rw [Rat.intCast_mul]
    generalize ((dotD (leftD d) e : Int) : Rat) = c at *
    have hc2 : c * c ≠ 0 := fun h0 => by
      rcases Rat.mul_eq_zero.1 h0 with h1 | h1 <;> exact hcc h1
    have := Rat.mul_inv_cancel _ hc2
    rw [Rat.div_def]
    generalize (c * c)⁻¹ = ci at *
    grind
  generalize hkk : h / ((dotD (leftD d) e * dotD (leftD d) e : Int) : Rat) = k at *
  rw [ec] at hk hcc
  refine lies_of (m := sqD d) (n := sqD e) rfl rfl rfl rfl rfl rfl hm0 hn0 ?_ ?_
  · simp only [miterP, rcorn, al, on_two, root_f, hkk, em, en, et, l1, l2, k1, k2, Sn.nil]
    generalize (d.x : Rat) = dx at *
    generalize (d.y : Rat) = dy at *
    generalize (e.x : Rat) = ex at *
    generalize (e.y : Rat) = ey at *
    refine ⟨?_, ?_, ?_, ?_⟩ <;> grind
  · by_cases hmn : sqD e = sqD d
    · refine fold_nil1 ?_ ?_ ?_ ?_ ?_
      · exact hm0
      · exact hmn.symm
      · simp only [miterP, rcorn, al, on_two, hmn, root_f]
        generalize (d.x : Rat) = dx at *
        grind
      · simp only [miterP, rcorn, al, on_two, hmn, root_f, hkk, em, et, l1, l2, k1, k2]
        have emn : (e.x : Rat) * e.x + (e.y : Rat) * e.y = (d.x : Rat) * d.x + (d.y : Rat) * d.y := by rw [← em, ← en, hmn]
        generalize (d.x : Rat) = dx at *
        generalize (d.y : Rat) = dy at *
        generalize (e.x : Rat) = ex at *
        generalize (e.y : Rat) = ey at *
        grind
      · simp only [miterP, rcorn, al, on_two, hmn, root_f]
        grind
    · refine fold_nil0 ?_
      have hr : rootS ⟨p, leftD e, h, sqD e, false⟩ (sqD d) (sqD e) = ⟨sqD d, sqD e, 0, 0, h, 0⟩ := by
        unfold rootS
        rw [if_neg (by simp), if_neg hmn]
      simp only [miterP, rcorn, al, on_two, hr, hkk, em, en, et, l1, l2, k1, k2, Sn.nil]
      generalize (d.x : Rat) = dx at *
      generalize (d.y : Rat) = dy at *
      generalize (e.x : Rat) = ex at *
      generalize (e.y : Rat) = ey at *
      refine ⟨?_, ?_, ?_, ?_⟩ <;> grind
theorem miters_lies (h : Rat) : ∀ (c w : List Dp), (∀ (i : Nat) (d e : Dp), w[i]? = some d → w[i + 1]? = some e → dotD (leftD d) e ≠ 0) → AllL (miters h c w) (rcorns h c w)
  | p :: c, d :: e :: w, hx => AllL.cons (miter_lies (hx 0 d e rfl rfl) h) (miters_lies h c (e :: w) (fun i a b ha hb => hx (i + 1) a b ha hb))
  | [], _, _ => AllL.nil
  | _ :: _, [], _ => AllL.nil
  | _ :: _, [_], _ => AllL.nil
/-- Every place lies on its lines. -/
theorem places_lies {c w : List Dp} (hf : FwOk c w) (hw : 0 < w.length) (hb : ¬ ∃ (i : Nat) (d e : Dp), w[i]? = some d ∧ w[i + 1]? = some e ∧ e = negD d) (width kind bg en : Int) : AllL (places c w width kind bg en) (rplaces c w width kind bg en) := by
  have hprim : ∀ (i : Nat) (d : Dp), w[i]? = some d → gcdD d = 1 := fun i d hd => by
    have hi := (List.getElem?_eq_some_iff.1 hd).1
    have hl := hf.len
    obtain ⟨n1, e1⟩ := hf.way i _ _ d (List.getElem?_eq_getElem (by omega)) (List.getElem?_eq_getElem (by omega)) hd
    rw [e1]
    exact prim_way n1
  have hsq : ∀ (i : Nat) (d : Dp), w[i]? = some d → sqD d ≠ 0 := fun i d hd => sqD_ne (nz_prim (hprim i d hd))
  have hcr : ∀ (i : Nat) (d e : Dp), w[i]? = some d → w[i + 1]? = some e → dotD (leftD d) e ≠ 0 := fun i d e hd he =>
    cross_ne (hprim i d hd) (hprim (i + 1) e he) (hf.turn i d e hd he) (fun h => hb ⟨i, d, e, hd, he, h⟩)
  have h0 : sqD (negD (w.getD 0 ⟨0, 0⟩)) ≠ 0 := by
    have := hsq 0 (w[0]'hw) (List.getElem?_eq_getElem hw)
    rw [List.getD_eq_getElem?_getD, List.getElem?_eq_getElem hw]
    simp only [Option.getD_some]
    unfold sqD negD at *
    simp only [Int.neg_mul_neg]
    exact this
  have h1 : sqD (w.getD (w.length - 1) ⟨0, 0⟩) ≠ 0 := by
    have := hsq (w.length - 1) (w[w.length - 1]'(by omega)) (List.getElem?_eq_getElem (by omega))
    rw [List.getD_eq_getElem?_getD, List.getElem?_eq_getElem (by omega)]
    exact this
  have t0 := tip_lies (p := c.getD 0 ⟨0, 0⟩) h0 (Rat.divInt width 2) (endsOf kind bg en (Rat.divInt width 2)).1 (kind == 1)
  have t1 := tip_lies (p := c.getD (c.length - 1) ⟨0, 0⟩) h1 (Rat.divInt width 2) (endsOf kind bg en (Rat.divInt width 2)).2 (kind == 1)
  unfold places rplaces
  simp only
  rw [← t0.1]
  exact ((((t0.drop _).append (miters_lies _ _ _ hcr)).append t1).append (miters_lies _ _ _ hcr).reverse).append (t0.take _)
end Go.Proofs.Ytaafmafdnnjmdaa
