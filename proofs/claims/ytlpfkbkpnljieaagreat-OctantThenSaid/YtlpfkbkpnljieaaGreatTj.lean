/- The reference's turns with their bits. Printed by gen_tj.py. -/
import Derived.Test.YtlpfkbkpnljieaaGreatTi
set_option linter.unusedSimpArgs false
set_option linter.unusedVariables false
namespace Go.Proofs.YtlpfkbkpnljieaaGreat
open Go.RowKit Go.IntWalk

def RB (x : R6) (a : (Nat × Nat) × Rn) : Fact where
  p I w := (TB x.A (B4.all a.1.1, a.2.A)).p I w ∧ (TB x.B (B4.all a.1.1, a.2.B)).p I w ∧ (TB x.C (B4.all a.1.1, a.2.C)).p I w ∧ (TB x.D (B4.all a.1.1, a.2.D)).p I w ∧ (TB x.E (B4.all a.1.2, a.2.E)).p I w ∧ (TB x.F (B4.all a.1.2, a.2.F)).p I w
  up := by
    rintro I I' w w' ⟨g1, g2, g3, g4, g5, g6⟩ h1 h2 h3
    exact ⟨(TB x.A _).up g1 h1 h2 h3, (TB x.B _).up g2 h1 h2 h3, (TB x.C _).up g3 h1 h2 h3, (TB x.D _).up g4 h1 h2 h3, (TB x.E _).up g5 h1 h2 h3, (TB x.F _).up g6 h1 h2 h3⟩
theorem all_le {a b : Nat} (h : a ≤ b) : (B4.all a).le (B4.all b) := ⟨h, h, h, h⟩
theorem RB.up2 {x : R6} {U : Rn} {a b a' b' : Nat} {I : Blk} {w : World} (h : (RB x ((a, b), U)).p I w) (h1 : a ≤ a') (h2 : b ≤ b') : (RB x ((a', b'), U)).p I w := by
  obtain ⟨g1, g2, g3, g4, g5, g6⟩ := h
  exact ⟨TB.up2 g1 (all_le h1), TB.up2 g2 (all_le h1), TB.up2 g3 (all_le h1), TB.up2 g4 (all_le h1), TB.up2 g5 (all_le h2), TB.up2 g6 (all_le h2)⟩
def SBPost (L : Nat) (X Y : Sn) (v : Value) (Δ : List Fact) : Prop := ∃ x y : Tw, v = spv x y ∧ Δ = [TB x (B4.all L, X), TB y (B4.all L, Y)]
def Rn.lin (U : Rn) : Rn := ⟨U.A, U.B, U.C, U.D, r2 ((0 : Int) : Rat) 0, r2 ((0 : Int) : Rat) 0⟩
def Rn.then (U V : Rn) : Rn := ⟨V.lin.X U.A U.C, V.lin.X U.B U.D, V.lin.Y U.A U.C, V.lin.Y U.B U.D, V.X U.E U.F, V.Y U.E U.F⟩

section
variable {fin : VS → List Fact → Prop} {Γ : List Fact} {L M K : Nat}
theorem entRB {x : R6} {V : Rn} {k m : Nat} {b1 b2 b3 b4 b5 b6 : B4} {a b c d e f : Sn} [h1 : Has (TB x.A) (b1, a) Γ] [h2 : Has (TB x.B) (b2, b) Γ] [h3 : Has (TB x.C) (b3, c) Γ] [h4 : Has (TB x.D) (b4, d) Γ] [h5 : Has (TB x.E) (b5, e) Γ] [h6 : Has (TB x.F) (b6, f) Γ]
    (e1 : a = V.A) (e2 : b = V.B) (e3 : c = V.C) (e4 : d = V.D) (e5 : e = V.E) (e6 : f = V.F) (l1 : b1.le (B4.all k)) (l2 : b2.le (B4.all k)) (l3 : b3.le (B4.all k)) (l4 : b4.le (B4.all k)) (l5 : b5.le (B4.all m)) (l6 : b6.le (B4.all m)) : ∀ (I : Blk) (w : World), DataOK tb I w → Holds Γ I w → Holds [RB x ((k, m), V)] I w := fun I w _ hh => by
  subst e1 e2 e3 e4 e5 e6
  exact holds1 ⟨TB.up2 (h1.p hh) l1, TB.up2 (h2.p hh) l2, TB.up2 (h3.p hh) l3, TB.up2 (h4.p hh) l4, TB.up2 (h5.p hh) l5, TB.up2 (h6.p hh) l6⟩
theorem entSB2 {x y : Tw} {b1 b2 : B4} {L' : Nat} {X X' Y Y' : Sn} [h1 : Has (TB x) (b1, X) Γ] [h2 : Has (TB y) (b2, Y) Γ] (l1 : b1.le (B4.all L')) (l2 : b2.le (B4.all L')) (e1 : X = X') (e2 : Y = Y') : ∀ (I : Blk) (w : World), DataOK tb I w → Holds Γ I w → Holds [TB x (B4.all L', X'), TB y (B4.all L', Y')] I w := fun I w hd hh => by
  subst e1 e2
  exact Holds.cons (TB.up2 (h1.p hh) l1) (holds1 (TB.up2 (h2.p hh) l2))
theorem u_xmulU (x y : Tw) {a m : Nat} {S T : Sn} [Has (TB x) (B4.all a, S) Γ] [Has (TB y) (B4.all m, T) Γ] (hL : 4 * a + 4 * m + 6 ≤ 100000000000000 := by omega) :
    PCalls tb Tryz.prog 16 [tv x, tv y] Γ (TBPost (B4.all (4 * a + 4 * m + 6)) (S.mul T)) :=
  (u_xmul x y (by show a + a + a + a + m + m + m + m + 6 ≤ _; omega)).entH (fun v Δ ⟨q, e1, e2⟩ => ⟨_, ⟨q, e1, rfl⟩, fun I w hh => by
    subst e2
    exact holds1 (TB.up2 hh.h0' (by refine ⟨?_, ?_, ?_, ?_⟩ <;> simp only [B4.mul, B4.all] <;> omega))⟩)
theorem u_xaddU (x y : Tw) {a m : Nat} {S T : Sn} [Has (TB x) (B4.all a, S) Γ] [Has (TB y) (B4.all m, T) Γ] (hL : a + m ≤ 100000000000000 := by omega) :
    PCalls tb Tryz.prog 36 [tv x, tv y] Γ (TBPost (B4.all (a + m + 1)) (S.add T)) :=
  u_xadd (b := B4.all a) (c := B4.all m) x y ⟨hL, hL, hL, hL⟩

theorem u_make8 (f : Bool) (S : Int) (s : Sl) (R : Int) (t : Sl) (o : Int) (S' : Int) (s' : Sl) (R' : Int) (t' : Sl) (S'' : Int) (s'' : Sl) (R'' : Int) (t'' : Sl) {m x y : Rat} {k : Nat} [Has (PB S s R t) (k, m) Γ] [Has (PB S' s' R' t') (k, x) Γ] [Has (PB S'' s'' R'' t'') (k, y) Γ] (ho : 0 ≤ o ∧ o ≤ 7) (hk : k ≤ 1000 := by omega) :
    PCalls tb Tryz.prog 4 [.bool f, pv S s R t, .int .i64 o, pv S' s' R' t', pv S'' s'' R'' t''] Γ (fun v Δ => ∃ x6 : R6, v = rtv x6.A x6.B x6.C x6.D x6.E x6.F ∧ Δ = [RB x6 ((k + 10, k), mkRn f m o x y)]) := by
  refine PCalls.of_W tbOk Tryz.func4 rfl (by kernel_rfl) ?_
  refine W.cl [] (by kernel_rfl) (u_num S s R t) ?_
  rintro _ _ ⟨Y1, rfl, rfl⟩
  refine W.cl [] (by kernel_rfl) (u_eighth o (by omega)) ?_
  rintro _ _ ⟨Y2, rfl, rfl⟩
  refine W.cl [] (by kernel_rfl) (u_xmul Y1 Y2 (by show k + 0 + 0 + 0 + 1 + 1 + 1 + 1 + 6 ≤ _; omega)) ?_
  rintro _ _ ⟨Y3, rfl, rfl⟩   -- (?Y1.mul ?Y2)
  refine W.cl [] (by kernel_rfl) (u_eighthW o ho) ?_
  rintro _ _ ⟨Y4, rfl, rfl⟩
  refine W.cl [] (by kernel_rfl) (u_xmul Y1 Y4 (by show k + 0 + 0 + 0 + 1 + 1 + 1 + 1 + 6 ≤ _; omega)) ?_
  rintro _ _ ⟨Y5, rfl, rfl⟩   -- (?Y1.mul ?Y4)
  refine W.cl [] (by kernel_rfl) (u_xneg Y5) ?_
  rintro _ _ ⟨Y6, rfl, rfl⟩   -- ((?Y1.mul ?Y4).neg)
  refine W.cl [] (by kernel_rfl) (u_num S' s' R' t') ?_
  rintro _ _ ⟨Y7, rfl, rfl⟩
  refine W.cl [] (by kernel_rfl) (u_num S'' s'' R'' t'') ?_
  rintro _ _ ⟨Y8, rfl, rfl⟩
  refine W.d [] 37 (f) (by kernel_rfl) (fun hb => ?_) (fun hb => ?_)
  · skip
    refine W.cl [37] (by kernel_rfl) (u_xneg Y6) ?_
    rintro _ _ ⟨Y9, rfl, rfl⟩   -- (((?Y1.mul ?Y4).neg).neg)
    refine W.cl [] (by kernel_rfl) (u_xneg Y3) ?_
    rintro _ _ ⟨Y10, rfl, rfl⟩   -- ((?Y1.mul ?Y2).neg)
    exact W.r [] (rtv Y3 Y9 Y5 Y10 Y7 Y8) (by kernel_rfl) ⟨⟨_, _, _, _, _, _⟩, rfl, rfl⟩ (entRB rfl (by unfold mkRn; rw [hb]; rfl) rfl (by unfold mkRn; rw [hb]; rfl) rfl rfl (by refine ⟨?_, ?_, ?_, ?_⟩ <;> simp only [B4.mul, B4.all] <;> omega) (by refine ⟨?_, ?_, ?_, ?_⟩ <;> simp only [B4.mul, B4.all] <;> omega) (by refine ⟨?_, ?_, ?_, ?_⟩ <;> simp only [B4.mul, B4.all] <;> omega) (by refine ⟨?_, ?_, ?_, ?_⟩ <;> simp only [B4.mul, B4.all] <;> omega) (by refine ⟨?_, ?_, ?_, ?_⟩ <;> simp only [B4.mul, B4.all] <;> omega) (by refine ⟨?_, ?_, ?_, ?_⟩ <;> simp only [B4.mul, B4.all] <;> omega))
  · skip
    exact W.r [37] (rtv Y3 Y6 Y5 Y3 Y7 Y8) (by kernel_rfl) ⟨⟨_, _, _, _, _, _⟩, rfl, rfl⟩ (entRB rfl (by unfold mkRn; rw [hb]; rfl) rfl (by unfold mkRn; rw [hb]; rfl) rfl rfl (by refine ⟨?_, ?_, ?_, ?_⟩ <;> simp only [B4.mul, B4.all] <;> omega) (by refine ⟨?_, ?_, ?_, ?_⟩ <;> simp only [B4.mul, B4.all] <;> omega) (by refine ⟨?_, ?_, ?_, ?_⟩ <;> simp only [B4.mul, B4.all] <;> omega) (by refine ⟨?_, ?_, ?_, ?_⟩ <;> simp only [B4.mul, B4.all] <;> omega) (by refine ⟨?_, ?_, ?_, ?_⟩ <;> simp only [B4.mul, B4.all] <;> omega) (by refine ⟨?_, ?_, ?_, ?_⟩ <;> simp only [B4.mul, B4.all] <;> omega))

set_option maxHeartbeats 4000000 in
theorem u_at8 (x : R6) (p q : Tw) {U : Rn} {P Q : Sn} {a t m : Nat} [Has (RB x) ((a, t), U) Γ] [Has (TB p) (B4.all m, P) Γ] [Has (TB q) (B4.all m, Q) Γ] (hL : 8 * a + 8 * m + 14 + t ≤ 100000000000000 := by omega) :
    PCalls tb Tryz.prog 12 [rtv x.A x.B x.C x.D x.E x.F, spv p q] Γ (SBPost (8 * a + 8 * m + 14 + t) (U.X P Q) (U.Y P Q)) := by
  refine PCalls.of_W tbOk Tryz.func12 rfl (by kernel_rfl) ?_
  refine W.more (Δ := [TB x.A (B4.all a, U.A), TB x.B (B4.all a, U.B), TB x.C (B4.all a, U.C), TB x.D (B4.all a, U.D), TB x.E (B4.all t, U.E), TB x.F (B4.all t, U.F)]) rfl (fun I w _ hh => by
    obtain ⟨g1, g2, g3, g4, g5, g6⟩ := Has.p (k := RB x) (a := ((a, t), U)) inferInstance hh
    exact Holds.cons g1 (Holds.cons g2 (Holds.cons g3 (Holds.cons g4 (Holds.cons g5 (holds1 g6)))))) ?_
  refine W.cl [] (by kernel_rfl) (u_xmulU x.A p) ?_
  rintro _ _ ⟨Y1, rfl, rfl⟩   -- (U.A.mul P)
  refine W.cl [] (by kernel_rfl) (u_xmulU x.B q) ?_
  rintro _ _ ⟨Y2, rfl, rfl⟩   -- (U.B.mul Q)
  refine W.cl [] (by kernel_rfl) (u_xaddU Y1 Y2) ?_
  rintro _ _ ⟨Y3, rfl, rfl⟩   -- ((U.A.mul P).add (U.B.mul Q))
  refine W.cl [] (by kernel_rfl) (u_xmulU x.C p) ?_
  rintro _ _ ⟨Y4, rfl, rfl⟩   -- (U.C.mul P)
  refine W.cl [] (by kernel_rfl) (u_xmulU x.D q) ?_
  rintro _ _ ⟨Y5, rfl, rfl⟩   -- (U.D.mul Q)
  refine W.cl [] (by kernel_rfl) (u_xaddU Y4 Y5) ?_
  rintro _ _ ⟨Y6, rfl, rfl⟩   -- ((U.C.mul P).add (U.D.mul Q))
  refine W.cl [] (by kernel_rfl) (u_xaddU Y3 x.E) ?_
  rintro _ _ ⟨Y7, rfl, rfl⟩   -- (((U.A.mul P).add (U.B.mul Q)).add U.E)
  refine W.cl [] (by kernel_rfl) (u_xaddU Y6 x.F) ?_
  rintro _ _ ⟨Y8, rfl, rfl⟩   -- (((U.C.mul P).add (U.D.mul Q)).add U.F)
  exact W.r [] (spv Y7 Y8) (by kernel_rfl) ⟨_, _, rfl, rfl⟩ (entSB2 (all_le (by omega)) (all_le (by omega)) rfl rfl)
theorem u_whole8 (a b : Int) (ha : -9223372036854775808 ≤ a ∧ a < 9223372036854775808) (hb : -9223372036854775808 ≤ b ∧ b < 9223372036854775808) :
    PCalls tb Tryz.prog 13 [.int .i64 a, .int .i64 b] Γ (SBPost 63 (r2 a 0) (r2 b 0)) := by
  have p63 : 2 ^ 63 = 9223372036854775808 := by decide
  refine PCalls.of_W tbOk Tryz.func13 rfl (by kernel_rfl) ?_
  refine W.cl [] (by kernel_rfl) (u_of a 63 (by rw [p63]; omega) (by omega) (by omega)) ?_
  rintro _ _ ⟨S1, s1, R1, t1, rfl, rfl⟩   -- (a : Rat)
  refine W.cl [] (by kernel_rfl) (u_num S1 s1 R1 t1) ?_
  rintro _ _ ⟨Y2, rfl, rfl⟩
  refine W.cl [] (by kernel_rfl) (u_of b 63 (by rw [p63]; omega) (by omega) (by omega)) ?_
  rintro _ _ ⟨S3, s3, R3, t3, rfl, rfl⟩   -- (b : Rat)
  refine W.cl [] (by kernel_rfl) (u_num S3 s3 R3 t3) ?_
  rintro _ _ ⟨Y4, rfl, rfl⟩
  exact W.r [] (spv Y2 Y4) (by kernel_rfl) ⟨_, _, rfl, rfl⟩ (entSB2 (by refine ⟨?_, ?_, ?_, ?_⟩ <;> decide) (by refine ⟨?_, ?_, ?_, ?_⟩ <;> decide) rfl rfl)
set_option maxHeartbeats 4000000 in
theorem u_then8 (x y : R6) {U V : Rn} {a t c d : Nat} [Has (RB x) ((a, t), U) Γ] [Has (RB y) ((c, d), V) Γ] (hL : 8 * c + 8 * a + 14 ≤ 100000000000000 ∧ 8 * c + 8 * t + 14 + d ≤ 100000000000000 := by omega) :
    PCalls tb Tryz.prog 9 [rtv x.A x.B x.C x.D x.E x.F, rtv y.A y.B y.C y.D y.E y.F] Γ (fun v Δ => ∃ z : R6, v = rtv z.A z.B z.C z.D z.E z.F ∧ Δ = [RB z ((8 * c + 8 * a + 14, 8 * c + 8 * t + 14 + d), U.then V)]) := by
  refine PCalls.of_W tbOk Tryz.func9 rfl (by kernel_rfl) ?_
  refine W.more (Δ := [TB x.A (B4.all a, U.A), TB x.B (B4.all a, U.B), TB x.C (B4.all a, U.C), TB x.D (B4.all a, U.D), TB x.E (B4.all t, U.E), TB x.F (B4.all t, U.F)]) rfl (fun I w _ hh => by
    obtain ⟨g1, g2, g3, g4, g5, g6⟩ := Has.p (k := RB x) (a := ((a, t), U)) inferInstance hh
    exact Holds.cons g1 (Holds.cons g2 (Holds.cons g3 (Holds.cons g4 (Holds.cons g5 (holds1 g6)))))) ?_
  refine W.cl [] (by kernel_rfl) (u_of 0 0 (by decide) (by omega) (by omega)) ?_
  rintro _ _ ⟨S1, s1, R1, t1, rfl, rfl⟩
  refine W.cl [] (by kernel_rfl) (u_num S1 s1 R1 t1) ?_
  rintro _ _ ⟨Z1, rfl, rfl⟩
  refine W.cl [] (by kernel_rfl) (u_of 0 0 (by decide) (by omega) (by omega)) ?_
  rintro _ _ ⟨S2, s2, R2, t2, rfl, rfl⟩
  refine W.cl [] (by kernel_rfl) (u_num S2 s2 R2 t2) ?_
  rintro _ _ ⟨Z2, rfl, rfl⟩
  refine W.cx [] (by kernel_rfl) (Γ' := [RB ⟨y.A, y.B, y.C, y.D, Z1, Z2⟩ ((c, 0), V.lin)]) (fun I w _ hh => by
    obtain ⟨g1, g2, g3, g4, _, _⟩ := Has.p (k := RB y) (a := ((c, d), V)) inferInstance hh
    exact holds1 ⟨g1, g2, g3, g4, Has.p (k := TB Z1) (a := (⟨0, 0, 0, 0⟩, r2 ((0 : Int) : Rat) 0)) inferInstance hh, Has.p (k := TB Z2) (a := (⟨0, 0, 0, 0⟩, r2 ((0 : Int) : Rat) 0)) inferInstance hh⟩) (u_at8 ⟨y.A, y.B, y.C, y.D, Z1, Z2⟩ x.A x.C) ?_
  rintro _ _ ⟨X3, Y3, rfl, rfl⟩
  refine W.cx [] (by kernel_rfl) (Γ' := [RB ⟨y.A, y.B, y.C, y.D, Z1, Z2⟩ ((c, 0), V.lin)]) (fun I w _ hh => by
    obtain ⟨g1, g2, g3, g4, _, _⟩ := Has.p (k := RB y) (a := ((c, d), V)) inferInstance hh
    exact holds1 ⟨g1, g2, g3, g4, Has.p (k := TB Z1) (a := (⟨0, 0, 0, 0⟩, r2 ((0 : Int) : Rat) 0)) inferInstance hh, Has.p (k := TB Z2) (a := (⟨0, 0, 0, 0⟩, r2 ((0 : Int) : Rat) 0)) inferInstance hh⟩) (u_at8 ⟨y.A, y.B, y.C, y.D, Z1, Z2⟩ x.B x.D) ?_
  rintro _ _ ⟨X4, Y4, rfl, rfl⟩
  refine W.cl [] (by kernel_rfl) (u_at8 y x.E x.F) ?_
  rintro _ _ ⟨X5, Y5, rfl, rfl⟩
  exact W.r [] (rtv X3 X4 Y3 Y4 X5 Y5) (by kernel_rfl) ⟨⟨_, _, _, _, _, _⟩, rfl, rfl⟩ (entRB rfl rfl rfl rfl rfl rfl (all_le (by omega)) (all_le (by omega)) (all_le (by omega)) (all_le (by omega)) (all_le (by omega)) (all_le (by omega)))

theorem p_osameB (x : Sw) (y : Tw) {S : Sn} [Has (SF x) (L, S) Γ] {k m : Nat} [Has (TB y) (B4.all m, S) Γ] (hk : bS k S) (hk2 : k ≤ 1000000) (hL : L ≤ 1000000 := by omega) (hM : m ≤ 100000000000000 := by omega) :
    PCalls tb Tryz.prog 32 [sv x, tv y] Γ (IsV (.bool true)) := by
  refine PCalls.of_W tbOk Tryz.func32 rfl (by kernel_rfl) ?_
  refine W.sf x rfl ?_
  refine W.tB y rfl ?_
  intro hm hn
  refine W.cl [] (by kernel_rfl) (p_xfield x) ?_
  rintro _ _ ⟨rfl, rfl⟩
  refine W.cl [] (by kernel_rfl) (p_xparts x) ?_
  rintro _ _ ⟨rfl, rfl⟩
  refine W.unr [] 6 (by kernel_rfl) ?_
  refine W.cl [17] (by kernel_rfl) (p_qtext x.p.n x.p.a x.p.m x.p.b) ?_
  rintro _ _ ⟨rfl, rfl⟩
  refine W.cl [] (by kernel_rfl) (u_text y.p.n y.p.a y.p.m y.p.b hk.2.2.1 hk2 hM) ?_
  rintro _ _ ⟨rfl, rfl⟩
  refine W.df [] 29 (!(qtxt S.p).toList == (qtxt S.p).toList) (by kernel_rfl) (by simp) ?_
  refine W.cl [17, 29] (by kernel_rfl) (p_qtext x.q.n x.q.a x.q.m x.q.b) ?_
  rintro _ _ ⟨rfl, rfl⟩
  refine W.cl [] (by kernel_rfl) (u_text y.q.n y.q.a y.q.m y.q.b hk.2.2.2.1 hk2 hM) ?_
  rintro _ _ ⟨rfl, rfl⟩
  refine W.df [] 29 (!(qtxt S.q).toList == (qtxt S.q).toList) (by kernel_rfl) (by simp) ?_
  refine W.cl [17, 29] (by kernel_rfl) (p_qtext x.r.n x.r.a x.r.m x.r.b) ?_
  rintro _ _ ⟨rfl, rfl⟩
  refine W.cl [] (by kernel_rfl) (u_text y.r.n y.r.a y.r.m y.r.b hk.2.2.2.2.1 hk2 hM) ?_
  rintro _ _ ⟨rfl, rfl⟩
  refine W.df [] 29 (!(qtxt S.r).toList == (qtxt S.r).toList) (by kernel_rfl) (by simp) ?_
  refine W.cl [17, 29] (by kernel_rfl) (p_qtext x.s.n x.s.a x.s.m x.s.b) ?_
  rintro _ _ ⟨rfl, rfl⟩
  refine W.cl [] (by kernel_rfl) (u_text y.s.n y.s.a y.s.m y.s.b hk.2.2.2.2.2 hk2 hM) ?_
  rintro _ _ ⟨rfl, rfl⟩
  refine W.df [] 29 (!(qtxt S.s).toList == (qtxt S.s).toList) (by kernel_rfl) (by simp) ?_
  refine W.cl [17, 29] (by kernel_rfl) (p_ztext x.u x.d) ?_
  rintro _ _ ⟨rfl, rfl⟩
  refine W.cl [] (by kernel_rfl) (p_ytext y.d y.u) ?_
  rintro _ _ ⟨rfl, rfl⟩
  refine W.dt [] 36 ((ztxt S.m).toList == (ztxt S.m).toList) (by kernel_rfl) (by simp) ?_
  refine W.cl [36] (by kernel_rfl) (p_ztext x.v x.e) ?_
  rintro _ _ ⟨rfl, rfl⟩
  refine W.cl [36] (by kernel_rfl) (p_ytext y.e y.v) ?_
  rintro _ _ ⟨rfl, rfl⟩
  exact W.r [36] (.bool ((ztxt S.n).toList == (ztxt S.n).toList)) (by kernel_rfl) ⟨by simp, rfl⟩ ent0

theorem p_oalikeB (x y : Sw) (s t : Tw) {X Y : Sn} {L1 L2 m k : Nat} [Has (SF x) (L1, X) Γ] [Has (SF y) (L2, Y) Γ] [Has (TB s) (B4.all m, X) Γ] [Has (TB t) (B4.all m, Y) Γ] (hX : bS k X) (hY : bS k Y) (hk : k ≤ 1000000 := by omega) (hL : L1 ≤ 1000000 ∧ L2 ≤ 1000000 ∧ m ≤ 100000000000000 := by omega) :
    PCalls tb Tryz.prog 10 [plv x y, spv s t] Γ (IsV (.bool true)) := by
  refine PCalls.of_W tbOk Tryz.func10 rfl (by kernel_rfl) ?_
  refine W.cl [] (by kernel_rfl) (p_osameB x s hX hk) ?_
  rintro _ _ ⟨rfl, rfl⟩
  refine W.cl [10] (by kernel_rfl) (p_osameB y t hY hk) ?_
  rintro _ _ ⟨rfl, rfl⟩
  exact W.r [10] (.bool true) (by kernel_rfl) ⟨rfl, rfl⟩ ent0

theorem pb_sign {S R : Int} {t r : Sl} {L : Nat} {q : Rat} {I : Blk} {w : World} (h : (PB S t R r (L, q)).p I w) : S = q.num.sign := by
  obtain ⟨n, d, h1, h2, hd, hq, _⟩ := h
  exact h1.2.trans (sign_of hd hq)
def KB (x : Q5) (y : R6) (a : Nat × Bool × On × Rn) : Fact where
  p I w := a.2.1 = true → (OF x (a.1, a.2.2.1)).p I w ∧ (RB y ((110, 100), a.2.2.2)).p I w
  up := by
    rintro I I' w w' h h1 h2 h3 ha
    exact ⟨(OF x _).up (h ha).1 h1 h2 h3, (RB y _).up (h ha).2 h1 h2 h3⟩
theorem entKB0 {x : Q5} {y : R6} {L' : Nat} {ok : Bool} {V : On} {U : Rn} (h : ok = false) : ∀ (I : Blk) (w : World), DataOK tb I w → Holds Γ I w → Holds [KB x y (L', ok, V, U)] I w := fun I w _ _ => holds1 (fun ha => by simp only at ha; rw [h] at ha; simp at ha)
theorem W.kB {P : Program} {c : Cfg} (x : Q5) (y : R6) {ok : Bool} {V : On} {U : Rn} [h : Has (KB x y) (L, ok, V, U) Γ] (hm : midOps c.k = false) (hok : ok = true) (hk : W tb P fin c (OF x (L, V) :: RB y ((110, 100), U) :: Γ)) : W tb P fin c Γ :=
  W.more (Δ := [OF x (L, V), RB y ((110, 100), U)]) hm (fun I w _ hh => Holds.cons ((h.p hh) hok).1 (holds1 ((h.p hh) hok).2)) hk

def WBPost (f : Bool) (o : Int) (m x y : ByteArray) (v : Value) (Δ : List Fact) : Prop := ∃ (f' : Bool) (o' : Int) (a : Q5) (b : R6), v = .tuple #[ttv f' o' a.g a.a a.b a.c a.d, rtv b.A b.B b.C b.D b.E b.F, .bool (wayOk o m x y)] ∧
  (wayOk o m x y = true → f' = f ∧ o' = o) ∧ Δ = [KB a b (700, wayOk o m x y, wayOn f o m x y, mkRn f (qval m) o (qval x) (qval y))]
theorem wfailB {f : Bool} {o : Int} {m x y : ByteArray} (hf : wayOk o m x y = false) : WBPost f o m x y (.tuple #[ttv false 0 nilQ nilQ nilQ nilQ nilQ, rtv nilT nilT nilT nilT nilT nilT, .bool false]) [KB ⟨nilQ, nilQ, nilQ, nilQ, nilQ⟩ ⟨nilT, nilT, nilT, nilT, nilT, nilT⟩ (700, wayOk o m x y, wayOn f o m x y, mkRn f (qval m) o (qval x) (qval y))] :=
  ⟨false, 0, ⟨nilQ, nilQ, nilQ, nilQ, nilQ⟩, ⟨nilT, nilT, nilT, nilT, nilT, nilT⟩, by rw [hf], fun h => by rw [hf] at h; simp at h, rfl⟩

set_option maxHeartbeats 8000000 in
theorem p_wmadeB (f : Bool) (o : Int) (m x y : ByteArray) (hm : m.size ≤ 9223372036854775807) (hx : x.size ≤ 9223372036854775807) (hy : y.size ≤ 9223372036854775807) :
    PCalls tb Tryz.prog 6 [.agg #[.bool f, .int .i64 o, .string m, .string x, .string y]] Γ (WBPost f o m x y) := by
  have bad : ∀ {P : Prop} [Decidable P], ¬ P → (wayOk o m x y = true → P) → wayOk o m x y = false := fun {P} _ h1 h2 => by
    cases h : wayOk o m x y with
    | false => rfl
    | true => exact absurd (h2 h) h1
  have un : wayOk o m x y = true → (m.size ≤ 30 ∧ x.size ≤ 30 ∧ y.size ≤ 30 ∧ 0 ≤ o ∧ o ≤ 7 ∧ qerr m = 0 ∧ qerr x = 0 ∧ qerr y = 0 ∧ 0 < (qval m).num.sign) := fun h => by
    unfold wayOk at h
    simpa only [Bool.and_eq_true, decide_eq_true_eq, beq_iff_eq] using h
  refine PCalls.of_W tbOk Tryz.func6 rfl (by kernel_rfl) ?_
  by_cases h1 : 30 < m.size
  · refine W.dt [] 23 (decide ((m.size : Int) > 30)) (by kernel_rfl) (by rw [decide_eq_true_iff]; omega) ?_
    exact W.r [23, 29, 35, 40, 44] _ (by kernel_rfl) (wfailB (bad (P := m.size ≤ 30) (by omega) (fun h => (un h).1))) (entKB0 (bad (P := m.size ≤ 30) (by omega) (fun h => (un h).1)))
  refine W.df [] 23 (decide ((m.size : Int) > 30)) (by kernel_rfl) (by rw [decide_eq_false_iff_not]; omega) ?_
  by_cases h2 : 30 < x.size
  · refine W.dt [23] 29 (decide ((x.size : Int) > 30)) (by kernel_rfl) (by rw [decide_eq_true_iff]; omega) ?_
    exact W.r [29, 35, 40, 44] _ (by kernel_rfl) (wfailB (bad (P := x.size ≤ 30) (by omega) (fun h => (un h).2.1))) (entKB0 (bad (P := x.size ≤ 30) (by omega) (fun h => (un h).2.1)))
  refine W.df [23] 29 (decide ((x.size : Int) > 30)) (by kernel_rfl) (by rw [decide_eq_false_iff_not]; omega) ?_
  by_cases h3 : 30 < y.size
  · refine W.dt [29] 35 (decide ((y.size : Int) > 30)) (by kernel_rfl) (by rw [decide_eq_true_iff]; omega) ?_
    exact W.r [35, 40, 44] _ (by kernel_rfl) (wfailB (bad (P := y.size ≤ 30) (by omega) (fun h => (un h).2.2.1))) (entKB0 (bad (P := y.size ≤ 30) (by omega) (fun h => (un h).2.2.1)))
  refine W.df [29] 35 (decide ((y.size : Int) > 30)) (by kernel_rfl) (by rw [decide_eq_false_iff_not]; omega) ?_
  by_cases h4 : o < 0
  · refine W.dt [35] 40 (decide (o < 0)) (by kernel_rfl) (by rw [decide_eq_true_iff]; omega) ?_
    exact W.r [40, 44] _ (by kernel_rfl) (wfailB (bad (P := 0 ≤ o) (by omega) (fun h => (un h).2.2.2.1))) (entKB0 (bad (P := 0 ≤ o) (by omega) (fun h => (un h).2.2.2.1)))
  refine W.df [35] 40 (decide (o < 0)) (by kernel_rfl) (by rw [decide_eq_false_iff_not]; omega) ?_
  by_cases h5 : 7 < o
  · refine W.dt [40] 44 (decide (o > 7)) (by kernel_rfl) (by rw [decide_eq_true_iff]; omega) ?_
    exact W.r [44] _ (by kernel_rfl) (wfailB (bad (P := o ≤ 7) (by omega) (fun h => (un h).2.2.2.2.1))) (entKB0 (bad (P := o ≤ 7) (by omega) (fun h => (un h).2.2.2.2.1)))
  refine W.df [40] 44 (decide (o > 7)) (by kernel_rfl) (by rw [decide_eq_false_iff_not]; omega) ?_
  refine W.cl [44] (by kernel_rfl) (p_qparse m hm) ?_
  rintro _ _ ⟨n1, a1, m1, b1, rfl, rfl⟩
  refine W.cl [] (by kernel_rfl) (p_qparse x hx) ?_
  rintro _ _ ⟨n2, a2, m2, b2, rfl, rfl⟩
  refine W.cl [] (by kernel_rfl) (p_qparse y hy) ?_
  rintro _ _ ⟨n3, a3, m3, b3, rfl, rfl⟩
  refine W.cl [] (by kernel_rfl) ((u_parse m (by omega)).info (fun v Δ => ∀ S t R r L, Δ = [PB S t R r (L, qval m)] → S = (qval m).num.sign) (by
    rintro v Δ - I w hh S t R r L rfl
    exact pb_sign (hh _ (.head _)))) ?_
  rintro _ _ ⟨⟨S4, s4, R4, t4, rfl, rfl⟩, hS⟩
  have hS := hS _ _ _ _ _ rfl
  refine W.cl [] (by kernel_rfl) (u_parse x (by omega)) ?_
  rintro _ _ ⟨S5, s5, R5, t5, rfl, rfl⟩
  refine W.cl [] (by kernel_rfl) (u_parse y (by omega)) ?_
  rintro _ _ ⟨S6, s6, R6, t6, rfl, rfl⟩
  by_cases e1' : ¬ (qerr m = 0)
  · have e1 := e1'
    refine W.dt [] 85 (qerr m != 0) (by kernel_rfl) (by simpa using e1) ?_
    exact W.r [85, 89, 93, 101, 106] _ (by kernel_rfl) (wfailB (bad e1 (fun h => (un h).2.2.2.2.2.1))) (entKB0 (bad e1 (fun h => (un h).2.2.2.2.2.1)))
  have e1 := Classical.not_not.1 e1'
  rw [e1]
  by_cases e2' : ¬ (qerr x = 0)
  · have e2 := e2'
    refine W.dt [85] 89 (qerr x != 0) (by kernel_rfl) (by simpa using e2) ?_
    exact W.r [89, 93, 101, 106] _ (by kernel_rfl) (wfailB (bad e2 (fun h => (un h).2.2.2.2.2.2.1))) (entKB0 (bad e2 (fun h => (un h).2.2.2.2.2.2.1)))
  have e2 := Classical.not_not.1 e2'
  rw [e2]
  by_cases e3' : ¬ (qerr y = 0)
  · have e3 := e3'
    refine W.dt [85, 89] 93 (qerr y != 0) (by kernel_rfl) (by simpa using e3) ?_
    exact W.r [93, 101, 106] _ (by kernel_rfl) (wfailB (bad e3 (fun h => (un h).2.2.2.2.2.2.2.1))) (entKB0 (bad e3 (fun h => (un h).2.2.2.2.2.2.2.1)))
  have e3 := Classical.not_not.1 e3'
  rw [e3]
  by_cases hs' : ¬ (0 < (qval m).num.sign)
  · have hs := hs'
    refine W.dt [85, 89, 93, 101] 106 (decide (S4 ≤ 0)) (by kernel_rfl) (by rw [decide_eq_true_iff]; omega) ?_
    exact W.r [106] _ (by kernel_rfl) (wfailB (bad hs (fun h => (un h).2.2.2.2.2.2.2.2))) (entKB0 (bad hs (fun h => (un h).2.2.2.2.2.2.2.2)))
  have hs := Classical.not_not.1 hs'
  refine W.df [85, 89, 93, 101] 106 (decide (S4 ≤ 0)) (by kernel_rfl) (by rw [decide_eq_false_iff_not]; omega) ?_
  have hok : wayOk o m x y = true := by
    unfold wayOk
    rw [decide_eq_true (by omega), decide_eq_true (by omega), decide_eq_true (by omega), decide_eq_true (by omega), decide_eq_true (by omega), e1, e2, e3, decide_eq_true hs]
    rfl
  refine W.cl [106] (by kernel_rfl) (p_omake f ⟨n1, a1, m1, b1⟩ o ⟨n2, a2, m2, b2⟩ ⟨n3, a3, m3, b3⟩ (by omega) hs) ?_
  rintro _ _ ⟨rfl, rfl⟩
  refine W.cl [] (by kernel_rfl) (u_make8 f S4 s4 R4 t4 o S5 s5 R5 t5 S6 s6 R6 t6 (by omega)) ?_
  rintro _ _ ⟨x6, rfl, rfl⟩
  refine W.r [] (.tuple #[ttv f o ⟨n1, a1, m1, b1⟩ ⟨n2, a2, m2, b2⟩ nilQ ⟨n3, a3, m3, b3⟩ nilQ, rtv x6.A x6.B x6.C x6.D x6.E x6.F, .bool true]) (by kernel_rfl) ⟨f, o, ⟨⟨n1, a1, m1, b1⟩, ⟨n2, a2, m2, b2⟩, nilQ, ⟨n3, a3, m3, b3⟩, nilQ⟩, x6, by rw [hok], fun _ => ⟨rfl, rfl⟩, rfl⟩ (fun I w hd hh => holds1 (fun _ => ⟨?_, ?_⟩))
  · exact OF.up2 (Has.p (k := OF ⟨⟨n1, a1, m1, b1⟩, ⟨n2, a2, m2, b2⟩, nilQ, ⟨n3, a3, m3, b3⟩, nilQ⟩) inferInstance hh) (by omega)
  · exact Has.p (k := RB x6) (a := ((100 + 10, 100), mkRn f (qval m) o (qval x) (qval y))) inferInstance hh

end
end Go.Proofs.YtlpfkbkpnljieaaGreat
