
/- The reference's turns; turns out of texts. -/
import Derived.Test.YtabpaiboodllbaaGreatOd
import Derived.Test.YtabpaiboodllbaaGreatRc
set_option linter.unusedSimpArgs false
set_option linter.unusedVariables false
namespace Go.Proofs.YtabpaiboodllbaaGreat
open Go.RowKit Go.IntWalk

/-- The cosine of so many eighths. -/
def c8 (k : Int) : Sn := r2 (pc (k % 8)) (Rat.divInt (pcr (k % 8)) 2)
abbrev rtv (A B C D E F : Tw) : Value := .agg ((tv A).cells ++ (tv B).cells ++ (tv C).cells ++ (tv D).cells ++ (tv E).cells ++ (tv F).cells)
/-- The reference's turn: four numbers, and where 0 0 comes to. -/
structure R6 where
  A : Tw
  B : Tw
  C : Tw
  D : Tw
  E : Tw
  F : Tw
structure Rn where
  A : Sn
  B : Sn
  C : Sn
  D : Sn
  E : Sn
  F : Sn
def RT (x : R6) (a : Nat × Rn) : Fact where
  p I w := (TF x.A (a.1, a.2.A)).p I w ∧ (TF x.B (a.1, a.2.B)).p I w ∧ (TF x.C (a.1, a.2.C)).p I w ∧ (TF x.D (a.1, a.2.D)).p I w ∧ (TF x.E (a.1, a.2.E)).p I w ∧ (TF x.F (a.1, a.2.F)).p I w
  up := by
    rintro I I' w w' ⟨g1, g2, g3, g4, g5, g6⟩ h1 h2 h3
    exact ⟨(TF x.A _).up g1 h1 h2 h3, (TF x.B _).up g2 h1 h2 h3, (TF x.C _).up g3 h1 h2 h3, (TF x.D _).up g4 h1 h2 h3, (TF x.E _).up g5 h1 h2 h3, (TF x.F _).up g6 h1 h2 h3⟩
theorem TF.up2 {x : Tw} {S : Sn} {L L' : Nat} {I : Blk} {w : World} (h : (TF x (L, S)).p I w) (hL : L ≤ L') : (TF x (L', S)).p I w := by
  obtain ⟨g1, g2, g3, g4, g5, g6⟩ := h
  exact ⟨YF.up2 g1 hL, YF.up2 g2 hL, PF.up2 g3 hL, PF.up2 g4 hL, PF.up2 g5 hL, PF.up2 g6 hL⟩
def mkRn (f : Bool) (m : Rat) (o : Int) (x y : Rat) : Rn := ⟨(r2 m 0).mul (c8 o), if f then ((r2 m 0).mul (c8 (o - 2))).neg.neg else ((r2 m 0).mul (c8 (o - 2))).neg, (r2 m 0).mul (c8 (o - 2)), if f then ((r2 m 0).mul (c8 o)).neg else (r2 m 0).mul (c8 o), r2 x 0, r2 y 0⟩
section
variable {fin : VS → List Fact → Prop} {Γ : List Fact} {L M K : Nat}
theorem entRT {x : R6} {V : Rn} {L' L1 L2 L3 L4 L5 L6 : Nat} {a b c d e f : Sn} [h1 : Has (TF x.A) (L1, a) Γ] [h2 : Has (TF x.B) (L2, b) Γ] [h3 : Has (TF x.C) (L3, c) Γ] [h4 : Has (TF x.D) (L4, d) Γ] [h5 : Has (TF x.E) (L5, e) Γ] [h6 : Has (TF x.F) (L6, f) Γ]
    (e1 : a = V.A) (e2 : b = V.B) (e3 : c = V.C) (e4 : d = V.D) (e5 : e = V.E) (e6 : f = V.F) (hL : L1 ≤ L' ∧ L2 ≤ L' ∧ L3 ≤ L' ∧ L4 ≤ L' ∧ L5 ≤ L' ∧ L6 ≤ L') : ∀ (I : Blk) (w : World), DataOK tb I w → Holds Γ I w → Holds [RT x (L', V)] I w := fun I w _ hh => by
  subst e1 e2 e3 e4 e5 e6
  exact holds1 ⟨TF.up2 (h1.p hh) hL.1, TF.up2 (h2.p hh) hL.2.1, TF.up2 (h3.p hh) hL.2.2.1, TF.up2 (h4.p hh) hL.2.2.2.1, TF.up2 (h5.p hh) hL.2.2.2.2.1, TF.up2 (h6.p hh) hL.2.2.2.2.2⟩
theorem s_frac (a b : Int) (hb : 0 < b) (h1 : -9223372036854775808 ≤ a) (h2 : a < 9223372036854775808) (h3 : b < 9223372036854775808) :
    PCalls tb Tryz.prog 84 [.int .i64 a, .int .i64 b] Γ (PPost 6 (Rat.divInt a b)) := by
  refine PCalls.of_W tbOk Tryz.func84 rfl (by kernel_rfl) ?_
  refine W.cl [] (by kernel_rfl) (p_yof a (by omega) (by omega)) ?_
  rintro _ _ ⟨S1, t1, rfl, rfl⟩   -- a
  refine W.cl [] (by kernel_rfl) (p_yof b (by omega) (by omega)) ?_
  rintro _ _ ⟨S2, t2, rfl, rfl⟩   -- b
  exact W.r [] (pv S1 t1 S2 t2) (by kernel_rfl) ⟨_, _, _, _, rfl, rfl⟩ (entYP (by omega) (by omega) hb rfl)
theorem r_eighth_m2 : PCalls tb Tryz.prog 104 [.int .i64 (-2)] Γ (TPost 8 (c8 (-2))) := by
  refine PCalls.of_W tbOk Tryz.func104 rfl (by kernel_rfl) ?_
  refine W.cl [] (by kernel_rfl) (s_of 0 (by omega) (by omega)) ?_
  rintro _ _ ⟨S1, s1, R1, t1, rfl, rfl⟩
  refine W.cl [] (by kernel_rfl) (s_frac 1 2 (by omega) (by omega) (by omega) (by omega)) ?_
  rintro _ _ ⟨S2, s2, R2, t2, rfl, rfl⟩
  refine W.rem [] (-2) 8 (-2) (by kernel_rfl) (by decide) (by decide) ?_
  refine W.rem [] (6) 8 (6) (by kernel_rfl) (by decide) (by decide) ?_
  refine W.cl [11, 15, 16, 17, 18, 19, 20, 21, 22, 23, 24, 25, 26, 27, 28, 29, 30, 31, 32, 33, 34, 35, 36, 37, 38, 39, 40] (by kernel_rfl) (r_num S1 s1 R1 t1) ?_
  rintro _ _ ⟨Y4, rfl, rfl⟩
  exact W.r [] (tv Y4) (by kernel_rfl) ⟨Y4, rfl, rfl⟩ (entT' (by omega) (r2_ext (by decide +kernel) (by decide +kernel)))
theorem r_eighth_m1 : PCalls tb Tryz.prog 104 [.int .i64 (-1)] Γ (TPost 8 (c8 (-1))) := by
  refine PCalls.of_W tbOk Tryz.func104 rfl (by kernel_rfl) ?_
  refine W.cl [] (by kernel_rfl) (s_of 0 (by omega) (by omega)) ?_
  rintro _ _ ⟨S1, s1, R1, t1, rfl, rfl⟩
  refine W.cl [] (by kernel_rfl) (s_frac 1 2 (by omega) (by omega) (by omega) (by omega)) ?_
  rintro _ _ ⟨S2, s2, R2, t2, rfl, rfl⟩
  refine W.rem [] (-1) 8 (-1) (by kernel_rfl) (by decide) (by decide) ?_
  refine W.rem [] (7) 8 (7) (by kernel_rfl) (by decide) (by decide) ?_
  refine W.cl [11, 15, 16, 17, 18, 19, 20, 21, 22, 23, 24, 25, 26, 27, 28, 29, 30, 31, 32, 33, 34, 35, 36, 37, 38, 39, 40] (by kernel_rfl) (r_root S1 s1 R1 t1 S2 s2 R2 t2) ?_
  rintro _ _ ⟨Y4, rfl, rfl⟩
  exact W.r [] (tv Y4) (by kernel_rfl) ⟨Y4, rfl, rfl⟩ (entT' (by omega) (r2_ext (by decide +kernel) (by decide +kernel)))
theorem r_eighth_0 : PCalls tb Tryz.prog 104 [.int .i64 (0)] Γ (TPost 8 (c8 (0))) := by
  refine PCalls.of_W tbOk Tryz.func104 rfl (by kernel_rfl) ?_
  refine W.cl [] (by kernel_rfl) (s_of 0 (by omega) (by omega)) ?_
  rintro _ _ ⟨S1, s1, R1, t1, rfl, rfl⟩
  refine W.cl [] (by kernel_rfl) (s_frac 1 2 (by omega) (by omega) (by omega) (by omega)) ?_
  rintro _ _ ⟨S2, s2, R2, t2, rfl, rfl⟩
  refine W.rem [] (0) 8 (0) (by kernel_rfl) (by decide) (by decide) ?_
  refine W.rem [] (8) 8 (0) (by kernel_rfl) (by decide) (by decide) ?_
  refine W.cl [11, 15, 16, 17, 18, 19, 20, 21, 22, 23, 24, 25, 26, 27, 28, 29, 30, 31, 32, 33, 34, 35, 36, 37, 38, 39, 40] (by kernel_rfl) (s_of (1) (by omega) (by omega)) ?_
  rintro _ _ ⟨S3, s3, R3, t3, rfl, rfl⟩
  refine W.cl [] (by kernel_rfl) (r_num S3 s3 R3 t3) ?_
  rintro _ _ ⟨Y4, rfl, rfl⟩
  exact W.r [] (tv Y4) (by kernel_rfl) ⟨Y4, rfl, rfl⟩ (entT' (by omega) (r2_ext (by decide +kernel) (by decide +kernel)))
theorem r_eighth_1 : PCalls tb Tryz.prog 104 [.int .i64 (1)] Γ (TPost 8 (c8 (1))) := by
  refine PCalls.of_W tbOk Tryz.func104 rfl (by kernel_rfl) ?_
  refine W.cl [] (by kernel_rfl) (s_of 0 (by omega) (by omega)) ?_
  rintro _ _ ⟨S1, s1, R1, t1, rfl, rfl⟩
  refine W.cl [] (by kernel_rfl) (s_frac 1 2 (by omega) (by omega) (by omega) (by omega)) ?_
  rintro _ _ ⟨S2, s2, R2, t2, rfl, rfl⟩
  refine W.rem [] (1) 8 (1) (by kernel_rfl) (by decide) (by decide) ?_
  refine W.rem [] (9) 8 (1) (by kernel_rfl) (by decide) (by decide) ?_
  refine W.cl [11, 15, 16, 17, 18, 19, 20, 21, 22, 23, 24, 25, 26, 27, 28, 29, 30, 31, 32, 33, 34, 35, 36, 37, 38, 39, 40] (by kernel_rfl) (r_root S1 s1 R1 t1 S2 s2 R2 t2) ?_
  rintro _ _ ⟨Y4, rfl, rfl⟩
  exact W.r [] (tv Y4) (by kernel_rfl) ⟨Y4, rfl, rfl⟩ (entT' (by omega) (r2_ext (by decide +kernel) (by decide +kernel)))
theorem r_eighth_2 : PCalls tb Tryz.prog 104 [.int .i64 (2)] Γ (TPost 8 (c8 (2))) := by
  refine PCalls.of_W tbOk Tryz.func104 rfl (by kernel_rfl) ?_
  refine W.cl [] (by kernel_rfl) (s_of 0 (by omega) (by omega)) ?_
  rintro _ _ ⟨S1, s1, R1, t1, rfl, rfl⟩
  refine W.cl [] (by kernel_rfl) (s_frac 1 2 (by omega) (by omega) (by omega) (by omega)) ?_
  rintro _ _ ⟨S2, s2, R2, t2, rfl, rfl⟩
  refine W.rem [] (2) 8 (2) (by kernel_rfl) (by decide) (by decide) ?_
  refine W.rem [] (10) 8 (2) (by kernel_rfl) (by decide) (by decide) ?_
  refine W.cl [11, 15, 16, 17, 18, 19, 20, 21, 22, 23, 24, 25, 26, 27, 28, 29, 30, 31, 32, 33, 34, 35, 36, 37, 38, 39, 40] (by kernel_rfl) (r_num S1 s1 R1 t1) ?_
  rintro _ _ ⟨Y4, rfl, rfl⟩
  exact W.r [] (tv Y4) (by kernel_rfl) ⟨Y4, rfl, rfl⟩ (entT' (by omega) (r2_ext (by decide +kernel) (by decide +kernel)))
theorem r_eighth_3 : PCalls tb Tryz.prog 104 [.int .i64 (3)] Γ (TPost 8 (c8 (3))) := by
  refine PCalls.of_W tbOk Tryz.func104 rfl (by kernel_rfl) ?_
  refine W.cl [] (by kernel_rfl) (s_of 0 (by omega) (by omega)) ?_
  rintro _ _ ⟨S1, s1, R1, t1, rfl, rfl⟩
  refine W.cl [] (by kernel_rfl) (s_frac 1 2 (by omega) (by omega) (by omega) (by omega)) ?_
  rintro _ _ ⟨S2, s2, R2, t2, rfl, rfl⟩
  refine W.rem [] (3) 8 (3) (by kernel_rfl) (by decide) (by decide) ?_
  refine W.rem [] (11) 8 (3) (by kernel_rfl) (by decide) (by decide) ?_
  refine W.cl [11, 15, 16, 17, 18, 19, 20, 21, 22, 23, 24, 25, 26, 27, 28, 29, 30, 31, 32, 33, 34, 35, 36, 37, 38, 39, 40] (by kernel_rfl) (s_neg S2 s2 R2 t2) ?_
  rintro _ _ ⟨S3, s3, R3, t3, rfl, rfl⟩
  refine W.cl [] (by kernel_rfl) (r_root S1 s1 R1 t1 S3 s3 R3 t3) ?_
  rintro _ _ ⟨Y4, rfl, rfl⟩
  exact W.r [] (tv Y4) (by kernel_rfl) ⟨Y4, rfl, rfl⟩ (entT' (by omega) (r2_ext (by decide +kernel) (by decide +kernel)))
theorem r_eighth_4 : PCalls tb Tryz.prog 104 [.int .i64 (4)] Γ (TPost 8 (c8 (4))) := by
  refine PCalls.of_W tbOk Tryz.func104 rfl (by kernel_rfl) ?_
  refine W.cl [] (by kernel_rfl) (s_of 0 (by omega) (by omega)) ?_
  rintro _ _ ⟨S1, s1, R1, t1, rfl, rfl⟩
  refine W.cl [] (by kernel_rfl) (s_frac 1 2 (by omega) (by omega) (by omega) (by omega)) ?_
  rintro _ _ ⟨S2, s2, R2, t2, rfl, rfl⟩
  refine W.rem [] (4) 8 (4) (by kernel_rfl) (by decide) (by decide) ?_
  refine W.rem [] (12) 8 (4) (by kernel_rfl) (by decide) (by decide) ?_
  refine W.cl [11, 15, 16, 17, 18, 19, 20, 21, 22, 23, 24, 25, 26, 27, 28, 29, 30, 31, 32, 33, 34, 35, 36, 37, 38, 39, 40] (by kernel_rfl) (s_of (-1) (by omega) (by omega)) ?_
  rintro _ _ ⟨S3, s3, R3, t3, rfl, rfl⟩
  refine W.cl [] (by kernel_rfl) (r_num S3 s3 R3 t3) ?_
  rintro _ _ ⟨Y4, rfl, rfl⟩
  exact W.r [] (tv Y4) (by kernel_rfl) ⟨Y4, rfl, rfl⟩ (entT' (by omega) (r2_ext (by decide +kernel) (by decide +kernel)))
theorem r_eighth_5 : PCalls tb Tryz.prog 104 [.int .i64 (5)] Γ (TPost 8 (c8 (5))) := by
  refine PCalls.of_W tbOk Tryz.func104 rfl (by kernel_rfl) ?_
  refine W.cl [] (by kernel_rfl) (s_of 0 (by omega) (by omega)) ?_
  rintro _ _ ⟨S1, s1, R1, t1, rfl, rfl⟩
  refine W.cl [] (by kernel_rfl) (s_frac 1 2 (by omega) (by omega) (by omega) (by omega)) ?_
  rintro _ _ ⟨S2, s2, R2, t2, rfl, rfl⟩
  refine W.rem [] (5) 8 (5) (by kernel_rfl) (by decide) (by decide) ?_
  refine W.rem [] (13) 8 (5) (by kernel_rfl) (by decide) (by decide) ?_
  refine W.cl [11, 15, 16, 17, 18, 19, 20, 21, 22, 23, 24, 25, 26, 27, 28, 29, 30, 31, 32, 33, 34, 35, 36, 37, 38, 39, 40] (by kernel_rfl) (s_neg S2 s2 R2 t2) ?_
  rintro _ _ ⟨S3, s3, R3, t3, rfl, rfl⟩
  refine W.cl [] (by kernel_rfl) (r_root S1 s1 R1 t1 S3 s3 R3 t3) ?_
  rintro _ _ ⟨Y4, rfl, rfl⟩
  exact W.r [] (tv Y4) (by kernel_rfl) ⟨Y4, rfl, rfl⟩ (entT' (by omega) (r2_ext (by decide +kernel) (by decide +kernel)))
theorem r_eighth_6 : PCalls tb Tryz.prog 104 [.int .i64 (6)] Γ (TPost 8 (c8 (6))) := by
  refine PCalls.of_W tbOk Tryz.func104 rfl (by kernel_rfl) ?_
  refine W.cl [] (by kernel_rfl) (s_of 0 (by omega) (by omega)) ?_
  rintro _ _ ⟨S1, s1, R1, t1, rfl, rfl⟩
  refine W.cl [] (by kernel_rfl) (s_frac 1 2 (by omega) (by omega) (by omega) (by omega)) ?_
  rintro _ _ ⟨S2, s2, R2, t2, rfl, rfl⟩
  refine W.rem [] (6) 8 (6) (by kernel_rfl) (by decide) (by decide) ?_
  refine W.rem [] (14) 8 (6) (by kernel_rfl) (by decide) (by decide) ?_
  refine W.cl [11, 15, 16, 17, 18, 19, 20, 21, 22, 23, 24, 25, 26, 27, 28, 29, 30, 31, 32, 33, 34, 35, 36, 37, 38, 39, 40] (by kernel_rfl) (r_num S1 s1 R1 t1) ?_
  rintro _ _ ⟨Y4, rfl, rfl⟩
  exact W.r [] (tv Y4) (by kernel_rfl) ⟨Y4, rfl, rfl⟩ (entT' (by omega) (r2_ext (by decide +kernel) (by decide +kernel)))
theorem r_eighth_7 : PCalls tb Tryz.prog 104 [.int .i64 (7)] Γ (TPost 8 (c8 (7))) := by
  refine PCalls.of_W tbOk Tryz.func104 rfl (by kernel_rfl) ?_
  refine W.cl [] (by kernel_rfl) (s_of 0 (by omega) (by omega)) ?_
  rintro _ _ ⟨S1, s1, R1, t1, rfl, rfl⟩
  refine W.cl [] (by kernel_rfl) (s_frac 1 2 (by omega) (by omega) (by omega) (by omega)) ?_
  rintro _ _ ⟨S2, s2, R2, t2, rfl, rfl⟩
  refine W.rem [] (7) 8 (7) (by kernel_rfl) (by decide) (by decide) ?_
  refine W.rem [] (15) 8 (7) (by kernel_rfl) (by decide) (by decide) ?_
  refine W.cl [11, 15, 16, 17, 18, 19, 20, 21, 22, 23, 24, 25, 26, 27, 28, 29, 30, 31, 32, 33, 34, 35, 36, 37, 38, 39, 40] (by kernel_rfl) (r_root S1 s1 R1 t1 S2 s2 R2 t2) ?_
  rintro _ _ ⟨Y4, rfl, rfl⟩
  exact W.r [] (tv Y4) (by kernel_rfl) ⟨Y4, rfl, rfl⟩ (entT' (by omega) (r2_ext (by decide +kernel) (by decide +kernel)))
theorem r_eighth (k : Int) (hk : -2 ≤ k ∧ k ≤ 7) : PCalls tb Tryz.prog 104 [.int .i64 k] Γ (TPost 8 (c8 k)) := by
  obtain rfl | rfl | rfl | rfl | rfl | rfl | rfl | rfl | rfl | rfl : k = -2 ∨ k = -1 ∨ k = 0 ∨ k = 1 ∨ k = 2 ∨ k = 3 ∨ k = 4 ∨ k = 5 ∨ k = 6 ∨ k = 7 := by omega
  · exact r_eighth_m2
  · exact r_eighth_m1
  · exact r_eighth_0
  · exact r_eighth_1
  · exact r_eighth_2
  · exact r_eighth_3
  · exact r_eighth_4
  · exact r_eighth_5
  · exact r_eighth_6
  · exact r_eighth_7
theorem r_eighthW (o : Int) (ho : 0 ≤ o ∧ o ≤ 7) : PCalls tb Tryz.prog 104 [.int .i64 (IntKind.i64.wrap (o - 2))] Γ (TPost 8 (c8 (o - 2))) := by
  rw [show IntKind.i64.wrap (o - 2) = o - 2 from i64_in _ (by omega)]
  exact r_eighth (o - 2) (by omega)
theorem r_make8 (f : Bool) (S : Int) (s : Sl) (R : Int) (t : Sl) (o : Int) (S' : Int) (s' : Sl) (R' : Int) (t' : Sl) (S'' : Int) (s'' : Sl) (R'' : Int) (t'' : Sl) {m x y : Rat} [Has (PF S s R t) (L, m) Γ] [Has (PF S' s' R' t') (M, x) Γ] [Has (PF S'' s'' R'' t'') (K, y) Γ] (ho : 0 ≤ o ∧ o ≤ 7) (hL : L ≤ 1000 ∧ M ≤ 1000 ∧ K ≤ 1000 := by omega) :
    PCalls tb Tryz.prog 41 [.bool f, pv S s R t, .int .i64 o, pv S' s' R' t', pv S'' s'' R'' t''] Γ (fun v Δ => ∃ x6 : R6, v = rtv x6.A x6.B x6.C x6.D x6.E x6.F ∧ Δ = [RT x6 (12 * max 6 L + max M K + 200, mkRn f m o x y)]) := by
  refine PCalls.of_W tbOk Tryz.func41 rfl (by kernel_rfl) ?_
  refine W.cl [] (by kernel_rfl) (r_num S s R t) ?_
  rintro _ _ ⟨Y1, rfl, rfl⟩
  refine W.cl [] (by kernel_rfl) (r_eighth o (by omega)) ?_
  rintro _ _ ⟨Y2, rfl, rfl⟩
  refine W.cl [] (by kernel_rfl) (r_xmul Y1 Y2) ?_
  rintro _ _ ⟨Y3, rfl, rfl⟩   -- (?Y1.mul ?Y2)
  refine W.cl [] (by kernel_rfl) (r_eighthW o ho) ?_
  rintro _ _ ⟨Y4, rfl, rfl⟩
  refine W.cl [] (by kernel_rfl) (r_xmul Y1 Y4) ?_
  rintro _ _ ⟨Y5, rfl, rfl⟩   -- (?Y1.mul ?Y4)
  refine W.cl [] (by kernel_rfl) (r_xneg Y5) ?_
  rintro _ _ ⟨Y6, rfl, rfl⟩   -- ((?Y1.mul ?Y4).neg)
  refine W.cl [] (by kernel_rfl) (r_num S' s' R' t') ?_
  rintro _ _ ⟨Y7, rfl, rfl⟩
  refine W.cl [] (by kernel_rfl) (r_num S'' s'' R'' t'') ?_
  rintro _ _ ⟨Y8, rfl, rfl⟩
  refine W.d [] 37 (f) (by kernel_rfl) (fun hb => ?_) (fun hb => ?_)
  · skip
    refine W.cl [37] (by kernel_rfl) (r_xneg Y6) ?_
    rintro _ _ ⟨Y9, rfl, rfl⟩   -- (((?Y1.mul ?Y4).neg).neg)
    refine W.cl [] (by kernel_rfl) (r_xneg Y3) ?_
    rintro _ _ ⟨Y10, rfl, rfl⟩   -- ((?Y1.mul ?Y2).neg)
    exact W.r [] (rtv Y3 Y9 Y5 Y10 Y7 Y8) (by kernel_rfl) ⟨⟨_, _, _, _, _, _⟩, rfl, rfl⟩ (entRT rfl (by unfold mkRn; rw [hb]; rfl) rfl (by unfold mkRn; rw [hb]; rfl) rfl rfl (by omega))
  · skip
    exact W.r [37] (rtv Y3 Y6 Y5 Y3 Y7 Y8) (by kernel_rfl) ⟨⟨_, _, _, _, _, _⟩, rfl, rfl⟩ (entRT rfl (by unfold mkRn; rw [hb]; rfl) rfl (by unfold mkRn; rw [hb]; rfl) rfl rfl (by omega))
end
end Go.Proofs.YtabpaiboodllbaaGreat
