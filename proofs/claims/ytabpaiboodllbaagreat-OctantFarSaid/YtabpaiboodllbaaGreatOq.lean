
/- The reference's turns; turns out of texts. Turns out of texts. Turns one behind the other: plain laws. Turns, by bits: how great they grow; the contracts with that. Places of whichever field, as numbers of root 2's field. The reference's turn of a point; it is the program's. -/
import Derived.Test.YtabpaiboodllbaaGreatOo
import Derived.Test.YtabpaiboodllbaaGreatRc
import Derived.Test.YtabpaiboodllbaaGreatRk
set_option linter.unusedSimpArgs false
set_option linter.unusedVariables false
namespace Go.Proofs.YtabpaiboodllbaaGreat
open Go.RowKit Go.IntWalk

/-- The cosine of so many eighths. -/
def c8 (k : Int) : Sn := r2 (pc (k % 8)) (Rat.divInt (pcr (k % 8)) 2)
abbrev rtv (A B C D E F : Tw) : Value := .agg ((tv A).cells ++ (tv B).cells ++ (tv C).cells ++ (tv D).cells ++ (tv E).cells ++ (tv F).cells)
/-- The reference's turn: four numbers, and where 0 0 comes to. -/
structure R6 where
  A : Tw
  B : Tw
  C : Tw
  D : Tw
  E : Tw
  F : Tw
structure Rn where
  A : Sn
  B : Sn
  C : Sn
  D : Sn
  E : Sn
  F : Sn
def RT (x : R6) (a : Nat × Rn) : Fact where
  p I w := (TF x.A (a.1, a.2.A)).p I w ∧ (TF x.B (a.1, a.2.B)).p I w ∧ (TF x.C (a.1, a.2.C)).p I w ∧ (TF x.D (a.1, a.2.D)).p I w ∧ (TF x.E (a.1, a.2.E)).p I w ∧ (TF x.F (a.1, a.2.F)).p I w
  up := by
    rintro I I' w w' ⟨g1, g2, g3, g4, g5, g6⟩ h1 h2 h3
    exact ⟨(TF x.A _).up g1 h1 h2 h3, (TF x.B _).up g2 h1 h2 h3, (TF x.C _).up g3 h1 h2 h3, (TF x.D _).up g4 h1 h2 h3, (TF x.E _).up g5 h1 h2 h3, (TF x.F _).up g6 h1 h2 h3⟩
theorem TF.up2 {x : Tw} {S : Sn} {L L' : Nat} {I : Blk} {w : World} (h : (TF x (L, S)).p I w) (hL : L ≤ L') : (TF x (L', S)).p I w := by
  obtain ⟨g1, g2, g3, g4, g5, g6⟩ := h
  exact ⟨YF.up2 g1 hL, YF.up2 g2 hL, PF.up2 g3 hL, PF.up2 g4 hL, PF.up2 g5 hL, PF.up2 g6 hL⟩
def mkRn (f : Bool) (m : Rat) (o : Int) (x y : Rat) : Rn := ⟨(r2 m 0).mul (c8 o), if f then ((r2 m 0).mul (c8 (o - 2))).neg.neg else ((r2 m 0).mul (c8 (o - 2))).neg, (r2 m 0).mul (c8 (o - 2)), if f then ((r2 m 0).mul (c8 o)).neg else (r2 m 0).mul (c8 o), r2 x 0, r2 y 0⟩
section
variable {fin : VS → List Fact → Prop} {Γ : List Fact} {L M K : Nat}
theorem entRT {x : R6} {V : Rn} {L' L1 L2 L3 L4 L5 L6 : Nat} {a b c d e f : Sn} [h1 : Has (TF x.A) (L1, a) Γ] [h2 : Has (TF x.B) (L2, b) Γ] [h3 : Has (TF x.C) (L3, c) Γ] [h4 : Has (TF x.D) (L4, d) Γ] [h5 : Has (TF x.E) (L5, e) Γ] [h6 : Has (TF x.F) (L6, f) Γ]
    (e1 : a = V.A) (e2 : b = V.B) (e3 : c = V.C) (e4 : d = V.D) (e5 : e = V.E) (e6 : f = V.F) (hL : L1 ≤ L' ∧ L2 ≤ L' ∧ L3 ≤ L' ∧ L4 ≤ L' ∧ L5 ≤ L' ∧ L6 ≤ L') : ∀ (I : Blk) (w : World), DataOK tb I w → Holds Γ I w → Holds [RT x (L', V)] I w := fun I w _ hh => by
  subst e1 e2 e3 e4 e5 e6
  exact holds1 ⟨TF.up2 (h1.p hh) hL.1, TF.up2 (h2.p hh) hL.2.1, TF.up2 (h3.p hh) hL.2.2.1, TF.up2 (h4.p hh) hL.2.2.2.1, TF.up2 (h5.p hh) hL.2.2.2.2.1, TF.up2 (h6.p hh) hL.2.2.2.2.2⟩
theorem r_eighth_m2 : PCalls tb Tryz.prog 104 [.int .i64 (-2)] Γ (TPost 8 (c8 (-2))) := by
  refine PCalls.of_W tbOk Tryz.func104 rfl (by kernel_rfl) ?_
  refine W.cl [] (by kernel_rfl) (s_of 0 (by omega) (by omega)) ?_
  rintro _ _ ⟨S1, s1, R1, t1, rfl, rfl⟩
  refine W.cl [] (by kernel_rfl) (s_frac 1 2 (by omega) (by omega) (by omega) (by omega)) ?_
  rintro _ _ ⟨S2, s2, R2, t2, rfl, rfl⟩
  refine W.rem [] (-2) 8 (-2) (by kernel_rfl) (by decide) (by decide) ?_
  refine W.rem [] (6) 8 (6) (by kernel_rfl) (by decide) (by decide) ?_
  refine W.cl [11, 15, 16, 17, 18, 19, 20, 21, 22, 23, 24, 25, 26, 27, 28, 29, 30, 31, 32, 33, 34, 35, 36, 37, 38, 39, 40] (by kernel_rfl) (r_num S1 s1 R1 t1) ?_
  rintro _ _ ⟨Y4, rfl, rfl⟩
  exact W.r [] (tv Y4) (by kernel_rfl) ⟨Y4, rfl, rfl⟩ (entT' (by omega) (r2_ext (by decide +kernel) (by decide +kernel)))
theorem r_eighth_m1 : PCalls tb Tryz.prog 104 [.int .i64 (-1)] Γ (TPost 8 (c8 (-1))) := by
  refine PCalls.of_W tbOk Tryz.func104 rfl (by kernel_rfl) ?_
  refine W.cl [] (by kernel_rfl) (s_of 0 (by omega) (by omega)) ?_
  rintro _ _ ⟨S1, s1, R1, t1, rfl, rfl⟩
  refine W.cl [] (by kernel_rfl) (s_frac 1 2 (by omega) (by omega) (by omega) (by omega)) ?_
  rintro _ _ ⟨S2, s2, R2, t2, rfl, rfl⟩
  refine W.rem [] (-1) 8 (-1) (by kernel_rfl) (by decide) (by decide) ?_
  refine W.rem [] (7) 8 (7) (by kernel_rfl) (by decide) (by decide) ?_
  refine W.cl [11, 15, 16, 17, 18, 19, 20, 21, 22, 23, 24, 25, 26, 27, 28, 29, 30, 31, 32, 33, 34, 35, 36, 37, 38, 39, 40] (by kernel_rfl) (r_root S1 s1 R1 t1 S2 s2 R2 t2) ?_
  rintro _ _ ⟨Y4, rfl, rfl⟩
  exact W.r [] (tv Y4) (by kernel_rfl) ⟨Y4, rfl, rfl⟩ (entT' (by omega) (r2_ext (by decide +kernel) (by decide +kernel)))
theorem r_eighth_0 : PCalls tb Tryz.prog 104 [.int .i64 (0)] Γ (TPost 8 (c8 (0))) := by
  refine PCalls.of_W tbOk Tryz.func104 rfl (by kernel_rfl) ?_
  refine W.cl [] (by kernel_rfl) (s_of 0 (by omega) (by omega)) ?_
  rintro _ _ ⟨S1, s1, R1, t1, rfl, rfl⟩
  refine W.cl [] (by kernel_rfl) (s_frac 1 2 (by omega) (by omega) (by omega) (by omega)) ?_
  rintro _ _ ⟨S2, s2, R2, t2, rfl, rfl⟩
  refine W.rem [] (0) 8 (0) (by kernel_rfl) (by decide) (by decide) ?_
  refine W.rem [] (8) 8 (0) (by kernel_rfl) (by decide) (by decide) ?_
  refine W.cl [11, 15, 16, 17, 18, 19, 20, 21, 22, 23, 24, 25, 26, 27, 28, 29, 30, 31, 32, 33, 34, 35, 36, 37, 38, 39, 40] (by kernel_rfl) (s_of (1) (by omega) (by omega)) ?_
  rintro _ _ ⟨S3, s3, R3, t3, rfl, rfl⟩
  refine W.cl [] (by kernel_rfl) (r_num S3 s3 R3 t3) ?_
  rintro _ _ ⟨Y4, rfl, rfl⟩
  exact W.r [] (tv Y4) (by kernel_rfl) ⟨Y4, rfl, rfl⟩ (entT' (by omega) (r2_ext (by decide +kernel) (by decide +kernel)))
theorem r_eighth_1 : PCalls tb Tryz.prog 104 [.int .i64 (1)] Γ (TPost 8 (c8 (1))) := by
  refine PCalls.of_W tbOk Tryz.func104 rfl (by kernel_rfl) ?_
  refine W.cl [] (by kernel_rfl) (s_of 0 (by omega) (by omega)) ?_
  rintro _ _ ⟨S1, s1, R1, t1, rfl, rfl⟩
  refine W.cl [] (by kernel_rfl) (s_frac 1 2 (by omega) (by omega) (by omega) (by omega)) ?_
  rintro _ _ ⟨S2, s2, R2, t2, rfl, rfl⟩
  refine W.rem [] (1) 8 (1) (by kernel_rfl) (by decide) (by decide) ?_
  refine W.rem [] (9) 8 (1) (by kernel_rfl) (by decide) (by decide) ?_
  refine W.cl [11, 15, 16, 17, 18, 19, 20, 21, 22, 23, 24, 25, 26, 27, 28, 29, 30, 31, 32, 33, 34, 35, 36, 37, 38, 39, 40] (by kernel_rfl) (r_root S1 s1 R1 t1 S2 s2 R2 t2) ?_
  rintro _ _ ⟨Y4, rfl, rfl⟩
  exact W.r [] (tv Y4) (by kernel_rfl) ⟨Y4, rfl, rfl⟩ (entT' (by omega) (r2_ext (by decide +kernel) (by decide +kernel)))
theorem r_eighth_2 : PCalls tb Tryz.prog 104 [.int .i64 (2)] Γ (TPost 8 (c8 (2))) := by
  refine PCalls.of_W tbOk Tryz.func104 rfl (by kernel_rfl) ?_
  refine W.cl [] (by kernel_rfl) (s_of 0 (by omega) (by omega)) ?_
  rintro _ _ ⟨S1, s1, R1, t1, rfl, rfl⟩
  refine W.cl [] (by kernel_rfl) (s_frac 1 2 (by omega) (by omega) (by omega) (by omega)) ?_
  rintro _ _ ⟨S2, s2, R2, t2, rfl, rfl⟩
  refine W.rem [] (2) 8 (2) (by kernel_rfl) (by decide) (by decide) ?_
  refine W.rem [] (10) 8 (2) (by kernel_rfl) (by decide) (by decide) ?_
  refine W.cl [11, 15, 16, 17, 18, 19, 20, 21, 22, 23, 24, 25, 26, 27, 28, 29, 30, 31, 32, 33, 34, 35, 36, 37, 38, 39, 40] (by kernel_rfl) (r_num S1 s1 R1 t1) ?_
  rintro _ _ ⟨Y4, rfl, rfl⟩
  exact W.r [] (tv Y4) (by kernel_rfl) ⟨Y4, rfl, rfl⟩ (entT' (by omega) (r2_ext (by decide +kernel) (by decide +kernel)))
theorem r_eighth_3 : PCalls tb Tryz.prog 104 [.int .i64 (3)] Γ (TPost 8 (c8 (3))) := by
  refine PCalls.of_W tbOk Tryz.func104 rfl (by kernel_rfl) ?_
  refine W.cl [] (by kernel_rfl) (s_of 0 (by omega) (by omega)) ?_
  rintro _ _ ⟨S1, s1, R1, t1, rfl, rfl⟩
  refine W.cl [] (by kernel_rfl) (s_frac 1 2 (by omega) (by omega) (by omega) (by omega)) ?_
  rintro _ _ ⟨S2, s2, R2, t2, rfl, rfl⟩
  refine W.rem [] (3) 8 (3) (by kernel_rfl) (by decide) (by decide) ?_
  refine W.rem [] (11) 8 (3) (by kernel_rfl) (by decide) (by decide) ?_
  refine W.cl [11, 15, 16, 17, 18, 19, 20, 21, 22, 23, 24, 25, 26, 27, 28, 29, 30, 31, 32, 33, 34, 35, 36, 37, 38, 39, 40] (by kernel_rfl) (s_neg S2 s2 R2 t2) ?_
  rintro _ _ ⟨S3, s3, R3, t3, rfl, rfl⟩
  refine W.cl [] (by kernel_rfl) (r_root S1 s1 R1 t1 S3 s3 R3 t3) ?_
  rintro _ _ ⟨Y4, rfl, rfl⟩
  exact W.r [] (tv Y4) (by kernel_rfl) ⟨Y4, rfl, rfl⟩ (entT' (by omega) (r2_ext (by decide +kernel) (by decide +kernel)))
theorem r_eighth_4 : PCalls tb Tryz.prog 104 [.int .i64 (4)] Γ (TPost 8 (c8 (4))) := by
  refine PCalls.of_W tbOk Tryz.func104 rfl (by kernel_rfl) ?_
  refine W.cl [] (by kernel_rfl) (s_of 0 (by omega) (by omega)) ?_
  rintro _ _ ⟨S1, s1, R1, t1, rfl, rfl⟩
  refine W.cl [] (by kernel_rfl) (s_frac 1 2 (by omega) (by omega) (by omega) (by omega)) ?_
  rintro _ _ ⟨S2, s2, R2, t2, rfl, rfl⟩
  refine W.rem [] (4) 8 (4) (by kernel_rfl) (by decide) (by decide) ?_
  refine W.rem [] (12) 8 (4) (by kernel_rfl) (by decide) (by decide) ?_
  refine W.cl [11, 15, 16, 17, 18, 19, 20, 21, 22, 23, 24, 25, 26, 27, 28, 29, 30, 31, 32, 33, 34, 35, 36, 37, 38, 39, 40] (by kernel_rfl) (s_of (-1) (by omega) (by omega)) ?_
  rintro _ _ ⟨S3, s3, R3, t3, rfl, rfl⟩
  refine W.cl [] (by kernel_rfl) (r_num S3 s3 R3 t3) ?_
  rintro _ _ ⟨Y4, rfl, rfl⟩
  exact W.r [] (tv Y4) (by kernel_rfl) ⟨Y4, rfl, rfl⟩ (entT' (by omega) (r2_ext (by decide +kernel) (by decide +kernel)))
theorem r_eighth_5 : PCalls tb Tryz.prog 104 [.int .i64 (5)] Γ (TPost 8 (c8 (5))) := by
  refine PCalls.of_W tbOk Tryz.func104 rfl (by kernel_rfl) ?_
  refine W.cl [] (by kernel_rfl) (s_of 0 (by omega) (by omega)) ?_
  rintro _ _ ⟨S1, s1, R1, t1, rfl, rfl⟩
  refine W.cl [] (by kernel_rfl) (s_frac 1 2 (by omega) (by omega) (by omega) (by omega)) ?_
  rintro _ _ ⟨S2, s2, R2, t2, rfl, rfl⟩
  refine W.rem [] (5) 8 (5) (by kernel_rfl) (by decide) (by decide) ?_
  refine W.rem [] (13) 8 (5) (by kernel_rfl) (by decide) (by decide) ?_
  refine W.cl [11, 15, 16, 17, 18, 19, 20, 21, 22, 23, 24, 25, 26, 27, 28, 29, 30, 31, 32, 33, 34, 35, 36, 37, 38, 39, 40] (by kernel_rfl) (s_neg S2 s2 R2 t2) ?_
  rintro _ _ ⟨S3, s3, R3, t3, rfl, rfl⟩
  refine W.cl [] (by kernel_rfl) (r_root S1 s1 R1 t1 S3 s3 R3 t3) ?_
  rintro _ _ ⟨Y4, rfl, rfl⟩
  exact W.r [] (tv Y4) (by kernel_rfl) ⟨Y4, rfl, rfl⟩ (entT' (by omega) (r2_ext (by decide +kernel) (by decide +kernel)))
theorem r_eighth_6 : PCalls tb Tryz.prog 104 [.int .i64 (6)] Γ (TPost 8 (c8 (6))) := by
  refine PCalls.of_W tbOk Tryz.func104 rfl (by kernel_rfl) ?_
  refine W.cl [] (by kernel_rfl) (s_of 0 (by omega) (by omega)) ?_
  rintro _ _ ⟨S1, s1, R1, t1, rfl, rfl⟩
  refine W.cl [] (by kernel_rfl) (s_frac 1 2 (by omega) (by omega) (by omega) (by omega)) ?_
  rintro _ _ ⟨S2, s2, R2, t2, rfl, rfl⟩
  refine W.rem [] (6) 8 (6) (by kernel_rfl) (by decide) (by decide) ?_
  refine W.rem [] (14) 8 (6) (by kernel_rfl) (by decide) (by decide) ?_
  refine W.cl [11, 15, 16, 17, 18, 19, 20, 21, 22, 23, 24, 25, 26, 27, 28, 29, 30, 31, 32, 33, 34, 35, 36, 37, 38, 39, 40] (by kernel_rfl) (r_num S1 s1 R1 t1) ?_
  rintro _ _ ⟨Y4, rfl, rfl⟩
  exact W.r [] (tv Y4) (by kernel_rfl) ⟨Y4, rfl, rfl⟩ (entT' (by omega) (r2_ext (by decide +kernel) (by decide +kernel)))
theorem r_eighth_7 : PCalls tb Tryz.prog 104 [.int .i64 (7)] Γ (TPost 8 (c8 (7))) := by
  refine PCalls.of_W tbOk Tryz.func104 rfl (by kernel_rfl) ?_
  refine W.cl [] (by kernel_rfl) (s_of 0 (by omega) (by omega)) ?_
  rintro _ _ ⟨S1, s1, R1, t1, rfl, rfl⟩
  refine W.cl [] (by kernel_rfl) (s_frac 1 2 (by omega) (by omega) (by omega) (by omega)) ?_
  rintro _ _ ⟨S2, s2, R2, t2, rfl, rfl⟩
  refine W.rem [] (7) 8 (7) (by kernel_rfl) (by decide) (by decide) ?_
  refine W.rem [] (15) 8 (7) (by kernel_rfl) (by decide) (by decide) ?_
  refine W.cl [11, 15, 16, 17, 18, 19, 20, 21, 22, 23, 24, 25, 26, 27, 28, 29, 30, 31, 32, 33, 34, 35, 36, 37, 38, 39, 40] (by kernel_rfl) (r_root S1 s1 R1 t1 S2 s2 R2 t2) ?_
  rintro _ _ ⟨Y4, rfl, rfl⟩
  exact W.r [] (tv Y4) (by kernel_rfl) ⟨Y4, rfl, rfl⟩ (entT' (by omega) (r2_ext (by decide +kernel) (by decide +kernel)))
theorem r_eighth (k : Int) (hk : -2 ≤ k ∧ k ≤ 7) : PCalls tb Tryz.prog 104 [.int .i64 k] Γ (TPost 8 (c8 k)) := by
  obtain rfl | rfl | rfl | rfl | rfl | rfl | rfl | rfl | rfl | rfl : k = -2 ∨ k = -1 ∨ k = 0 ∨ k = 1 ∨ k = 2 ∨ k = 3 ∨ k = 4 ∨ k = 5 ∨ k = 6 ∨ k = 7 := by omega
  · exact r_eighth_m2
  · exact r_eighth_m1
  · exact r_eighth_0
  · exact r_eighth_1
  · exact r_eighth_2
  · exact r_eighth_3
  · exact r_eighth_4
  · exact r_eighth_5
  · exact r_eighth_6
  · exact r_eighth_7
theorem r_eighthW (o : Int) (ho : 0 ≤ o ∧ o ≤ 7) : PCalls tb Tryz.prog 104 [.int .i64 (IntKind.i64.wrap (o - 2))] Γ (TPost 8 (c8 (o - 2))) := by
  rw [show IntKind.i64.wrap (o - 2) = o - 2 from i64_in _ (by omega)]
  exact r_eighth (o - 2) (by omega)
theorem r_make8 (f : Bool) (S : Int) (s : Sl) (R : Int) (t : Sl) (o : Int) (S' : Int) (s' : Sl) (R' : Int) (t' : Sl) (S'' : Int) (s'' : Sl) (R'' : Int) (t'' : Sl) {m x y : Rat} [Has (PF S s R t) (L, m) Γ] [Has (PF S' s' R' t') (M, x) Γ] [Has (PF S'' s'' R'' t'') (K, y) Γ] (ho : 0 ≤ o ∧ o ≤ 7) (hL : L ≤ 1000 ∧ M ≤ 1000 ∧ K ≤ 1000 := by omega) :
    PCalls tb Tryz.prog 41 [.bool f, pv S s R t, .int .i64 o, pv S' s' R' t', pv S'' s'' R'' t''] Γ (fun v Δ => ∃ x6 : R6, v = rtv x6.A x6.B x6.C x6.D x6.E x6.F ∧ Δ = [RT x6 (12 * max 6 L + max M K + 200, mkRn f m o x y)]) := by
  refine PCalls.of_W tbOk Tryz.func41 rfl (by kernel_rfl) ?_
  refine W.cl [] (by kernel_rfl) (r_num S s R t) ?_
  rintro _ _ ⟨Y1, rfl, rfl⟩
  refine W.cl [] (by kernel_rfl) (r_eighth o (by omega)) ?_
  rintro _ _ ⟨Y2, rfl, rfl⟩
  refine W.cl [] (by kernel_rfl) (r_xmul Y1 Y2) ?_
  rintro _ _ ⟨Y3, rfl, rfl⟩   -- (?Y1.mul ?Y2)
  refine W.cl [] (by kernel_rfl) (r_eighthW o ho) ?_
  rintro _ _ ⟨Y4, rfl, rfl⟩
  refine W.cl [] (by kernel_rfl) (r_xmul Y1 Y4) ?_
  rintro _ _ ⟨Y5, rfl, rfl⟩   -- (?Y1.mul ?Y4)
  refine W.cl [] (by kernel_rfl) (r_xneg Y5) ?_
  rintro _ _ ⟨Y6, rfl, rfl⟩   -- ((?Y1.mul ?Y4).neg)
  refine W.cl [] (by kernel_rfl) (r_num S' s' R' t') ?_
  rintro _ _ ⟨Y7, rfl, rfl⟩
  refine W.cl [] (by kernel_rfl) (r_num S'' s'' R'' t'') ?_
  rintro _ _ ⟨Y8, rfl, rfl⟩
  refine W.d [] 37 (f) (by kernel_rfl) (fun hb => ?_) (fun hb => ?_)
  · skip
    refine W.cl [37] (by kernel_rfl) (r_xneg Y6) ?_
    rintro _ _ ⟨Y9, rfl, rfl⟩   -- (((?Y1.mul ?Y4).neg).neg)
    refine W.cl [] (by kernel_rfl) (r_xneg Y3) ?_
    rintro _ _ ⟨Y10, rfl, rfl⟩   -- ((?Y1.mul ?Y2).neg)
    exact W.r [] (rtv Y3 Y9 Y5 Y10 Y7 Y8) (by kernel_rfl) ⟨⟨_, _, _, _, _, _⟩, rfl, rfl⟩ (entRT rfl (by unfold mkRn; rw [hb]; rfl) rfl (by unfold mkRn; rw [hb]; rfl) rfl rfl (by omega))
  · skip
    exact W.r [37] (rtv Y3 Y6 Y5 Y3 Y7 Y8) (by kernel_rfl) ⟨⟨_, _, _, _, _, _⟩, rfl, rfl⟩ (entRT rfl (by unfold mkRn; rw [hb]; rfl) rfl (by unfold mkRn; rw [hb]; rfl) rfl rfl (by omega))
end
end Go.Proofs.YtabpaiboodllbaaGreat

set_option linter.unusedSimpArgs false
set_option linter.unusedVariables false
namespace Go.Proofs.YtabpaiboodllbaaGreat
open Go.RowKit Go.IntWalk

/-- May a turn be made of this? -/
def wayOk (o : Int) (m x y : ByteArray) : Bool := decide (m.size ≤ 30) && (decide (x.size ≤ 30) && (decide (y.size ≤ 30) && (decide (0 ≤ o) && (decide (o ≤ 7) && (qerr m == 0 && (qerr x == 0 && (qerr y == 0 && decide (0 < (qval m).num.sign))))))))
def wayOn (f : Bool) (o : Int) (m x y : ByteArray) : On := ⟨f, o, qval m, qval x, 0, qval y, 0⟩
abbrev nilP : Pw := ⟨0, ⟨none, 0, 0⟩, 0, ⟨none, 0, 0⟩⟩
abbrev nilT : Tw := ⟨0, ⟨none, 0, 0⟩, 0, ⟨none, 0, 0⟩, nilP, nilP, nilP, nilP⟩
def KF (x : Q5) (y : R6) (a : Nat × Bool × On × Rn) : Fact where
  p I w := a.2.1 = true → (OF x (a.1, a.2.2.1)).p I w ∧ (RT y (a.1, a.2.2.2)).p I w
  up := by
    rintro I I' w w' h h1 h2 h3 ha
    exact ⟨(OF x _).up (h ha).1 h1 h2 h3, (RT y _).up (h ha).2 h1 h2 h3⟩
theorem wayOk_spec {o : Int} {m x y : ByteArray} (h : wayOk o m x y = true) : 0 ≤ o ∧ o ≤ 7 ∧ 0 < (qval m).num.sign := by
  unfold wayOk at h
  simp only [Bool.and_eq_true, decide_eq_true_eq, beq_iff_eq] at h
  exact ⟨h.2.2.2.1, h.2.2.2.2.1, h.2.2.2.2.2.2.2.2⟩
section
variable {fin : VS → List Fact → Prop} {Γ : List Fact} {L M K : Nat}
theorem entKF0 {x : Q5} {y : R6} {L' : Nat} {ok : Bool} {V : On} {U : Rn} (h : ok = false) : ∀ (I : Blk) (w : World), DataOK tb I w → Holds Γ I w → Holds [KF x y (L', ok, V, U)] I w := fun I w _ _ => holds1 (fun ha => by simp only at ha; rw [h] at ha; simp at ha)
theorem W.kf {P : Program} {c : Cfg} (x : Q5) (y : R6) {ok : Bool} {V : On} {U : Rn} [h : Has (KF x y) (L, ok, V, U) Γ] (hm : midOps c.k = false) (hok : ok = true) (hk : W tb P fin c (OF x (L, V) :: RT y (L, U) :: Γ)) : W tb P fin c Γ :=
  W.more (Δ := [OF x (L, V), RT y (L, U)]) hm (fun I w _ hh => Holds.cons ((h.p hh) hok).1 (holds1 ((h.p hh) hok).2)) hk

def WPost (f : Bool) (o : Int) (m x y : ByteArray) (v : Value) (Δ : List Fact) : Prop := ∃ (f' : Bool) (o' : Int) (a : Q5) (b : R6), v = .tuple #[ttv f' o' a.g a.a a.b a.c a.d, rtv b.A b.B b.C b.D b.E b.F, .bool (wayOk o m x y)] ∧
  (wayOk o m x y = true → f' = f ∧ o' = o) ∧ Δ = [KF a b (700, wayOk o m x y, wayOn f o m x y, mkRn f (qval m) o (qval x) (qval y))]
theorem wfail {f : Bool} {o : Int} {m x y : ByteArray} (hf : wayOk o m x y = false) : WPost f o m x y (.tuple #[ttv false 0 nilQ nilQ nilQ nilQ nilQ, rtv nilT nilT nilT nilT nilT nilT, .bool false]) [KF ⟨nilQ, nilQ, nilQ, nilQ, nilQ⟩ ⟨nilT, nilT, nilT, nilT, nilT, nilT⟩ (700, wayOk o m x y, wayOn f o m x y, mkRn f (qval m) o (qval x) (qval y))] :=
  ⟨false, 0, ⟨nilQ, nilQ, nilQ, nilQ, nilQ⟩, ⟨nilT, nilT, nilT, nilT, nilT, nilT⟩, by rw [hf], fun h => by rw [hf] at h; simp at h, rfl⟩

set_option maxHeartbeats 8000000 in
theorem p_wmade (f : Bool) (o : Int) (m x y : ByteArray) (hm : m.size ≤ 9223372036854775807) (hx : x.size ≤ 9223372036854775807) (hy : y.size ≤ 9223372036854775807) :
    PCalls tb Tryz.prog 25 [.agg #[.bool f, .int .i64 o, .string m, .string x, .string y]] Γ (WPost f o m x y) := by
  have bad : ∀ {P : Prop} [Decidable P], ¬ P → (wayOk o m x y = true → P) → wayOk o m x y = false := fun {P} _ h1 h2 => by
    cases h : wayOk o m x y with
    | false => rfl
    | true => exact absurd (h2 h) h1
  have un : wayOk o m x y = true → (m.size ≤ 30 ∧ x.size ≤ 30 ∧ y.size ≤ 30 ∧ 0 ≤ o ∧ o ≤ 7 ∧ qerr m = 0 ∧ qerr x = 0 ∧ qerr y = 0 ∧ 0 < (qval m).num.sign) := fun h => by
    unfold wayOk at h
    simpa only [Bool.and_eq_true, decide_eq_true_eq, beq_iff_eq] using h
  refine PCalls.of_W tbOk Tryz.func25 rfl (by kernel_rfl) ?_
  by_cases h1 : 30 < m.size
  · refine W.dt [] 23 (decide ((m.size : Int) > 30)) (by kernel_rfl) (by rw [decide_eq_true_iff]; omega) ?_
    exact W.r [23, 29, 35, 40, 44] _ (by kernel_rfl) (wfail (bad (P := m.size ≤ 30) (by omega) (fun h => (un h).1))) (entKF0 (bad (P := m.size ≤ 30) (by omega) (fun h => (un h).1)))
  refine W.df [] 23 (decide ((m.size : Int) > 30)) (by kernel_rfl) (by rw [decide_eq_false_iff_not]; omega) ?_
  by_cases h2 : 30 < x.size
  · refine W.dt [23] 29 (decide ((x.size : Int) > 30)) (by kernel_rfl) (by rw [decide_eq_true_iff]; omega) ?_
    exact W.r [29, 35, 40, 44] _ (by kernel_rfl) (wfail (bad (P := x.size ≤ 30) (by omega) (fun h => (un h).2.1))) (entKF0 (bad (P := x.size ≤ 30) (by omega) (fun h => (un h).2.1)))
  refine W.df [23] 29 (decide ((x.size : Int) > 30)) (by kernel_rfl) (by rw [decide_eq_false_iff_not]; omega) ?_
  by_cases h3 : 30 < y.size
  · refine W.dt [29] 35 (decide ((y.size : Int) > 30)) (by kernel_rfl) (by rw [decide_eq_true_iff]; omega) ?_
    exact W.r [35, 40, 44] _ (by kernel_rfl) (wfail (bad (P := y.size ≤ 30) (by omega) (fun h => (un h).2.2.1))) (entKF0 (bad (P := y.size ≤ 30) (by omega) (fun h => (un h).2.2.1)))
  refine W.df [29] 35 (decide ((y.size : Int) > 30)) (by kernel_rfl) (by rw [decide_eq_false_iff_not]; omega) ?_
  by_cases h4 : o < 0
  · refine W.dt [35] 40 (decide (o < 0)) (by kernel_rfl) (by rw [decide_eq_true_iff]; omega) ?_
    exact W.r [40, 44] _ (by kernel_rfl) (wfail (bad (P := 0 ≤ o) (by omega) (fun h => (un h).2.2.2.1))) (entKF0 (bad (P := 0 ≤ o) (by omega) (fun h => (un h).2.2.2.1)))
  refine W.df [35] 40 (decide (o < 0)) (by kernel_rfl) (by rw [decide_eq_false_iff_not]; omega) ?_
  by_cases h5 : 7 < o
  · refine W.dt [40] 44 (decide (o > 7)) (by kernel_rfl) (by rw [decide_eq_true_iff]; omega) ?_
    exact W.r [44] _ (by kernel_rfl) (wfail (bad (P := o ≤ 7) (by omega) (fun h => (un h).2.2.2.2.1))) (entKF0 (bad (P := o ≤ 7) (by omega) (fun h => (un h).2.2.2.2.1)))
  refine W.df [40] 44 (decide (o > 7)) (by kernel_rfl) (by rw [decide_eq_false_iff_not]; omega) ?_
  refine W.cl [44] (by kernel_rfl) (p_qparse m hm) ?_
  rintro _ _ ⟨n1, a1, m1, b1, rfl, rfl⟩
  refine W.cl [] (by kernel_rfl) (p_qparse x hx) ?_
  rintro _ _ ⟨n2, a2, m2, b2, rfl, rfl⟩
  refine W.cl [] (by kernel_rfl) (p_qparse y hy) ?_
  rintro _ _ ⟨n3, a3, m3, b3, rfl, rfl⟩
  refine W.cl [] (by kernel_rfl) ((s_parse m hm).info (fun v Δ => ∀ S t R r L, Δ = [PF S t R r (L, qval m)] → S = (qval m).num.sign) (by
    rintro v Δ - I w hh S t R r L rfl
    exact pf_sign (hh _ (.head _)))) ?_
  rintro _ _ ⟨⟨S4, s4, R4, t4, rfl, rfl⟩, hS⟩
  have hS := hS _ _ _ _ _ rfl
  refine W.cl [] (by kernel_rfl) (s_parse x hx) ?_
  rintro _ _ ⟨S5, s5, R5, t5, rfl, rfl⟩
  refine W.cl [] (by kernel_rfl) (s_parse y hy) ?_
  rintro _ _ ⟨S6, s6, R6, t6, rfl, rfl⟩
  by_cases e1' : ¬ (qerr m = 0)
  · have e1 := e1'
    refine W.dt [] 85 (qerr m != 0) (by kernel_rfl) (by simpa using e1) ?_
    exact W.r [85, 89, 93, 101, 106] _ (by kernel_rfl) (wfail (bad e1 (fun h => (un h).2.2.2.2.2.1))) (entKF0 (bad e1 (fun h => (un h).2.2.2.2.2.1)))
  have e1 := Classical.not_not.1 e1'
  rw [e1]
  by_cases e2' : ¬ (qerr x = 0)
  · have e2 := e2'
    refine W.dt [85] 89 (qerr x != 0) (by kernel_rfl) (by simpa using e2) ?_
    exact W.r [89, 93, 101, 106] _ (by kernel_rfl) (wfail (bad e2 (fun h => (un h).2.2.2.2.2.2.1))) (entKF0 (bad e2 (fun h => (un h).2.2.2.2.2.2.1)))
  have e2 := Classical.not_not.1 e2'
  rw [e2]
  by_cases e3' : ¬ (qerr y = 0)
  · have e3 := e3'
    refine W.dt [85, 89] 93 (qerr y != 0) (by kernel_rfl) (by simpa using e3) ?_
    exact W.r [93, 101, 106] _ (by kernel_rfl) (wfail (bad e3 (fun h => (un h).2.2.2.2.2.2.2.1))) (entKF0 (bad e3 (fun h => (un h).2.2.2.2.2.2.2.1)))
  have e3 := Classical.not_not.1 e3'
  rw [e3]
  by_cases hs' : ¬ (0 < (qval m).num.sign)
  · have hs := hs'
    refine W.dt [85, 89, 93, 101] 106 (decide (S4 ≤ 0)) (by kernel_rfl) (by rw [decide_eq_true_iff]; omega) ?_
    exact W.r [106] _ (by kernel_rfl) (wfail (bad hs (fun h => (un h).2.2.2.2.2.2.2.2))) (entKF0 (bad hs (fun h => (un h).2.2.2.2.2.2.2.2)))
  have hs := Classical.not_not.1 hs'
  refine W.df [85, 89, 93, 101] 106 (decide (S4 ≤ 0)) (by kernel_rfl) (by rw [decide_eq_false_iff_not]; omega) ?_
  have hok : wayOk o m x y = true := by
    unfold wayOk
    rw [decide_eq_true (by omega), decide_eq_true (by omega), decide_eq_true (by omega), decide_eq_true (by omega), decide_eq_true (by omega), e1, e2, e3, decide_eq_true hs]
    rfl
  refine W.cl [106] (by kernel_rfl) (p_omake f ⟨n1, a1, m1, b1⟩ o ⟨n2, a2, m2, b2⟩ ⟨n3, a3, m3, b3⟩ (by omega) hs) ?_
  rintro _ _ ⟨rfl, rfl⟩
  refine W.cl [] (by kernel_rfl) (r_make8 f S4 s4 R4 t4 o S5 s5 R5 t5 S6 s6 R6 t6 (by omega)) ?_
  rintro _ _ ⟨x6, rfl, rfl⟩
  refine W.r [] (.tuple #[ttv f o ⟨n1, a1, m1, b1⟩ ⟨n2, a2, m2, b2⟩ nilQ ⟨n3, a3, m3, b3⟩ nilQ, rtv x6.A x6.B x6.C x6.D x6.E x6.F, .bool true]) (by kernel_rfl) ⟨f, o, ⟨⟨n1, a1, m1, b1⟩, ⟨n2, a2, m2, b2⟩, nilQ, ⟨n3, a3, m3, b3⟩, nilQ⟩, x6, by rw [hok], fun _ => ⟨rfl, rfl⟩, rfl⟩ (fun I w hd hh => holds1 (fun _ => ⟨?_, ?_⟩))
  · exact OF.up2 (Has.p (k := OF ⟨⟨n1, a1, m1, b1⟩, ⟨n2, a2, m2, b2⟩, nilQ, ⟨n3, a3, m3, b3⟩, nilQ⟩) inferInstance hh) (by omega)
  · obtain ⟨g1, g2, g3, g4, g5, g6⟩ := (Has.p (k := RT x6) (a := (12 * max 6 (max 6 (min m.size 4096)) + max (max 6 (min x.size 4096)) (max 6 (min y.size 4096)) + 200, mkRn f (qval m) o (qval x) (qval y))) inferInstance hh)
    exact ⟨TF.up2 g1 (by simp only; omega), TF.up2 g2 (by simp only; omega), TF.up2 g3 (by simp only; omega), TF.up2 g4 (by simp only; omega), TF.up2 g5 (by simp only; omega), TF.up2 g6 (by simp only; omega)⟩
end
end Go.Proofs.YtabpaiboodllbaaGreat

set_option linter.unusedSimpArgs false
set_option linter.unusedVariables false
namespace Go.Proofs.YtabpaiboodllbaaGreat
open Go.RowKit Go.IntWalk

theorem ang_f : ∀ n m : _root_.Fin 8,
    2 * pc (((n : Int) + m) % 8) = 2 * pc n * pc m + pcr n * pcr m - 2 * ps n * ps m - psr n * psr m ∧ pcr (((n : Int) + m) % 8) = pc n * pcr m + pcr n * pc m - ps n * psr m - psr n * ps m ∧
    2 * ps (((n : Int) + m) % 8) = 2 * ps n * pc m + psr n * pcr m + 2 * pc n * ps m + pcr n * psr m ∧ psr (((n : Int) + m) % 8) = ps n * pcr m + psr n * pc m + pc n * psr m + pcr n * ps m := by decide +kernel
theorem ang_t : ∀ n m : _root_.Fin 8,
    2 * pc ((-(n : Int) + m) % 8) = 2 * pc n * pc m + pcr n * pcr m + 2 * ps n * ps m + psr n * psr m ∧ pcr ((-(n : Int) + m) % 8) = pc n * pcr m + pcr n * pc m + ps n * psr m + psr n * ps m ∧
    2 * ps ((-(n : Int) + m) % 8) = -2 * ps n * pc m - psr n * pcr m + 2 * pc n * ps m + pcr n * psr m ∧ psr ((-(n : Int) + m) % 8) = -ps n * pcr m - psr n * pc m + pc n * psr m + pcr n * ps m := by decide +kernel

theorem On.mag_ne (V : On) : V.mag ≠ 0 := by
  unfold On.mag
  split
  · decide +kernel
  · rename_i h
    exact fun e => h (by rw [e]; rfl)
theorem On.then_mag (V U : On) : (V.then U).mag = V.mag * U.mag := by
  have h1 := V.mag_ne
  have h2 := U.mag_ne
  have h3 : V.mag * U.mag ≠ 0 := fun e => by rcases Rat.mul_eq_zero.1 e with h | h <;> contradiction
  unfold On.mag
  rw [show (V.then U).g = V.mag * U.mag from rfl]
  rw [if_neg (fun h => h3 (sign_eq0.1 h))]
  rfl

/-- What a turn does to a point, by four numbers. -/
structure P4 where
  x : Rat
  y : Rat
  z : Rat
  w : Rat
def On.ap (V : On) (p : P4) : P4 := ⟨V.u0 p.x p.y p.z p.w, V.u1 p.x p.y p.z p.w, V.v0 p.x p.y p.z p.w, V.v1 p.x p.y p.z p.w⟩
def ang (f : Bool) (M a b c d x y z w u v s t : Rat) : P4 :=
  ⟨(x * M) * a + (y * M) * c - ((if f then -z else z) * M * b + (if f then -w else w) * M * d) + u,
   (y * M) * a + (x * M) * (c * Rat.divInt 1 2) - ((if f then -w else w) * M * b + (if f then -z else z) * M * (d * Rat.divInt 1 2)) + v,
   (x * M) * b + (y * M) * d + ((if f then -z else z) * M * a + (if f then -w else w) * M * c) + s,
   (y * M) * b + (x * M) * (d * Rat.divInt 1 2) + ((if f then -w else w) * M * a + (if f then -z else z) * M * (c * Rat.divInt 1 2)) + t⟩
theorem divInt_half (d : Int) : Rat.divInt d 2 = (d : Rat) * Rat.divInt 1 2 := by
  rw [← q_divInt1, Rat.divInt_mul_divInt]
  simp
theorem On.ap_ang (V : On) (p : P4) : V.ap p = ang V.f V.mag (pc V.o) (ps V.o) (pcr V.o) (psr V.o) p.x p.y p.z p.w V.a V.b V.c V.d := by
  unfold On.ap ang On.u0 On.u1 On.v0 On.v1 tm1 tm2 On.sg
  rw [divInt_half (pcr V.o), divInt_half (psr V.o)]
  simp only [P4.mk.injEq]
  refine ⟨?_, ?_, ?_, ?_⟩ <;> first | trivial | (split <;> grind)
theorem P4.ext' {p q : P4} (h1 : p.x = q.x) (h2 : p.y = q.y) (h3 : p.z = q.z) (h4 : p.w = q.w) : p = q := by
  cases p; cases q; simp_all
theorem ang_ang {f g fg : Bool} (hk : fg = !(f == g)) {M N a b c d a' b' c' d' A B C D x y z w u v s t u' v' s' t' : Rat}
    (e : if g then 2 * A = 2 * a * a' + c * c' + 2 * b * b' + d * d' ∧ C = a * c' + c * a' + b * d' + d * b' ∧ 2 * B = -2 * b * a' - d * c' + 2 * a * b' + c * d' ∧ D = -b * c' - d * a' + a * d' + c * b'
      else 2 * A = 2 * a * a' + c * c' - 2 * b * b' - d * d' ∧ C = a * c' + c * a' - b * d' - d * b' ∧ 2 * B = 2 * b * a' + d * c' + 2 * a * b' + c * d' ∧ D = b * c' + d * a' + a * d' + c * b') :
    ang g N a' b' c' d' (ang f M a b c d x y z w u v s t).x (ang f M a b c d x y z w u v s t).y (ang f M a b c d x y z w u v s t).z (ang f M a b c d x y z w u v s t).w u' v' s' t' =
    ang fg (M * N) A B C D x y z w (ang g N a' b' c' d' u v s t u' v' s' t').x (ang g N a' b' c' d' u v s t u' v' s' t').y (ang g N a' b' c' d' u v s t u' v' s' t').z (ang g N a' b' c' d' u v s t u' v' s' t').w := by
  have hh : Rat.divInt 1 2 + Rat.divInt 1 2 = 1 := by decide +kernel
  unfold ang
  generalize Rat.divInt 1 2 = H at *
  have k : ∀ r : Rat, 2 * r * H = r := fun r => by grind
  cases g <;> simp only [Bool.false_eq_true, if_false, if_true, reduceIte] at e <;> obtain ⟨e1, e2, e3, e4⟩ := e
  · have e1' : A = a * a' + c * c' * H - b * b' - d * d' * H := by
      have := k A
      have := k (a * a')
      have := k (b * b')
      grind
    have e3' : B = b * a' + d * c' * H + a * b' + c * d' * H := by
      have := k B
      have := k (b * a')
      have := k (a * b')
      grind
    clear e1 e3 k hh
    subst e1' e2 e3' e4
    cases f
    · obtain rfl : fg = false := hk
      simp only [Bool.false_eq_true, if_false, if_true, reduceIte, P4.mk.injEq]
      refine ⟨?_, ?_, ?_, ?_⟩ <;> grind
    · obtain rfl : fg = true := hk
      simp only [Bool.false_eq_true, if_false, if_true, reduceIte, P4.mk.injEq]
      refine ⟨?_, ?_, ?_, ?_⟩ <;> grind
  · have e1' : A = a * a' + c * c' * H + b * b' + d * d' * H := by
      have := k A
      have := k (a * a')
      have := k (b * b')
      grind
    have e3' : B = -b * a' - d * c' * H + a * b' + c * d' * H := by
      have := k B
      have := k (b * a')
      have := k (a * b')
      grind
    clear e1 e3 k hh
    subst e1' e2 e3' e4
    cases f
    · obtain rfl : fg = true := hk
      simp only [Bool.false_eq_true, if_false, if_true, reduceIte, P4.mk.injEq]
      refine ⟨?_, ?_, ?_, ?_⟩ <;> grind
    · obtain rfl : fg = false := hk
      simp only [Bool.false_eq_true, if_false, if_true, reduceIte, P4.mk.injEq]
      refine ⟨?_, ?_, ?_, ?_⟩ <;> grind
/-- One behind the other: what the one does to what the other did. -/
theorem On.then_ap (V U : On) (hV : 0 ≤ V.o ∧ V.o ≤ 7) (hU : 0 ≤ U.o ∧ U.o ≤ 7) (p : P4) : (V.then U).ap p = U.ap (V.ap p) := by
  rw [(V.then U).ap_ang, U.ap_ang, V.ap_ang, On.then_mag]
  rw [ang_ang (fg := (V.then U).f) rfl (A := pc (V.then U).o) (B := ps (V.then U).o) (C := pcr (V.then U).o) (D := psr (V.then U).o)]
  · have e : ∀ q : P4, U.ap ⟨V.a, V.b, V.c, V.d⟩ = q → (V.then U).a = q.x ∧ (V.then U).b = q.y ∧ (V.then U).c = q.z ∧ (V.then U).d = q.w := by
      rintro q rfl
      exact ⟨rfl, rfl, rfl, rfl⟩
    obtain ⟨e1, e2, e3, e4⟩ := e _ (U.ap_ang _)
    rw [e1, e2, e3, e4]
  · obtain ⟨n, hn⟩ := fin8 hV
    obtain ⟨m, hm⟩ := fin8 hU
    have cast : ∀ {a b : Int}, a = b → (a : Rat) = (b : Rat) := fun h => by rw [h]
    have c2 : ((2 : Int) : Rat) = 2 := rfl
    have cm2 : ((-2 : Int) : Rat) = -2 := rfl
    cases hf : U.f with
    | false =>
      obtain ⟨g1, g2, g3, g4⟩ := ang_f n m
      simp only [Bool.false_eq_true, if_false, reduceIte]
      rw [show (V.then U).o = ((n : Int) + m) % 8 by unfold On.then; simp only [hf, Bool.false_eq_true, if_false, reduceIte]; rw [hn, hm], hn, hm]
      have g1 := cast g1
      have g2 := cast g2
      have g3 := cast g3
      have g4 := cast g4
      simp only [Rat.intCast_add, Rat.intCast_mul, Rat.intCast_sub, Rat.intCast_neg, c2] at g1 g2 g3 g4
      exact ⟨g1, g2, g3, g4⟩
    | true =>
      obtain ⟨g1, g2, g3, g4⟩ := ang_t n m
      simp only [if_true, reduceIte]
      rw [show (V.then U).o = (-(n : Int) + m) % 8 by unfold On.then; simp only [hf, if_true, reduceIte]; rw [hn, hm], hn, hm]
      have g1 := cast g1
      have g2 := cast g2
      have g3 := cast g3
      have g4 := cast g4
      simp only [Rat.intCast_add, Rat.intCast_mul, Rat.intCast_sub, Rat.intCast_neg, c2, cm2] at g1 g2 g3 g4
      exact ⟨g1, g2, g3, g4⟩
theorem On.assoc_ap (V U Z : On) (hV : 0 ≤ V.o ∧ V.o ≤ 7) (hU : 0 ≤ U.o ∧ U.o ≤ 7) (hZ : 0 ≤ Z.o ∧ Z.o ≤ 7) (p : P4) : ((V.then U).then Z).ap p = (V.then (U.then Z)).ap p := by
  rw [On.then_ap _ _ (On.then_o V U) hZ, On.then_ap _ _ hV hU, On.then_ap _ _ hV (On.then_o U Z), On.then_ap _ _ hU hZ]
end Go.Proofs.YtabpaiboodllbaaGreat

set_option linter.unusedSimpArgs false
set_option linter.unusedVariables false
namespace Go.Proofs.YtabpaiboodllbaaGreat
open Go.RowKit Go.IntWalk

def bO (b : Nat) (V : On) : Prop := bq b V.g ∧ bq b V.a ∧ bq b V.b ∧ bq b V.c ∧ bq b V.d
def bP (b : Nat) (p : P4) : Prop := bq b p.x ∧ bq b p.y ∧ bq b p.z ∧ bq b p.w
theorem bq.pos {b : Nat} {q : Rat} (h : bq b q) : 1 ≤ b := by
  have h2 := h.2
  have := q.den_pos
  cases b with
  | zero => simp at h2; omega
  | succ b => omega
theorem bO.mag {b : Nat} {V : On} (h : bO b V) : bq b V.mag := by
  unfold On.mag
  split
  · exact bq.int (z := 1) (Nat.one_lt_two_pow (by have := h.1.pos; omega)) h.1.pos
  · exact h.1
theorem bq.sg {b : Nat} {V : On} {z : Rat} (h : bq b z) : bq b (V.sg z) := by
  unfold On.sg
  split
  · exact h.neg
  · exact h
theorem unit_bits {c : Int} (h : -1 ≤ c ∧ c ≤ 1) : bq 1 (c : Rat) := bq.int (by show c.natAbs < 2; omega) (by omega)
theorem half_bits {c : Int} (h : -1 ≤ c ∧ c ≤ 1) : bq 2 (Rat.divInt c 2) := bq.of (by decide) rfl (by show c.natAbs < 4; omega) (by decide)
theorem bq.tm1 {p : Nat} {x y : Rat} {c d : Int} (hx : bq p x) (hy : bq p y) (hc : -1 ≤ c ∧ c ≤ 1) (hd : -1 ≤ d ∧ d ≤ 1) : bq (2 * p + 3) (tm1 x y c d) :=
  ((hx.mul (unit_bits hc)).add (hy.mul (unit_bits hd))).mono (by omega)
theorem bq.tm2 {p : Nat} {x y : Rat} {c d : Int} (hx : bq p x) (hy : bq p y) (hc : -1 ≤ c ∧ c ≤ 1) (hd : -1 ≤ d ∧ d ≤ 1) : bq (2 * p + 4) (tm2 x y c d) :=
  ((hy.mul (unit_bits hc)).add (hx.mul (half_bits hd))).mono (by omega)
theorem bO.ap {b p : Nat} {V : On} {q : P4} (h : bO b V) (g : bP p q) : bP (4 * p + 5 * b + 10) (V.ap q) := by
  have hm := h.mag
  obtain ⟨h1, h2, h3, h4, h5⟩ := h
  obtain ⟨g1, g2, g3, g4⟩ := g
  have c1 := pc_b V.o
  have c2 := ps_b V.o
  have c3 := pcr_b V.o
  have c4 := psr_b V.o
  have x := g1.mul hm
  have y := g2.mul hm
  have z := (g3.sg (V := V)).mul hm
  have w := (g4.sg (V := V)).mul hm
  refine ⟨?_, ?_, ?_, ?_⟩
  · exact (((bq.tm1 x y c1 c3).add (bq.tm1 z w c2 c4).neg).add h2).mono (by omega)
  · exact (((bq.tm2 x y c1 c3).add (bq.tm2 z w c2 c4).neg).add h3).mono (by omega)
  · exact (((bq.tm1 x y c2 c4).add (bq.tm1 z w c1 c3)).add h4).mono (by omega)
  · exact (((bq.tm2 x y c2 c4).add (bq.tm2 z w c1 c3)).add h5).mono (by omega)
theorem bO.then {b c : Nat} {V U : On} (h : bO b V) (g : bO c U) : bO (4 * b + 5 * c + 10) (V.then U) := by
  have k := g.ap (q := ⟨V.a, V.b, V.c, V.d⟩) ⟨h.2.1, h.2.2.1, h.2.2.2.1, h.2.2.2.2⟩
  exact ⟨(h.mag.mul g.mag).mono (by omega), k.1, k.2.1, k.2.2.1, k.2.2.2⟩
theorem bS.r2 {b : Nat} {x y : Rat} (hx : bq b x) (hy : bq b y) (hb : 2 ≤ b) : bS b (r2 x y) :=
  ⟨Nat.lt_of_lt_of_le (by decide : 2 < 2 ^ 2) (pow_mono2 hb), Nat.two_pow_pos b, hx, hy, bq.zero b (by omega), bq.zero b (by omega)⟩
theorem int_bits {z : Int} (h : -9223372036854775808 ≤ z ∧ z < 9223372036854775808) : bq 64 (z : Rat) := bq.int (by
  have : (2 : Nat) ^ 64 = 18446744073709551616 := by decide
  omega) (by omega)
theorem OF.tight {x : Q5} {L k : Nat} {V : On} {I : Blk} {w : World} (h : (OF x (L, V)).p I w) (hq : bO k V) : (OF x (k / 32 + 1, V)).p I w := by
  obtain ⟨h1, h2, h3, h4, h5⟩ := h
  obtain ⟨g1, g2, g3, g4, g5⟩ := hq
  exact ⟨QF.tight h1 g1, QF.tight h2 g2, QF.tight h3 g3, QF.tight h4 g4, QF.tight h5 g5⟩
def On.X (V : On) (x y : Rat) : Sn := r2 (V.u0 x 0 y 0) (V.u1 x 0 y 0)
def On.Y (V : On) (x y : Rat) : Sn := r2 (V.v0 x 0 y 0) (V.v1 x 0 y 0)

section
variable {fin : VS → List Fact → Prop} {Γ : List Fact} {L M K : Nat}
theorem entTO {x : Q5} {V : On} {k : Nat} [h : Has (OF x) (L, V) Γ] (hq : bO k V) : ∀ (I : Blk) (w : World), DataOK tb I w → Holds Γ I w → Holds [OF x (k / 32 + 1, V)] I w := fun I w _ hh => holds1 (OF.tight (h.p hh) hq)
theorem p_othenT (V U : On) (x y : Q5) {b c : Nat} [Has (OF x) (L, V) Γ] [Has (OF y) (M, U) Γ] (hb : bO b V) (hc : bO c U) (ho : 0 ≤ V.o ∧ V.o ≤ 7) (hu : 0 ≤ U.o ∧ U.o ≤ 7) (hL : L ≤ 10000 ∧ M ≤ 10000 := by omega) :
    PCalls tb Tryz.prog 43 [otv V x, otv U y] Γ (fun v Δ => ∃ q : Q5, v = otv (V.then U) q ∧ Δ = [OF q ((4 * b + 5 * c + 10) / 32 + 1, V.then U)]) :=
  (p_othen V U x y ho hu hL).entH (fun v Δ ⟨q, e1, e2⟩ => ⟨_, ⟨q, e1, rfl⟩, fun I w hh => by
    subst e2
    exact holds1 (OF.tight hh.h0' (hb.then hc))⟩)
theorem PCalls.plT {f : FuncId} {args : List Value} {X Y : Sn} {k : Nat} (h : PCalls tb Tryz.prog f args Γ (PlPost L X Y)) (h1 : bS k X) (h2 : bS k Y) : PCalls tb Tryz.prog f args Γ (PlPost (k / 32 + 1) X Y) :=
  h.entH (fun v Δ ⟨x, y, e1, e2⟩ => ⟨_, ⟨x, y, e1, rfl⟩, fun I w hh => by
    subst e2
    exact Holds.cons (SF.tight (hh (SF x (L, X)) (List.Mem.head _)) h1) (holds1 (SF.tight (hh (SF y (L, Y)) (List.Mem.tail _ (List.Mem.head _))) h2))⟩)
theorem bO.X {b : Nat} {V : On} (h : bO b V) {x y : Int} (hx : -9223372036854775808 ≤ x ∧ x < 9223372036854775808) (hy : -9223372036854775808 ≤ y ∧ y < 9223372036854775808) : bS (5 * b + 266) (V.X x y) ∧ bS (5 * b + 266) (V.Y x y) := by
  have k := h.ap (q := ⟨x, 0, y, 0⟩) ⟨int_bits hx, bq.zero 64 (by omega), int_bits hy, bq.zero 64 (by omega)⟩
  exact ⟨bS.r2 (k.1.mono (by omega)) (k.2.1.mono (by omega)) (by omega), bS.r2 (k.2.2.1.mono (by omega)) (k.2.2.2.mono (by omega)) (by omega)⟩
theorem p_oatT (V : On) (x : Q5) (a b : Int) {k : Nat} [Has (OF x) (L, V) Γ] (hk : bO k V) (ho : 0 ≤ V.o ∧ V.o ≤ 7) (ha : -9223372036854775808 ≤ a ∧ a < 9223372036854775808) (hb : -9223372036854775808 ≤ b ∧ b < 9223372036854775808) (hL : L ≤ 10000 := by omega) :
    PCalls tb Tryz.prog 28 [otv V x, .agg #[.int .i64 a, .int .i64 b]] Γ (PlPost ((5 * k + 266) / 32 + 1) (V.X a b) (V.Y a b)) :=
  by
  obtain ⟨k1, k2⟩ := hk.X ha hb
  have h := p_oat (Γ := Γ) V x a b ho ha hb hL
  unfold On.X at k1 ⊢
  unfold On.Y at k2 ⊢
  exact h.plT k1 k2
theorem p_oatE (V : On) (x : Q5) (a b : Int) {k : Nat} {X Y : Sn} [Has (OF x) (L, V) Γ] (hk : bO k V) (ho : 0 ≤ V.o ∧ V.o ≤ 7) (ha : -9223372036854775808 ≤ a ∧ a < 9223372036854775808) (hb : -9223372036854775808 ≤ b ∧ b < 9223372036854775808) (hX : V.X a b = X) (hY : V.Y a b = Y) (hL : L ≤ 10000 := by omega) :
    PCalls tb Tryz.prog 28 [otv V x, .agg #[.int .i64 a, .int .i64 b]] Γ (PlPost ((5 * k + 266) / 32 + 1) X Y) := by
  subst hX hY
  exact p_oatT V x a b hk ho ha hb hL
theorem p_othenK (V U : On) (x y : Q5) {k : Nat} [Has (OF x) (L, V) Γ] [Has (OF y) (M, U) Γ] (hk : bO k (V.then U)) (ho : 0 ≤ V.o ∧ V.o ≤ 7) (hu : 0 ≤ U.o ∧ U.o ≤ 7) (hL : L ≤ 10000 ∧ M ≤ 10000 := by omega) :
    PCalls tb Tryz.prog 43 [otv V x, otv U y] Γ (fun v Δ => ∃ q : Q5, v = otv (V.then U) q ∧ Δ = [OF q (k / 32 + 1, V.then U)]) :=
  (p_othen V U x y ho hu hL).entH (fun v Δ ⟨q, e1, e2⟩ => ⟨_, ⟨q, e1, rfl⟩, fun I w hh => by
    subst e2
    exact holds1 (OF.tight hh.h0' hk)⟩)
theorem wayOk_bits {f : Bool} {o : Int} {m x y : ByteArray} (h : wayOk o m x y = true) : bO 100 (wayOn f o m x y) := by
  have hk : 10 ^ 30 < 2 ^ 100 := by decide +kernel
  unfold wayOk at h
  rw [Bool.and_eq_true, Bool.and_eq_true, Bool.and_eq_true] at h
  have h1 := of_decide_eq_true h.1
  have h2 := of_decide_eq_true h.2.1
  have h3 := of_decide_eq_true h.2.2.1
  have z := bq.zero 100 (by omega)
  unfold bO wayOn
  exact ⟨bq_qval h1 hk, bq_qval h2 hk, z, bq_qval h3 hk, z⟩
end
theorem beq0 {z : Int} (h : z = 0) : (z == 0) = true := by rw [h]; rfl
theorem Sn.sg_eq {A B : Sn} (h : A = B) : (A.sub B).sg = 0 := Sn.sg_sub (by rw [h]) (by rw [h]) (by rw [h]) (by rw [h])
theorem On.X_ap {V U : On} {x y : Rat} (h : V.ap ⟨x, 0, y, 0⟩ = U.ap ⟨x, 0, y, 0⟩) : V.X x y = U.X x y ∧ V.Y x y = U.Y x y := by
  unfold On.ap at h
  simp only [P4.mk.injEq] at h
  obtain ⟨h1, h2, h3, h4⟩ := h
  unfold On.X On.Y
  exact ⟨by rw [h1, h2], by rw [h3, h4]⟩
/-- What a turn is without its move. -/
theorem On.X_move (V : On) (x y : Rat) : V.X x y = ((⟨V.f, V.o, V.mag, 0, 0, 0, 0⟩ : On).X x y).add (r2 V.a V.b) ∧ V.Y x y = ((⟨V.f, V.o, V.mag, 0, 0, 0, 0⟩ : On).Y x y).add (r2 V.c V.d) := by
  have hm : (⟨V.f, V.o, V.mag, 0, 0, 0, 0⟩ : On).mag = V.mag := by
    have h := V.mag_ne
    show (if V.mag.num.sign = 0 then 1 else V.mag) = V.mag
    rw [if_neg (fun e => h (sign_eq0.1 e))]
  have hs : ∀ z, (⟨V.f, V.o, V.mag, 0, 0, 0, 0⟩ : On).sg z = V.sg z := fun z => rfl
  have h0 : (0 : Rat) + 0 = 0 := by decide +kernel
  unfold On.X On.Y On.u0 On.u1 On.v0 On.v1 r2 Sn.add
  rw [hm]
  simp only [hs, h0]
  generalize tm1 _ _ _ _ = a
  generalize tm1 _ _ _ _ = b
  constructor
  · refine Sn.ext' rfl rfl ?_ ?_ rfl rfl <;> simp only <;> grind
  · refine Sn.ext' rfl rfl ?_ ?_ rfl rfl <;> simp only <;> grind
theorem On.X_id {V : On} (hf : V.f = false) (ho : V.o = 0) (hm : V.mag = 1) (ha : V.a = 0) (hb : V.b = 0) (hc : V.c = 0) (hd : V.d = 0) (x y : Rat) : V.X x y = r2 x 0 ∧ V.Y x y = r2 y 0 := by
  have e1 : pc V.o = 1 := by rw [ho]; decide
  have e2 : ps V.o = 0 := by rw [ho]; decide
  have e3 : pcr V.o = 0 := by rw [ho]; decide
  have e4 : psr V.o = 0 := by rw [ho]; decide
  have hs : ∀ z, V.sg z = z := fun z => by unfold On.sg; rw [hf]; rfl
  have c1 : ((1 : Int) : Rat) = 1 := rfl
  have c0 : ((0 : Int) : Rat) = 0 := rfl
  have c2 : Rat.divInt 0 2 = 0 := by decide +kernel
  unfold On.X On.Y On.u0 On.u1 On.v0 On.v1 tm1 tm2
  rw [e1, e2, e3, e4, hm, ha, hb, hc, hd]
  simp only [hs, c1, c0, c2]
  exact ⟨r2_ext (by grind) (by grind), r2_ext (by grind) (by grind)⟩
/-- Two flips, and so many eighths. -/
def oxf : On := ⟨true, 0, ((1 : Int) : Rat), 0, 0, 0, 0⟩
def allT : Nat → On
  | 0 => oxf.then oxf
  | n + 1 => (allT n).then ox1
theorem bO_dec {b : Nat} {V : On} (h : (decide (V.g.num.natAbs < 2 ^ b) && decide (V.g.den < 2 ^ b) && decide (V.a.num.natAbs < 2 ^ b) && decide (V.a.den < 2 ^ b) && decide (V.b.num.natAbs < 2 ^ b) && decide (V.b.den < 2 ^ b) && decide (V.c.num.natAbs < 2 ^ b) && decide (V.c.den < 2 ^ b) && decide (V.d.num.natAbs < 2 ^ b) && decide (V.d.den < 2 ^ b)) = true) : bO b V := by
  simp only [Bool.and_eq_true, decide_eq_true_eq] at h
  obtain ⟨⟨⟨⟨⟨⟨⟨⟨⟨h1, h2⟩, h3⟩, h4⟩, h5⟩, h6⟩, h7⟩, h8⟩, h9⟩, h10⟩ := h
  exact ⟨⟨h1, h2⟩, ⟨h3, h4⟩, ⟨h5, h6⟩, ⟨h7, h8⟩, ⟨h9, h10⟩⟩
theorem allT_bits : bO 2 (allT 0) ∧ bO 2 (allT 1) ∧ bO 2 (allT 2) ∧ bO 2 (allT 3) ∧ bO 2 (allT 4) ∧ bO 2 (allT 5) ∧ bO 2 (allT 6) ∧ bO 2 (allT 7) ∧ bO 2 (allT 8) :=
  ⟨bO_dec (by decide +kernel), bO_dec (by decide +kernel), bO_dec (by decide +kernel), bO_dec (by decide +kernel), bO_dec (by decide +kernel), bO_dec (by decide +kernel), bO_dec (by decide +kernel), bO_dec (by decide +kernel), bO_dec (by decide +kernel)⟩
theorem allT_o (n : Nat) : 0 ≤ (allT n).o ∧ (allT n).o ≤ 7 := by
  cases n with
  | zero => exact On.then_o _ _
  | succ n => exact On.then_o _ _
theorem allT_id (x y : Rat) : (allT 8).X x y = r2 x 0 ∧ (allT 8).Y x y = r2 y 0 :=
  On.X_id (by decide +kernel) (by decide +kernel) (by decide +kernel) (by decide +kernel) (by decide +kernel) (by decide +kernel) (by decide +kernel) x y
theorem On.mag_pos {V : On} (h : 0 < V.g.num.sign) : 0 < V.mag := by
  unfold On.mag
  rw [if_neg (by omega)]
  have h1 : ¬ V.g.num.sign < 0 := by omega
  have h2 : ¬ V.g.num.sign = 0 := by omega
  rw [sign_lt0] at h1
  rw [sign_eq0] at h2
  grind
theorem sign_pos_of {q : Rat} (h : 0 < q) : 0 < q.num.sign := by
  have h1 : ¬ q.num.sign < 0 := fun e => by rw [sign_lt0] at e; grind
  have h2 : ¬ q.num.sign = 0 := fun e => by rw [sign_eq0] at e; grind
  omega
theorem On.then_pos {V U : On} (h1 : 0 < V.g.num.sign) (h2 : 0 < U.g.num.sign) : 0 < (V.then U).mag.num.sign := by
  rw [On.then_mag]
  exact sign_pos_of (Rat.mul_pos (On.mag_pos h1) (On.mag_pos h2))
end Go.Proofs.YtabpaiboodllbaaGreat

set_option linter.unusedSimpArgs false
set_option linter.unusedVariables false
namespace Go.Proofs.YtabpaiboodllbaaGreat
open Go.RowKit Go.IntWalk

def rt0 (n : Int) : Rat := if n = 2 then 0 else (n : Rat)
def rt1 (n : Int) : Rat := if n = 2 then 1 else 0
def nm0 (a b c d : Rat) : Rat := a * c + (2 : Int) * b * d
def nm1 (a b c d : Rat) : Rat := a * d + b * c
/-- A number whose radicands are 0, 1, 2, by parts of 1 and root 2. -/
def Sn.n0 (S : Sn) : Rat := 0 + nm0 S.p 0 (1 : Int) 0 + nm0 S.q 0 (rt0 S.m) (rt1 S.m) + nm0 S.r 0 (rt0 S.n) (rt1 S.n) + nm0 S.s 0 (nm0 (rt0 S.m) (rt1 S.m) (rt0 S.n) (rt1 S.n)) (nm1 (rt0 S.m) (rt1 S.m) (rt0 S.n) (rt1 S.n))
def Sn.n1 (S : Sn) : Rat := 0 + nm1 S.p 0 (1 : Int) 0 + nm1 S.q 0 (rt0 S.m) (rt1 S.m) + nm1 S.r 0 (rt0 S.n) (rt1 S.n) + nm1 S.s 0 (nm0 (rt0 S.m) (rt1 S.m) (rt0 S.n) (rt1 S.n)) (nm1 (rt0 S.m) (rt1 S.m) (rt0 S.n) (rt1 S.n))
theorem r2_n (x y : Rat) : (r2 x y).n0 = x ∧ (r2 x y).n1 = y := by
  have a0 : rt0 (r2 x y).m = 0 := rfl
  have a1 : rt1 (r2 x y).m = 1 := rfl
  have b0 : rt0 (r2 x y).n = 0 := rfl
  have b1 : rt1 (r2 x y).n = 0 := rfl
  have c1 : ((1 : Int) : Rat) = 1 := rfl
  have c2 : ((2 : Int) : Rat) = 2 := rfl
  unfold Sn.n0 Sn.n1
  rw [a0, a1, b0, b1]
  unfold nm0 nm1 r2
  simp only [c1, c2]
  constructor <;> grind
section
variable {fin : VS → List Fact → Prop} {Γ : List Fact} {L M K : Nat}
theorem p_olike (x y : Sw) {X Y : Sn} [Has (SF x) (L, X) Γ] [Has (SF y) (M, Y) Γ] (em : X.m = Y.m) (en : X.n = Y.n) (hL : L ≤ 100000 := by omega) (hM : M ≤ 100000 := by omega) :
    PCalls tb Tryz.prog 106 [plv x y] Γ (IsV (.bool true)) := by
  refine PCalls.of_W tbOk Tryz.func106 rfl (by kernel_rfl) ?_
  refine W.cl [] (by kernel_rfl) (p_xsub x y em en) ?_
  rintro _ _ ⟨X1, rfl, rfl⟩
  exact W.r [] (.bool (0 == 0)) (by kernel_rfl) ⟨rfl, rfl⟩ ent0
theorem p_olikeF (x y : Sw) {X Y : Sn} [Has (SF x) (L, X) Γ] [Has (SF y) (M, Y) Γ] (hu : ¬ (X.m = Y.m ∧ X.n = Y.n)) (hL : L ≤ 100000 := by omega) (hM : M ≤ 100000 := by omega) :
    PCalls tb Tryz.prog 106 [plv x y] Γ (IsV (.bool false)) := by
  refine PCalls.of_W tbOk Tryz.func106 rfl (by kernel_rfl) ?_
  refine W.cl [] (by kernel_rfl) (p_xsubE x y hu) ?_
  rintro _ _ ⟨rfl, rfl⟩
  exact W.r [] (.bool (6 == 0)) (by kernel_rfl) ⟨rfl, rfl⟩ ent0
theorem p_oroot (u : Sl) (d : Bool) {n : Int} [Has (ZF u d) (L, n) Γ] (hn : 0 ≤ n ∧ n ≤ 2) (hL : L ≤ 1000000 := by omega) :
    PCalls tb Tryz.prog 152 [zv u d] Γ (fun v Δ => ∃ a b : Qw, v = .tuple #[q2v a b, .bool true] ∧ Δ = [QG a (2, rt0 n), QG b (2, rt1 n)]) := by
  have hs : small n = true := by unfold small; simp only [Bool.and_eq_true, decide_eq_true_eq]; omega
  refine PCalls.of_W tbOk Tryz.func152 rfl (by kernel_rfl) ?_
  refine W.more rfl (entQ0 (L' := 0)) ?_
  refine W.cl [] (by kernel_rfl) (p_zsmallT u d hs) ?_
  rintro _ _ ⟨rfl, rfl⟩
  refine W.df [] 14 (!true) (by kernel_rfl) rfl ?_
  refine W.df [14] 11 (decide (n > 2)) (by kernel_rfl) (by rw [decide_eq_false_iff_not]; omega) ?_
  by_cases h2 : n = 2
  · refine W.dt [11] 19 (n == 2) (by kernel_rfl) (by rw [h2]; rfl) ?_
    refine W.cl [19] (by kernel_rfl) (p_owhole 1 (by omega) (by omega)) ?_
    rintro _ _ ⟨n2, a2, m2, b2, rfl, rfl⟩
    exact W.r [] (.tuple #[q2v nilQ ⟨n2, a2, m2, b2⟩, .bool true]) (by kernel_rfl) ⟨_, _, rfl, rfl⟩ (entG2 (by omega) (by unfold rt0; rw [if_pos h2]) (by unfold rt1; rw [if_pos h2]; rfl))
  · refine W.df [11] 19 (n == 2) (by kernel_rfl) (by rw [beq_eq_false_iff_ne]; exact h2) ?_
    refine W.cl [19] (by kernel_rfl) (p_owhole n (by omega) (by omega)) ?_
    rintro _ _ ⟨n3, a3, m3, b3, rfl, rfl⟩
    exact W.r [] (.tuple #[q2v ⟨n3, a3, m3, b3⟩ nilQ, .bool true]) (by kernel_rfl) ⟨_, _, rfl, rfl⟩ (entG2 (by omega) (by unfold rt0; rw [if_neg h2]) (by unfold rt1; rw [if_neg h2]))
theorem p_orootF (u : Sl) (d : Bool) {n : Int} [Has (ZF u d) (L, n) Γ] (hn : 2 < n) (hL : L ≤ 1000000 := by omega) :
    PCalls tb Tryz.prog 152 [zv u d] Γ (IsV (.tuple #[q2v nilQ nilQ, .bool false])) := by
  refine PCalls.of_W tbOk Tryz.func152 rfl (by kernel_rfl) ?_
  refine W.cl [] (by kernel_rfl) (p_zsmall u d) ?_
  rintro _ _ ⟨rfl, rfl⟩
  by_cases hs : small n = true
  · refine W.df [] 14 (!(small n)) (by kernel_rfl) (by rw [hs]; rfl) ?_
    refine W.dt [14] 11 (decide ((if small n = true then n else 0) > 2)) (by kernel_rfl) (by rw [if_pos hs, decide_eq_true_iff]; omega) ?_
    exact W.r [11] (.tuple #[q2v nilQ nilQ, .bool false]) (by kernel_rfl) ⟨rfl, rfl⟩ ent0
  · refine W.dt [] 14 (!(small n)) (by kernel_rfl) (by rw [Bool.eq_false_iff.2 hs]; rfl) ?_
    exact W.r [11, 14] (.tuple #[q2v nilQ nilQ, .bool false]) (by kernel_rfl) ⟨rfl, rfl⟩ ent0
theorem p_onmul (a b c d : Qw) {x y z w : Rat} {L1 L2 L3 L4 : Nat} [Has (QG a) (L1, x) Γ] [Has (QG b) (L2, y) Γ] [Has (QG c) (L3, z) Γ] [Has (QG d) (L4, w) Γ] (hL : L1 ≤ 100000 ∧ L2 ≤ 100000 ∧ L3 ≤ 100000 ∧ L4 ≤ 100000 := by omega) :
    PCalls tb Tryz.prog 153 [q2v a b, q2v c d] Γ (Q2Post (L1 + L2 + L3 + L4 + 25) (nm0 x y z w) (nm1 x y z w)) := by
  refine PCalls.of_W tbOk Tryz.func153 rfl (by kernel_rfl) ?_
  refine W.cl [] (by kernel_rfl) (p_qmul a.n a.a a.m a.b c.n c.a c.m c.b) ?_
  rintro _ _ ⟨n1, a1, m1, b1, rfl, rfl⟩   -- (?a.n * ?c.n)
  refine W.cl [] (by kernel_rfl) (p_owhole 2 (by omega) (by omega)) ?_
  rintro _ _ ⟨n2, a2, m2, b2, rfl, rfl⟩   -- (2 : Rat)
  refine W.cl [] (by kernel_rfl) (p_qmul n2 a2 m2 b2 b.n b.a b.m b.b) ?_
  rintro _ _ ⟨n3, a3, m3, b3, rfl, rfl⟩   -- ((2 : Rat) * ?b.n)
  refine W.cl [] (by kernel_rfl) (p_qmul n3 a3 m3 b3 d.n d.a d.m d.b) ?_
  rintro _ _ ⟨n4, a4, m4, b4, rfl, rfl⟩   -- (((2 : Rat) * ?b.n) * ?d.n)
  refine W.cl [] (by kernel_rfl) (p_qadd n1 a1 m1 b1 n4 a4 m4 b4) ?_
  rintro _ _ ⟨n5, a5, m5, b5, rfl, rfl⟩   -- ((?a.n * ?c.n) + (((2 : Rat) * ?b.n) * ?d.n))
  refine W.cl [] (by kernel_rfl) (p_qmul a.n a.a a.m a.b d.n d.a d.m d.b) ?_
  rintro _ _ ⟨n6, a6, m6, b6, rfl, rfl⟩   -- (?a.n * ?d.n)
  refine W.cl [] (by kernel_rfl) (p_qmul b.n b.a b.m b.b c.n c.a c.m c.b) ?_
  rintro _ _ ⟨n7, a7, m7, b7, rfl, rfl⟩   -- (?b.n * ?c.n)
  refine W.cl [] (by kernel_rfl) (p_qadd n6 a6 m6 b6 n7 a7 m7 b7) ?_
  rintro _ _ ⟨n8, a8, m8, b8, rfl, rfl⟩   -- ((?a.n * ?d.n) + (?b.n * ?c.n))
  exact W.r [] (q2v ⟨n5, a5, m5, b5⟩ ⟨n8, a8, m8, b8⟩) (by kernel_rfl) ⟨_, _, rfl, rfl⟩ (entG2 (by omega) rfl rfl)
set_option maxHeartbeats 4000000 in
theorem p_onarrow (x : Sw) {S : Sn} [Has (SF x) (L, S) Γ] (hm : 0 ≤ S.m ∧ S.m ≤ 2) (hn : 0 ≤ S.n ∧ S.n ≤ 2) (hL : L ≤ 20000 := by omega) :
    PCalls tb Tryz.prog 107 [sv x] Γ (fun v Δ => ∃ a b : Qw, v = .tuple #[q2v a b, .bool true] ∧ Δ = [QG a (4 * L + 200, S.n0), QG b (4 * L + 200, S.n1)]) := by
  refine PCalls.of_W tbOk Tryz.func107 rfl (by kernel_rfl) ?_
  refine W.more rfl (entQ0 (L' := 0)) ?_
  refine W.sf x rfl ?_
  refine W.cl [] (by kernel_rfl) (p_xfield x) ?_
  rintro _ _ ⟨rfl, rfl⟩   -- 
  refine W.cl [] (by kernel_rfl) (p_oroot x.u x.d hm) ?_
  rintro _ _ ⟨a2, b2, rfl, rfl⟩
  refine W.cl [] (by kernel_rfl) (p_oroot x.v x.e hn) ?_
  rintro _ _ ⟨a3, b3, rfl, rfl⟩
  refine W.df [] 31 (!true) (by kernel_rfl) rfl ?_
  refine W.df [31] 34 (!true) (by kernel_rfl) rfl ?_
  refine W.cl [34] (by kernel_rfl) (p_owhole 1 (by omega) (by omega)) ?_
  rintro _ _ ⟨n4, a4, m4, b4, rfl, rfl⟩   -- (1 : Rat)
  refine W.cl [] (by kernel_rfl) (p_onmul a2 b2 a3 b3) ?_
  rintro _ _ ⟨a5, b5, rfl, rfl⟩
  refine W.unr [] 6 (by kernel_rfl) ?_
  refine W.cl [46] (by kernel_rfl) (p_xparts x) ?_
  rintro _ _ ⟨rfl, rfl⟩
  refine W.cl [] (by kernel_rfl) (p_onmul x.p nilQ ⟨n4, a4, m4, b4⟩ nilQ) ?_
  rintro _ _ ⟨a7, b7, rfl, rfl⟩
  refine W.cl [] (by kernel_rfl) (p_osum nilQ nilQ a7 b7) ?_
  rintro _ _ ⟨a8, b8, rfl, rfl⟩
  refine W.cl [46] (by kernel_rfl) (p_xparts x) ?_
  rintro _ _ ⟨rfl, rfl⟩
  refine W.cl [] (by kernel_rfl) (p_onmul x.q nilQ a2 b2) ?_
  rintro _ _ ⟨a10, b10, rfl, rfl⟩
  refine W.cl [] (by kernel_rfl) (p_osum a8 b8 a10 b10) ?_
  rintro _ _ ⟨a11, b11, rfl, rfl⟩
  refine W.cl [46] (by kernel_rfl) (p_xparts x) ?_
  rintro _ _ ⟨rfl, rfl⟩
  refine W.cl [] (by kernel_rfl) (p_onmul x.r nilQ a3 b3) ?_
  rintro _ _ ⟨a13, b13, rfl, rfl⟩
  refine W.cl [] (by kernel_rfl) (p_osum a11 b11 a13 b13) ?_
  rintro _ _ ⟨a14, b14, rfl, rfl⟩
  refine W.cl [46] (by kernel_rfl) (p_xparts x) ?_
  rintro _ _ ⟨rfl, rfl⟩
  refine W.cl [] (by kernel_rfl) (p_onmul x.s nilQ a5 b5) ?_
  rintro _ _ ⟨a16, b16, rfl, rfl⟩
  refine W.cl [] (by kernel_rfl) (p_osum a14 b14 a16 b16) ?_
  rintro _ _ ⟨a17, b17, rfl, rfl⟩
  exact W.r [46] (.tuple #[q2v a17 b17, .bool true]) (by kernel_rfl) ⟨_, _, rfl, rfl⟩ (entG2 (by omega) rfl rfl)
theorem p_onarrowF (x : Sw) {S : Sn} [Has (SF x) (L, S) Γ] (h0 : 0 ≤ S.m ∧ 0 ≤ S.n) (hmn : 2 < S.m ∨ 2 < S.n) (hL : L ≤ 20000 := by omega) :
    PCalls tb Tryz.prog 107 [sv x] Γ (IsV (.tuple #[q2v nilQ nilQ, .bool false])) := by
  refine PCalls.of_W tbOk Tryz.func107 rfl (by kernel_rfl) ?_
  refine W.sf x rfl ?_
  refine W.cl [] (by kernel_rfl) (p_xfield x) ?_
  rintro _ _ ⟨rfl, rfl⟩
  by_cases hm : 2 < S.m
  · refine W.cl [] (by kernel_rfl) (p_orootF x.u x.d hm) ?_
    rintro _ _ ⟨rfl, rfl⟩
    by_cases hn : 2 < S.n
    · refine W.cl [] (by kernel_rfl) (p_orootF x.v x.e hn) ?_
      rintro _ _ ⟨rfl, rfl⟩
      refine W.dt [] 31 (!false) (by kernel_rfl) rfl ?_
      exact W.r [34, 31] (.tuple #[q2v nilQ nilQ, .bool false]) (by kernel_rfl) ⟨rfl, rfl⟩ ent0
    · refine W.cl [] (by kernel_rfl) (p_oroot x.v x.e ⟨h0.2, by omega⟩) ?_
      rintro _ _ ⟨a3, b3, rfl, rfl⟩
      refine W.dt [] 31 (!false) (by kernel_rfl) rfl ?_
      exact W.r [34, 31] (.tuple #[q2v nilQ nilQ, .bool false]) (by kernel_rfl) ⟨rfl, rfl⟩ ent0
  · have hn : 2 < S.n := by omega
    refine W.cl [] (by kernel_rfl) (p_oroot x.u x.d ⟨h0.1, by omega⟩) ?_
    rintro _ _ ⟨a2, b2, rfl, rfl⟩
    refine W.cl [] (by kernel_rfl) (p_orootF x.v x.e hn) ?_
    rintro _ _ ⟨rfl, rfl⟩
    refine W.df [] 31 (!true) (by kernel_rfl) rfl ?_
    refine W.dt [31] 34 (!false) (by kernel_rfl) rfl ?_
    exact W.r [34] (.tuple #[q2v nilQ nilQ, .bool false]) (by kernel_rfl) ⟨rfl, rfl⟩ ent0
def FarPost (L : Nat) (X Y : Sn) (v : Value) (Δ : List Fact) : Prop := ∃ x y : Sw, v = .tuple #[plv x y, .int .i64 0] ∧ Δ = [SF x (L, X), SF y (L, Y)]
set_option maxHeartbeats 4000000 in
theorem p_ofarS (V : On) (t : Q5) (x y : Sw) {X Y : Sn} {L1 : Nat} [Has (OF t) (L1, V) Γ] [Has (SF x) (L, X) Γ] [Has (SF y) (M, Y) Γ] (ho : 0 ≤ V.o ∧ V.o ≤ 7) (em : X.m = Y.m) (en : X.n = Y.n) (hm : 0 ≤ X.m ∧ X.m ≤ 2) (hn : 0 ≤ X.n ∧ X.n ≤ 2) (hL : L ≤ 2000 ∧ M ≤ 2000 ∧ L1 ≤ 10000 := by omega) :
    PCalls tb Tryz.prog 52 [otv V t, plv x y] Γ (FarPost (5 * L1 + 16 * max L M + 1100) (r2 (V.u0 X.n0 X.n1 Y.n0 Y.n1) (V.u1 X.n0 X.n1 Y.n0 Y.n1)) (r2 (V.v0 X.n0 X.n1 Y.n0 Y.n1) (V.v1 X.n0 X.n1 Y.n0 Y.n1))) := by
  refine PCalls.of_W tbOk Tryz.func52 rfl (by kernel_rfl) ?_
  refine W.cl [] (by kernel_rfl) (p_olike x y em en) ?_
  rintro _ _ ⟨rfl, rfl⟩
  refine W.df [] 24 (!true) (by kernel_rfl) rfl ?_
  refine W.cl [24] (by kernel_rfl) (p_onarrow x hm hn) ?_
  rintro _ _ ⟨a2, b2, rfl, rfl⟩
  refine W.dt [] 32 (true) (by kernel_rfl) rfl ?_
  refine W.cl [32] (by kernel_rfl) (p_onarrow y (em ▸ hm) (en ▸ hn)) ?_
  rintro _ _ ⟨a3, b3, rfl, rfl⟩
  refine W.cl [] (by kernel_rfl) (p_olead V t a2 b2 a3 b3 ho) ?_
  rintro _ _ ⟨a4, b4, c4, d4, rfl, rfl⟩
  refine W.cl [] (by kernel_rfl) (p_otwo) ?_
  rintro _ _ ⟨u5, d5, rfl, rfl⟩   -- 
  refine W.cl [] (by kernel_rfl) (p_onumber u5 d5 ⟨none, 0, 0⟩ false a4 b4 (by omega) (by omega)) ?_
  rintro _ _ ⟨X6, rfl, rfl⟩
  refine W.cl [] (by kernel_rfl) (p_onumber u5 d5 ⟨none, 0, 0⟩ false c4 d4 (by omega) (by omega)) ?_
  rintro _ _ ⟨X7, rfl, rfl⟩
  exact W.r [] (.tuple #[plv X6 X7, .int .i64 0]) (by kernel_rfl) ⟨_, _, rfl, rfl⟩ (entPl (by omega) rfl rfl)
end
end Go.Proofs.YtabpaiboodllbaaGreat

set_option linter.unusedSimpArgs false
set_option linter.unusedVariables false
namespace Go.Proofs.YtabpaiboodllbaaGreat
open Go.RowKit Go.IntWalk

def Rn.X (U : Rn) (P Q : Sn) : Sn := ((U.A.mul P).add (U.B.mul Q)).add U.E
def Rn.Y (U : Rn) (P Q : Sn) : Sn := ((U.C.mul P).add (U.D.mul Q)).add U.F
section
variable {fin : VS → List Fact → Prop} {Γ : List Fact} {L M K : Nat}
set_option maxHeartbeats 4000000 in
theorem r_at8 (x : R6) (p q : Tw) {U : Rn} {P Q : Sn} [Has (RT x) (L, U) Γ] [Has (TF p) (M, P) Γ] [Has (TF q) (K, Q) Γ] (hL : L ≤ 2000 ∧ M ≤ 2000 ∧ K ≤ 2000 := by omega) :
    PCalls tb Tryz.prog 30 [rtv x.A x.B x.C x.D x.E x.F, spv p q] Γ (SpPost (25 * L + 12 * max M K + 300) (U.X P Q) (U.Y P Q)) := by
  refine PCalls.of_W tbOk Tryz.func30 rfl (by kernel_rfl) ?_
  refine W.more (Δ := [TF x.A (L, U.A), TF x.B (L, U.B), TF x.C (L, U.C), TF x.D (L, U.D), TF x.E (L, U.E), TF x.F (L, U.F)]) rfl (fun I w _ hh => by
    obtain ⟨g1, g2, g3, g4, g5, g6⟩ := Has.p (k := RT x) (a := (L, U)) inferInstance hh
    exact Holds.cons g1 (Holds.cons g2 (Holds.cons g3 (Holds.cons g4 (Holds.cons g5 (holds1 g6)))))) ?_
  refine W.cl [] (by kernel_rfl) (r_xmul x.A p) ?_
  rintro _ _ ⟨Y1, rfl, rfl⟩   -- (U.A.mul P)
  refine W.cl [] (by kernel_rfl) (r_xmul x.B q) ?_
  rintro _ _ ⟨Y2, rfl, rfl⟩   -- (U.B.mul Q)
  refine W.cl [] (by kernel_rfl) (r_xadd Y1 Y2) ?_
  rintro _ _ ⟨Y3, rfl, rfl⟩   -- ((U.A.mul P).add (U.B.mul Q))
  refine W.cl [] (by kernel_rfl) (r_xmul x.C p) ?_
  rintro _ _ ⟨Y4, rfl, rfl⟩   -- (U.C.mul P)
  refine W.cl [] (by kernel_rfl) (r_xmul x.D q) ?_
  rintro _ _ ⟨Y5, rfl, rfl⟩   -- (U.D.mul Q)
  refine W.cl [] (by kernel_rfl) (r_xadd Y4 Y5) ?_
  rintro _ _ ⟨Y6, rfl, rfl⟩   -- ((U.C.mul P).add (U.D.mul Q))
  refine W.cl [] (by kernel_rfl) (r_xadd Y3 x.E) ?_
  rintro _ _ ⟨Y7, rfl, rfl⟩   -- (((U.A.mul P).add (U.B.mul Q)).add U.E)
  refine W.cl [] (by kernel_rfl) (r_xadd Y6 x.F) ?_
  rintro _ _ ⟨Y8, rfl, rfl⟩   -- (((U.C.mul P).add (U.D.mul Q)).add U.F)
  exact W.r [] (spv Y7 Y8) (by kernel_rfl) ⟨_, _, rfl, rfl⟩ (entSp2 (by omega) rfl rfl)
theorem r_at8E (x : R6) (p q : Tw) {U : Rn} {P Q X Y : Sn} [Has (RT x) (L, U) Γ] [Has (TF p) (M, P) Γ] [Has (TF q) (K, Q) Γ] (hX : U.X P Q = X) (hY : U.Y P Q = Y) (hL : L ≤ 2000 ∧ M ≤ 2000 ∧ K ≤ 2000 := by omega) :
    PCalls tb Tryz.prog 30 [rtv x.A x.B x.C x.D x.E x.F, spv p q] Γ (SpPost (25 * L + 12 * max M K + 300) X Y) := by
  subst hX hY
  exact r_at8 x p q hL
theorem p_ofarE (V : On) (t : Q5) (x y : Sw) {X Y X' Y' : Sn} {L1 : Nat} [Has (OF t) (L1, V) Γ] [Has (SF x) (L, X) Γ] [Has (SF y) (M, Y) Γ] (ho : 0 ≤ V.o ∧ V.o ≤ 7) (em : X.m = Y.m) (en : X.n = Y.n) (hm : 0 ≤ X.m ∧ X.m ≤ 2) (hn : 0 ≤ X.n ∧ X.n ≤ 2)
    (hX : r2 (V.u0 X.n0 X.n1 Y.n0 Y.n1) (V.u1 X.n0 X.n1 Y.n0 Y.n1) = X') (hY : r2 (V.v0 X.n0 X.n1 Y.n0 Y.n1) (V.v1 X.n0 X.n1 Y.n0 Y.n1) = Y') (hL : L ≤ 2000 ∧ M ≤ 2000 ∧ L1 ≤ 10000 := by omega) :
    PCalls tb Tryz.prog 52 [otv V t, plv x y] Γ (FarPost (5 * L1 + 16 * max L M + 1100) X' Y') := by
  subst hX hY
  exact p_ofarS V t x y ho em en hm hn hL
theorem p_omoveE (V : On) (x : Q5) {X Y : Sn} [Has (OF x) (L, V) Γ] (hX : r2 V.a V.b = X) (hY : r2 V.c V.d = Y) (hL : L ≤ 10000 := by omega) :
    PCalls tb Tryz.prog 46 [otv V x] Γ (PlPost (max L 2) X Y) := by
  subst hX hY
  exact p_omove V x hL
theorem entEF (x : R6) {U : Rn} {X Y : Sn} [h : Has (RT x) (L, U) Γ] (hX : U.E = X) (hY : U.F = Y) : ∀ (I : Blk) (w : World), DataOK tb I w → Holds Γ I w → Holds [TF x.E (L, X), TF x.F (L, Y)] I w := fun I w _ hh => by
  subst hX hY
  obtain ⟨g1, g2, g3, g4, g5, g6⟩ := h.p hh
  exact Holds.cons g5 (holds1 g6)
end
theorem sin8 : ∀ n : _root_.Fin 8, pc (((n : Int) - 2) % 8) = ps n ∧ pcr (((n : Int) - 2) % 8) = psr n ∧ (n : Int) % 8 = n := by decide +kernel
theorem r2_mul (x y z w : Rat) : (r2 x y).mul (r2 z w) = r2 (x * z + 2 * (y * w)) (x * w + y * z) := by
  have c2 : ((2 : Int) : Rat) = 2 := rfl
  have c0 : ((0 : Int) : Rat) = 0 := rfl
  unfold r2 Sn.mul
  simp only [c2, c0]
  refine Sn.ext' rfl rfl ?_ ?_ ?_ ?_ <;> simp only <;> grind
theorem r2_add (x y z w : Rat) : (r2 x y).add (r2 z w) = r2 (x + z) (y + w) := by
  unfold r2 Sn.add
  refine Sn.ext' rfl rfl ?_ ?_ ?_ ?_ <;> simp only <;> grind
theorem r2_neg (x y : Rat) : (r2 x y).neg = r2 (-x) (-y) := by
  unfold r2 Sn.neg
  refine Sn.ext' rfl rfl ?_ ?_ ?_ ?_ <;> simp only <;> grind
/-- The reference's turn does what the program's does. -/
theorem mkRn_at (f : Bool) (o : Int) (m x y : Rat) (ho : 0 ≤ o ∧ o ≤ 7) (hm : 0 < m.num.sign) (p q r s : Rat) :
    (mkRn f m o x y).X (r2 p q) (r2 r s) = r2 ((⟨f, o, m, x, 0, y, 0⟩ : On).u0 p q r s) ((⟨f, o, m, x, 0, y, 0⟩ : On).u1 p q r s) ∧
    (mkRn f m o x y).Y (r2 p q) (r2 r s) = r2 ((⟨f, o, m, x, 0, y, 0⟩ : On).v0 p q r s) ((⟨f, o, m, x, 0, y, 0⟩ : On).v1 p q r s) := by
  have hmag : (⟨f, o, m, x, 0, y, 0⟩ : On).mag = m := by
    show (if m.num.sign = 0 then 1 else m) = m
    rw [if_neg (by omega)]
  have hsg : ∀ z, (⟨f, o, m, x, 0, y, 0⟩ : On).sg z = if f then -z else z := fun z => rfl
  have hc : c8 o = r2 (pc o) (Rat.divInt (pcr o) 2) ∧ c8 (o - 2) = r2 (ps o) (Rat.divInt (psr o) 2) := by
    obtain ⟨n, hn⟩ := fin8 ho
    obtain ⟨g1, g2, g3⟩ := sin8 n
    unfold c8
    rw [hn, g1, g2, g3]
    exact ⟨rfl, rfl⟩
  unfold mkRn Rn.X Rn.Y On.u0 On.u1 On.v0 On.v1 tm1 tm2
  rw [hmag, hc.1, hc.2, divInt_half (pcr o), divInt_half (psr o)]
  have hh : 2 * Rat.divInt 1 2 = 1 := by decide +kernel
  generalize Rat.divInt 1 2 = H at *
  simp only [hsg]
  cases f
  · simp only [Bool.false_eq_true, if_false, reduceIte, r2_mul, r2_add, r2_neg]
    exact ⟨r2_ext (by grind) (by grind), r2_ext (by grind) (by grind)⟩
  · simp only [if_true, reduceIte, r2_mul, r2_add, r2_neg]
    exact ⟨r2_ext (by grind) (by grind), r2_ext (by grind) (by grind)⟩
end Go.Proofs.YtabpaiboodllbaaGreat
