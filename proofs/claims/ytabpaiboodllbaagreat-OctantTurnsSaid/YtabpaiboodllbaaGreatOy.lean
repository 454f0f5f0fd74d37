
/- The reference's turn of a point; it is the program's. -/
import Derived.Test.YtabpaiboodllbaaGreatOx
set_option linter.unusedSimpArgs false
set_option linter.unusedVariables false
namespace Go.Proofs.YtabpaiboodllbaaGreat
open Go.RowKit Go.IntWalk

def Rn.X (U : Rn) (P Q : Sn) : Sn := ((U.A.mul P).add (U.B.mul Q)).add U.E
def Rn.Y (U : Rn) (P Q : Sn) : Sn := ((U.C.mul P).add (U.D.mul Q)).add U.F
section
variable {fin : VS → List Fact → Prop} {Γ : List Fact} {L M K : Nat}
set_option maxHeartbeats 4000000 in
theorem r_at8 (x : R6) (p q : Tw) {U : Rn} {P Q : Sn} [Has (RT x) (L, U) Γ] [Has (TF p) (M, P) Γ] [Has (TF q) (K, Q) Γ] (hL : L ≤ 2000 ∧ M ≤ 2000 ∧ K ≤ 2000 := by omega) :
    PCalls tb Tryz.prog 30 [rtv x.A x.B x.C x.D x.E x.F, spv p q] Γ (SpPost (25 * L + 12 * max M K + 300) (U.X P Q) (U.Y P Q)) := by
  refine PCalls.of_W tbOk Tryz.func30 rfl (by kernel_rfl) ?_
  refine W.more (Δ := [TF x.A (L, U.A), TF x.B (L, U.B), TF x.C (L, U.C), TF x.D (L, U.D), TF x.E (L, U.E), TF x.F (L, U.F)]) rfl (fun I w _ hh => by
    obtain ⟨g1, g2, g3, g4, g5, g6⟩ := Has.p (k := RT x) (a := (L, U)) inferInstance hh
    exact Holds.cons g1 (Holds.cons g2 (Holds.cons g3 (Holds.cons g4 (Holds.cons g5 (holds1 g6)))))) ?_
  refine W.cl [] (by kernel_rfl) (r_xmul x.A p) ?_
  rintro _ _ ⟨Y1, rfl, rfl⟩   -- (U.A.mul P)
  refine W.cl [] (by kernel_rfl) (r_xmul x.B q) ?_
  rintro _ _ ⟨Y2, rfl, rfl⟩   -- (U.B.mul Q)
  refine W.cl [] (by kernel_rfl) (r_xadd Y1 Y2) ?_
  rintro _ _ ⟨Y3, rfl, rfl⟩   -- ((U.A.mul P).add (U.B.mul Q))
  refine W.cl [] (by kernel_rfl) (r_xmul x.C p) ?_
  rintro _ _ ⟨Y4, rfl, rfl⟩   -- (U.C.mul P)
  refine W.cl [] (by kernel_rfl) (r_xmul x.D q) ?_
  rintro _ _ ⟨Y5, rfl, rfl⟩   -- (U.D.mul Q)
  refine W.cl [] (by kernel_rfl) (r_xadd Y4 Y5) ?_
  rintro _ _ ⟨Y6, rfl, rfl⟩   -- ((U.C.mul P).add (U.D.mul Q))
  refine W.cl [] (by kernel_rfl) (r_xadd Y3 x.E) ?_
  rintro _ _ ⟨Y7, rfl, rfl⟩   -- (((U.A.mul P).add (U.B.mul Q)).add U.E)
  refine W.cl [] (by kernel_rfl) (r_xadd Y6 x.F) ?_
  rintro _ _ ⟨Y8, rfl, rfl⟩   -- (((U.C.mul P).add (U.D.mul Q)).add U.F)
  exact W.r [] (spv Y7 Y8) (by kernel_rfl) ⟨_, _, rfl, rfl⟩ (entSp2 (by omega) rfl rfl)
theorem r_at8E (x : R6) (p q : Tw) {U : Rn} {P Q X Y : Sn} [Has (RT x) (L, U) Γ] [Has (TF p) (M, P) Γ] [Has (TF q) (K, Q) Γ] (hX : U.X P Q = X) (hY : U.Y P Q = Y) (hL : L ≤ 2000 ∧ M ≤ 2000 ∧ K ≤ 2000 := by omega) :
    PCalls tb Tryz.prog 30 [rtv x.A x.B x.C x.D x.E x.F, spv p q] Γ (SpPost (25 * L + 12 * max M K + 300) X Y) := by
  subst hX hY
  exact r_at8 x p q hL
theorem p_ofarE (V : On) (t : Q5) (x y : Sw) {X Y X' Y' : Sn} {L1 : Nat} [Has (OF t) (L1, V) Γ] [Has (SF x) (L, X) Γ] [Has (SF y) (M, Y) Γ] (ho : 0 ≤ V.o ∧ V.o ≤ 7) (em : X.m = Y.m) (en : X.n = Y.n) (hm : 0 ≤ X.m ∧ X.m ≤ 2) (hn : 0 ≤ X.n ∧ X.n ≤ 2)
    (hX : r2 (V.u0 X.n0 X.n1 Y.n0 Y.n1) (V.u1 X.n0 X.n1 Y.n0 Y.n1) = X') (hY : r2 (V.v0 X.n0 X.n1 Y.n0 Y.n1) (V.v1 X.n0 X.n1 Y.n0 Y.n1) = Y') (hL : L ≤ 2000 ∧ M ≤ 2000 ∧ L1 ≤ 10000 := by omega) :
    PCalls tb Tryz.prog 52 [otv V t, plv x y] Γ (FarPost (5 * L1 + 16 * max L M + 1100) X' Y') := by
  subst hX hY
  exact p_ofarS V t x y ho em en hm hn hL
theorem p_omoveE (V : On) (x : Q5) {X Y : Sn} [Has (OF x) (L, V) Γ] (hX : r2 V.a V.b = X) (hY : r2 V.c V.d = Y) (hL : L ≤ 10000 := by omega) :
    PCalls tb Tryz.prog 46 [otv V x] Γ (PlPost (max L 2) X Y) := by
  subst hX hY
  exact p_omove V x hL
theorem entEF (x : R6) {U : Rn} {X Y : Sn} [h : Has (RT x) (L, U) Γ] (hX : U.E = X) (hY : U.F = Y) : ∀ (I : Blk) (w : World), DataOK tb I w → Holds Γ I w → Holds [TF x.E (L, X), TF x.F (L, Y)] I w := fun I w _ hh => by
  subst hX hY
  obtain ⟨g1, g2, g3, g4, g5, g6⟩ := h.p hh
  exact Holds.cons g5 (holds1 g6)
end
theorem sin8 : ∀ n : _root_.Fin 8, pc (((n : Int) - 2) % 8) = ps n ∧ pcr (((n : Int) - 2) % 8) = psr n ∧ (n : Int) % 8 = n := by decide +kernel
theorem r2_mul (x y z w : Rat) : (r2 x y).mul (r2 z w) = r2 (x * z + 2 * (y * w)) (x * w + y * z) := by
  have c2 : ((2 : Int) : Rat) = 2 := rfl
  have c0 : ((0 : Int) : Rat) = 0 := rfl
  unfold r2 Sn.mul
  simp only [c2, c0]
  refine Sn.ext' rfl rfl ?_ ?_ ?_ ?_ <;> simp only <;> grind
theorem r2_add (x y z w : Rat) : (r2 x y).add (r2 z w) = r2 (x + z) (y + w) := by
  unfold r2 Sn.add
  refine Sn.ext' rfl rfl ?_ ?_ ?_ ?_ <;> simp only <;> grind
theorem r2_neg (x y : Rat) : (r2 x y).neg = r2 (-x) (-y) := by
  unfold r2 Sn.neg
  refine Sn.ext' rfl rfl ?_ ?_ ?_ ?_ <;> simp only <;> grind
/-- The reference's turn does what the program's does. -/
theorem mkRn_at (f : Bool) (o : Int) (m x y : Rat) (ho : 0 ≤ o ∧ o ≤ 7) (hm : 0 < m.num.sign) (p q r s : Rat) :
    (mkRn f m o x y).X (r2 p q) (r2 r s) = r2 ((⟨f, o, m, x, 0, y, 0⟩ : On).u0 p q r s) ((⟨f, o, m, x, 0, y, 0⟩ : On).u1 p q r s) ∧
    (mkRn f m o x y).Y (r2 p q) (r2 r s) = r2 ((⟨f, o, m, x, 0, y, 0⟩ : On).v0 p q r s) ((⟨f, o, m, x, 0, y, 0⟩ : On).v1 p q r s) := by
  have hmag : (⟨f, o, m, x, 0, y, 0⟩ : On).mag = m := by
    show (if m.num.sign = 0 then 1 else m) = m
    rw [if_neg (by omega)]
  have hsg : ∀ z, (⟨f, o, m, x, 0, y, 0⟩ : On).sg z = if f then -z else z := fun z => rfl
  have hc : c8 o = r2 (pc o) (Rat.divInt (pcr o) 2) ∧ c8 (o - 2) = r2 (ps o) (Rat.divInt (psr o) 2) := by
    obtain ⟨n, hn⟩ := fin8 ho
    obtain ⟨g1, g2, g3⟩ := sin8 n
    unfold c8
    rw [hn, g1, g2, g3]
    exact ⟨rfl, rfl⟩
  unfold mkRn Rn.X Rn.Y On.u0 On.u1 On.v0 On.v1 tm1 tm2
  rw [hmag, hc.1, hc.2, divInt_half (pcr o), divInt_half (psr o)]
  have hh : 2 * Rat.divInt 1 2 = 1 := by decide +kernel
  generalize Rat.divInt 1 2 = H at *
  simp only [hsg]
  cases f
  · simp only [Bool.false_eq_true, if_false, reduceIte, r2_mul, r2_add, r2_neg]
    exact ⟨r2_ext (by grind) (by grind), r2_ext (by grind) (by grind)⟩
  · simp only [if_true, reduceIte, r2_mul, r2_add, r2_neg]
    exact ⟨r2_ext (by grind) (by grind), r2_ext (by grind) (by grind)⟩
end Go.Proofs.YtabpaiboodllbaaGreat
