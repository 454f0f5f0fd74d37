/- Bezout's numbers keep his law. -/
import Derived.Test.YtnjohlimjbmkgaaRows
import Derived.Test.YtnjohlimjbmkgaaZl
import Derived.Test.YtnjohlimjbmkgaaLawZ
set_option linter.unusedSimpArgs false
set_option linter.unusedVariables false
namespace Go.Proofs.Ytnjohlimjbmkgaa
open Go.RowKit Go.IntWalk

theorem r_gcdY {Γ : List Fact} {L M : Nat} (S : Int) (s : Sl) (R : Int) (t : Sl) {x y : Int} [h : Has (YF S s) (L, x) Γ] [h' : Has (YF R t) (M, y) Γ] (hL : L ≤ 1000000 := by omega) (hM : M ≤ 1000000 := by omega) : PCalls tb Try.prog 48 [mv s, mv t] Γ (RPost (max L M) (Nat.gcd x.natAbs y.natAbs)) :=
  (r_gcd (Γ := RF s (L, x.natAbs) :: RF t (M, y.natAbs) :: Γ) s t (x := x.natAbs) (y := y.natAbs)).weak (fun I w _ hh => Holds.cons (h.p hh).1 (Holds.cons (h'.p hh).1 hh)) (fun _ _ h => h)
theorem p_zabs' {Γ : List Fact} {L : Nat} (s : Sl) (b : Bool) {x : Int} [Has (ZF s b) (L, x) Γ] (hL : L ≤ 1000000000000 := by omega) : PCalls tb Try.prog 40 [zv s b] Γ (fun v Δ => v = mv s ∧ Δ = [NF s (L, x.natAbs)]) := p_zabs s b

set_option maxHeartbeats 4000000 in
theorem p_zedBezout (x y : ByteArray) : PCalls tb Try.prog 11 [.string x, .string y] [] (IsV (.bool true)) := by
  refine PCalls.of_W tbOk Try.func11 rfl (by kernel_rfl) ?_
  by_cases hx : 60 < x.size
  · refine W.dt [] 18 (decide ((x.size : Int) > 60)) (by kernel_rfl) (by rw [decide_eq_true_iff]; omega) ?_
    refine W.sub' [18] x none (some (.int .i64 ((60 : Nat) : Int))) 0 60 tbOk (by kernel_rfl) (.inr ⟨rfl, rfl⟩) (.inl rfl) (by omega) (by omega) ?_
    by_cases hy : 60 < y.size
    · refine W.dt [] 23 (decide ((y.size : Int) > 60)) (by kernel_rfl) (by rw [decide_eq_true_iff]; omega) ?_
      refine W.sub' [23] y none (some (.int .i64 ((60 : Nat) : Int))) 0 60 tbOk (by kernel_rfl) (.inr ⟨rfl, rfl⟩) (.inl rfl) (by omega) (by omega) ?_
      skip
      refine W.cl [] (by kernel_rfl) (p_one (x.extract 0 60)) ?_
      rintro _ _ ⟨u1, d1, S1, t1, rfl, hS1, rfl⟩
      refine W.cl [] (by kernel_rfl) (p_one (y.extract 0 60)) ?_
      rintro _ _ ⟨u2, d2, S2, t2, rfl, hS2, rfl⟩
      refine W.cl [] (by kernel_rfl) p_zknown ?_
      rintro _ _ ⟨rfl, rfl⟩
      generalize zfv (x.extract 0 60) = X at *
      generalize zfv (y.extract 0 60) = Y at *
      cases hk1 : zok (x.extract 0 60) with
      | false =>
        refine W.cl [47, 44, 40] (by kernel_rfl) p_zknown ?_
        rintro _ _ ⟨rfl, rfl⟩
        refine W.cl [49] (by kernel_rfl) (p_apart (x.extract 0 60)) ?_
        rintro _ _ ⟨rfl, rfl⟩
        refine W.cl [54, 49] (by kernel_rfl) (p_apart (y.extract 0 60)) ?_
        rintro _ _ ⟨rfl, rfl⟩
        exact W.r [54] (.bool true) (by kernel_rfl) ⟨rfl, rfl⟩ ent0
      | true =>
        cases hk2 : zok (y.extract 0 60) with
        | false =>
          refine W.cl [47, 44, 40] (by kernel_rfl) p_zknown ?_
          rintro _ _ ⟨rfl, rfl⟩
          refine W.cl [49] (by kernel_rfl) (p_apart (x.extract 0 60)) ?_
          rintro _ _ ⟨rfl, rfl⟩
          refine W.cl [54, 49] (by kernel_rfl) (p_apart (y.extract 0 60)) ?_
          rintro _ _ ⟨rfl, rfl⟩
          exact W.r [54] (.bool true) (by kernel_rfl) ⟨rfl, rfl⟩ ent0
        | true =>
          refine W.cl [47, 44, 40] (by kernel_rfl) (p_bezout u1 d1 u2 d2) ?_
          rintro _ _ ⟨g, dg, u, du, v, dv, U, V, rfl, hE, hB, rfl⟩
          refine W.cl [] (by kernel_rfl) (p_of 1 (by omega)) ?_
          rintro _ _ ⟨u13, rfl, rfl⟩
          refine W.cl [] (by kernel_rfl) (p_zbig u13) ?_
          rintro _ _ ⟨u14, d14, rfl, rfl⟩
          refine W.cl [] (by kernel_rfl) (p_zabs' u du) ?_
          rintro _ _ ⟨rfl, rfl⟩
          refine W.cl [] (by kernel_rfl) (p_zbig u) ?_
          rintro _ _ ⟨u16, d16, rfl, rfl⟩
          refine W.cl [] (by kernel_rfl) (p_zcmp u16 d16 u14 d14) ?_
          rintro _ _ ⟨rfl, rfl⟩
          by_cases hU : U.natAbs ≤ 1
          · refine W.dt [] 74 (decide (cmpZ (U.natAbs : Int) ((1 : Nat) : Int) ≤ 0)) (by kernel_rfl) (by rw [decide_eq_true_iff, cmpZ_le]; omega) ?_
            refine W.cl [74] (by kernel_rfl) (p_zabs' v dv) ?_
            rintro _ _ ⟨rfl, rfl⟩
            refine W.cl [74] (by kernel_rfl) (p_zbig v) ?_
            rintro _ _ ⟨u19, d19, rfl, rfl⟩
            refine W.cl [74] (by kernel_rfl) (p_zcmp u19 d19 u14 d14) ?_
            rintro _ _ ⟨rfl, rfl⟩
            by_cases hV : V.natAbs ≤ 1
            · refine W.dt [74] 82 (decide (cmpZ (V.natAbs : Int) ((1 : Nat) : Int) ≤ 0)) (by kernel_rfl) (by rw [decide_eq_true_iff, cmpZ_le]; omega) ?_
              refine W.cl [89, 82] (by kernel_rfl) (r_gcdY S1 t1 S2 t2) ?_
              rintro _ _ ⟨u21, rfl, rfl⟩
              refine W.cl [] (by kernel_rfl) (p_ymade 1 (Nat.gcd X.natAbs Y.natAbs : Nat) u21 ⟨by rw [Int.natAbs_natCast], fun h => by rw [Int.sign_eq_one_of_pos (by omega)]⟩) ?_
              rintro _ _ ⟨S22, u22, rfl, rfl⟩
              refine W.cl [] (by kernel_rfl) (p_same g dg S22 u22) ?_
              rintro _ _ ⟨rfl, rfl⟩
              refine W.cl [106] (by kernel_rfl) (p_zmul u1 d1 u du) ?_
              rintro _ _ ⟨u24, d24, rfl, rfl⟩
              refine W.cl [106] (by kernel_rfl) (p_zmul u2 d2 v dv) ?_
              rintro _ _ ⟨u25, d25, rfl, rfl⟩
              refine W.cl [106] (by kernel_rfl) (p_zadd u24 d24 u25 d25) ?_
              rintro _ _ ⟨u26, d26, rfl, rfl⟩
              refine W.cl [106] (by kernel_rfl) (p_zcmp u26 d26 g dg) ?_
              rintro _ _ ⟨rfl, rfl⟩
              refine W.dt [106] 118 (cmpZ (X * U + Y * V) (Nat.gcd X.natAbs Y.natAbs : Nat) == 0) (by kernel_rfl) (by rw [beq_iff_eq, cmpZ_eq]; exact hE) ?_
              exact W.r [118, 89, 82] (.bool true) (by kernel_rfl) ⟨rfl, rfl⟩ ent0
            · refine W.df [74] 82 (decide (cmpZ (V.natAbs : Int) ((1 : Nat) : Int) ≤ 0)) (by kernel_rfl) (by rw [decide_eq_false_iff_not, cmpZ_le]; omega) ?_
              have hb2 : U.natAbs ≤ Y.natAbs ∧ V.natAbs ≤ X.natAbs := hB.resolve_left (by omega)
              refine W.cl [82] (by kernel_rfl) (p_zabs' u du) ?_
              rintro _ _ ⟨rfl, rfl⟩
              refine W.cl [82] (by kernel_rfl) (p_zabs' u2 d2) ?_
              rintro _ _ ⟨rfl, rfl⟩
              refine W.cl [82] (by kernel_rfl) (p_cmp u u2) ?_
              rintro _ _ ⟨rfl, rfl⟩
              refine W.dt [82] 89 (decide (cmpN U.natAbs Y.natAbs ≤ 0)) (by kernel_rfl) (by rw [decide_eq_true_iff, cmpZ_nat, cmpZ_le]; omega) ?_
              refine W.cl [89] (by kernel_rfl) (p_zabs' v dv) ?_
              rintro _ _ ⟨rfl, rfl⟩
              refine W.cl [89] (by kernel_rfl) (p_zabs' u1 d1) ?_
              rintro _ _ ⟨rfl, rfl⟩
              refine W.cl [89] (by kernel_rfl) (p_cmp v u1) ?_
              rintro _ _ ⟨rfl, rfl⟩
              refine W.cl [82, 89] (by kernel_rfl) (r_gcdY S1 t1 S2 t2) ?_
              rintro _ _ ⟨u21, rfl, rfl⟩
              refine W.cl [] (by kernel_rfl) (p_ymade 1 (Nat.gcd X.natAbs Y.natAbs : Nat) u21 ⟨by rw [Int.natAbs_natCast], fun h => by rw [Int.sign_eq_one_of_pos (by omega)]⟩) ?_
              rintro _ _ ⟨S22, u22, rfl, rfl⟩
              refine W.cl [] (by kernel_rfl) (p_same g dg S22 u22) ?_
              rintro _ _ ⟨rfl, rfl⟩
              refine W.cl [106] (by kernel_rfl) (p_zmul u1 d1 u du) ?_
              rintro _ _ ⟨u24, d24, rfl, rfl⟩
              refine W.cl [106] (by kernel_rfl) (p_zmul u2 d2 v dv) ?_
              rintro _ _ ⟨u25, d25, rfl, rfl⟩
              refine W.cl [106] (by kernel_rfl) (p_zadd u24 d24 u25 d25) ?_
              rintro _ _ ⟨u26, d26, rfl, rfl⟩
              refine W.cl [106] (by kernel_rfl) (p_zcmp u26 d26 g dg) ?_
              rintro _ _ ⟨rfl, rfl⟩
              refine W.dt [106] 118 (cmpZ (X * U + Y * V) (Nat.gcd X.natAbs Y.natAbs : Nat) == 0) (by kernel_rfl) (by rw [beq_iff_eq, cmpZ_eq]; exact hE) ?_
              refine W.r [118] (.bool (decide (cmpN V.natAbs X.natAbs ≤ 0))) (by kernel_rfl) ⟨?_, rfl⟩ ent0
              rw [decide_eq_true (by rw [cmpZ_nat, cmpZ_le]; omega)]
          · refine W.df [] 74 (decide (cmpZ (U.natAbs : Int) ((1 : Nat) : Int) ≤ 0)) (by kernel_rfl) (by rw [decide_eq_false_iff_not, cmpZ_le]; omega) ?_
            have hb2 : U.natAbs ≤ Y.natAbs ∧ V.natAbs ≤ X.natAbs := hB.resolve_left (by omega)
            refine W.cl [82, 74] (by kernel_rfl) (p_zabs' u du) ?_
            rintro _ _ ⟨rfl, rfl⟩
            refine W.cl [82] (by kernel_rfl) (p_zabs' u2 d2) ?_
            rintro _ _ ⟨rfl, rfl⟩
            refine W.cl [82] (by kernel_rfl) (p_cmp u u2) ?_
            rintro _ _ ⟨rfl, rfl⟩
            refine W.dt [82] 89 (decide (cmpN U.natAbs Y.natAbs ≤ 0)) (by kernel_rfl) (by rw [decide_eq_true_iff, cmpZ_nat, cmpZ_le]; omega) ?_
            refine W.cl [89] (by kernel_rfl) (p_zabs' v dv) ?_
            rintro _ _ ⟨rfl, rfl⟩
            refine W.cl [89] (by kernel_rfl) (p_zabs' u1 d1) ?_
            rintro _ _ ⟨rfl, rfl⟩
            refine W.cl [89] (by kernel_rfl) (p_cmp v u1) ?_
            rintro _ _ ⟨rfl, rfl⟩
            refine W.cl [82, 89] (by kernel_rfl) (r_gcdY S1 t1 S2 t2) ?_
            rintro _ _ ⟨u21, rfl, rfl⟩
            refine W.cl [] (by kernel_rfl) (p_ymade 1 (Nat.gcd X.natAbs Y.natAbs : Nat) u21 ⟨by rw [Int.natAbs_natCast], fun h => by rw [Int.sign_eq_one_of_pos (by omega)]⟩) ?_
            rintro _ _ ⟨S22, u22, rfl, rfl⟩
            refine W.cl [] (by kernel_rfl) (p_same g dg S22 u22) ?_
            rintro _ _ ⟨rfl, rfl⟩
            refine W.cl [106] (by kernel_rfl) (p_zmul u1 d1 u du) ?_
            rintro _ _ ⟨u24, d24, rfl, rfl⟩
            refine W.cl [106] (by kernel_rfl) (p_zmul u2 d2 v dv) ?_
            rintro _ _ ⟨u25, d25, rfl, rfl⟩
            refine W.cl [106] (by kernel_rfl) (p_zadd u24 d24 u25 d25) ?_
            rintro _ _ ⟨u26, d26, rfl, rfl⟩
            refine W.cl [106] (by kernel_rfl) (p_zcmp u26 d26 g dg) ?_
            rintro _ _ ⟨rfl, rfl⟩
            refine W.dt [106] 118 (cmpZ (X * U + Y * V) (Nat.gcd X.natAbs Y.natAbs : Nat) == 0) (by kernel_rfl) (by rw [beq_iff_eq, cmpZ_eq]; exact hE) ?_
            refine W.r [118] (.bool (decide (cmpN V.natAbs X.natAbs ≤ 0))) (by kernel_rfl) ⟨?_, rfl⟩ ent0
            rw [decide_eq_true (by rw [cmpZ_nat, cmpZ_le]; omega)]
    · refine W.df [] 23 (decide ((y.size : Int) > 60)) (by kernel_rfl) (by rw [decide_eq_false_iff_not]; omega) ?_
      refine W.cl [23] (by kernel_rfl) (p_one (x.extract 0 60)) ?_
      rintro _ _ ⟨u1, d1, S1, t1, rfl, hS1, rfl⟩
      refine W.cl [] (by kernel_rfl) (p_one y) ?_
      rintro _ _ ⟨u2, d2, S2, t2, rfl, hS2, rfl⟩
      refine W.cl [] (by kernel_rfl) p_zknown ?_
      rintro _ _ ⟨rfl, rfl⟩
      generalize zfv (x.extract 0 60) = X at *
      generalize zfv y = Y at *
      cases hk1 : zok (x.extract 0 60) with
      | false =>
        refine W.cl [47, 44, 40] (by kernel_rfl) p_zknown ?_
        rintro _ _ ⟨rfl, rfl⟩
        refine W.cl [49] (by kernel_rfl) (p_apart (x.extract 0 60)) ?_
        rintro _ _ ⟨rfl, rfl⟩
        refine W.cl [54, 49] (by kernel_rfl) (p_apart y) ?_
        rintro _ _ ⟨rfl, rfl⟩
        exact W.r [54] (.bool true) (by kernel_rfl) ⟨rfl, rfl⟩ ent0
      | true =>
        cases hk2 : zok y with
        | false =>
          refine W.cl [47, 44, 40] (by kernel_rfl) p_zknown ?_
          rintro _ _ ⟨rfl, rfl⟩
          refine W.cl [49] (by kernel_rfl) (p_apart (x.extract 0 60)) ?_
          rintro _ _ ⟨rfl, rfl⟩
          refine W.cl [54, 49] (by kernel_rfl) (p_apart y) ?_
          rintro _ _ ⟨rfl, rfl⟩
          exact W.r [54] (.bool true) (by kernel_rfl) ⟨rfl, rfl⟩ ent0
        | true =>
          refine W.cl [47, 44, 40] (by kernel_rfl) (p_bezout u1 d1 u2 d2) ?_
          rintro _ _ ⟨g, dg, u, du, v, dv, U, V, rfl, hE, hB, rfl⟩
          refine W.cl [] (by kernel_rfl) (p_of 1 (by omega)) ?_
          rintro _ _ ⟨u13, rfl, rfl⟩
          refine W.cl [] (by kernel_rfl) (p_zbig u13) ?_
          rintro _ _ ⟨u14, d14, rfl, rfl⟩
          refine W.cl [] (by kernel_rfl) (p_zabs' u du) ?_
          rintro _ _ ⟨rfl, rfl⟩
          refine W.cl [] (by kernel_rfl) (p_zbig u) ?_
          rintro _ _ ⟨u16, d16, rfl, rfl⟩
          refine W.cl [] (by kernel_rfl) (p_zcmp u16 d16 u14 d14) ?_
          rintro _ _ ⟨rfl, rfl⟩
          by_cases hU : U.natAbs ≤ 1
          · refine W.dt [] 74 (decide (cmpZ (U.natAbs : Int) ((1 : Nat) : Int) ≤ 0)) (by kernel_rfl) (by rw [decide_eq_true_iff, cmpZ_le]; omega) ?_
            refine W.cl [74] (by kernel_rfl) (p_zabs' v dv) ?_
            rintro _ _ ⟨rfl, rfl⟩
            refine W.cl [74] (by kernel_rfl) (p_zbig v) ?_
            rintro _ _ ⟨u19, d19, rfl, rfl⟩
            refine W.cl [74] (by kernel_rfl) (p_zcmp u19 d19 u14 d14) ?_
            rintro _ _ ⟨rfl, rfl⟩
            by_cases hV : V.natAbs ≤ 1
            · refine W.dt [74] 82 (decide (cmpZ (V.natAbs : Int) ((1 : Nat) : Int) ≤ 0)) (by kernel_rfl) (by rw [decide_eq_true_iff, cmpZ_le]; omega) ?_
              refine W.cl [89, 82] (by kernel_rfl) (r_gcdY S1 t1 S2 t2) ?_
              rintro _ _ ⟨u21, rfl, rfl⟩
              refine W.cl [] (by kernel_rfl) (p_ymade 1 (Nat.gcd X.natAbs Y.natAbs : Nat) u21 ⟨by rw [Int.natAbs_natCast], fun h => by rw [Int.sign_eq_one_of_pos (by omega)]⟩) ?_
              rintro _ _ ⟨S22, u22, rfl, rfl⟩
              refine W.cl [] (by kernel_rfl) (p_same g dg S22 u22) ?_
              rintro _ _ ⟨rfl, rfl⟩
              refine W.cl [106] (by kernel_rfl) (p_zmul u1 d1 u du) ?_
              rintro _ _ ⟨u24, d24, rfl, rfl⟩
              refine W.cl [106] (by kernel_rfl) (p_zmul u2 d2 v dv) ?_
              rintro _ _ ⟨u25, d25, rfl, rfl⟩
              refine W.cl [106] (by kernel_rfl) (p_zadd u24 d24 u25 d25) ?_
              rintro _ _ ⟨u26, d26, rfl, rfl⟩
              refine W.cl [106] (by kernel_rfl) (p_zcmp u26 d26 g dg) ?_
              rintro _ _ ⟨rfl, rfl⟩
              refine W.dt [106] 118 (cmpZ (X * U + Y * V) (Nat.gcd X.natAbs Y.natAbs : Nat) == 0) (by kernel_rfl) (by rw [beq_iff_eq, cmpZ_eq]; exact hE) ?_
              exact W.r [118, 89, 82] (.bool true) (by kernel_rfl) ⟨rfl, rfl⟩ ent0
            · refine W.df [74] 82 (decide (cmpZ (V.natAbs : Int) ((1 : Nat) : Int) ≤ 0)) (by kernel_rfl) (by rw [decide_eq_false_iff_not, cmpZ_le]; omega) ?_
              have hb2 : U.natAbs ≤ Y.natAbs ∧ V.natAbs ≤ X.natAbs := hB.resolve_left (by omega)
              refine W.cl [82] (by kernel_rfl) (p_zabs' u du) ?_
              rintro _ _ ⟨rfl, rfl⟩
              refine W.cl [82] (by kernel_rfl) (p_zabs' u2 d2) ?_
              rintro _ _ ⟨rfl, rfl⟩
              refine W.cl [82] (by kernel_rfl) (p_cmp u u2) ?_
              rintro _ _ ⟨rfl, rfl⟩
              refine W.dt [82] 89 (decide (cmpN U.natAbs Y.natAbs ≤ 0)) (by kernel_rfl) (by rw [decide_eq_true_iff, cmpZ_nat, cmpZ_le]; omega) ?_
              refine W.cl [89] (by kernel_rfl) (p_zabs' v dv) ?_
              rintro _ _ ⟨rfl, rfl⟩
              refine W.cl [89] (by kernel_rfl) (p_zabs' u1 d1) ?_
              rintro _ _ ⟨rfl, rfl⟩
              refine W.cl [89] (by kernel_rfl) (p_cmp v u1) ?_
              rintro _ _ ⟨rfl, rfl⟩
              refine W.cl [82, 89] (by kernel_rfl) (r_gcdY S1 t1 S2 t2) ?_
              rintro _ _ ⟨u21, rfl, rfl⟩
              refine W.cl [] (by kernel_rfl) (p_ymade 1 (Nat.gcd X.natAbs Y.natAbs : Nat) u21 ⟨by rw [Int.natAbs_natCast], fun h => by rw [Int.sign_eq_one_of_pos (by omega)]⟩) ?_
              rintro _ _ ⟨S22, u22, rfl, rfl⟩
              refine W.cl [] (by kernel_rfl) (p_same g dg S22 u22) ?_
              rintro _ _ ⟨rfl, rfl⟩
              refine W.cl [106] (by kernel_rfl) (p_zmul u1 d1 u du) ?_
              rintro _ _ ⟨u24, d24, rfl, rfl⟩
              refine W.cl [106] (by kernel_rfl) (p_zmul u2 d2 v dv) ?_
              rintro _ _ ⟨u25, d25, rfl, rfl⟩
              refine W.cl [106] (by kernel_rfl) (p_zadd u24 d24 u25 d25) ?_
              rintro _ _ ⟨u26, d26, rfl, rfl⟩
              refine W.cl [106] (by kernel_rfl) (p_zcmp u26 d26 g dg) ?_
              rintro _ _ ⟨rfl, rfl⟩
              refine W.dt [106] 118 (cmpZ (X * U + Y * V) (Nat.gcd X.natAbs Y.natAbs : Nat) == 0) (by kernel_rfl) (by rw [beq_iff_eq, cmpZ_eq]; exact hE) ?_
              refine W.r [118] (.bool (decide (cmpN V.natAbs X.natAbs ≤ 0))) (by kernel_rfl) ⟨?_, rfl⟩ ent0
              rw [decide_eq_true (by rw [cmpZ_nat, cmpZ_le]; omega)]
          · refine W.df [] 74 (decide (cmpZ (U.natAbs : Int) ((1 : Nat) : Int) ≤ 0)) (by kernel_rfl) (by rw [decide_eq_false_iff_not, cmpZ_le]; omega) ?_
            have hb2 : U.natAbs ≤ Y.natAbs ∧ V.natAbs ≤ X.natAbs := hB.resolve_left (by omega)
            refine W.cl [82, 74] (by kernel_rfl) (p_zabs' u du) ?_
            rintro _ _ ⟨rfl, rfl⟩
            refine W.cl [82] (by kernel_rfl) (p_zabs' u2 d2) ?_
            rintro _ _ ⟨rfl, rfl⟩
            refine W.cl [82] (by kernel_rfl) (p_cmp u u2) ?_
            rintro _ _ ⟨rfl, rfl⟩
            refine W.dt [82] 89 (decide (cmpN U.natAbs Y.natAbs ≤ 0)) (by kernel_rfl) (by rw [decide_eq_true_iff, cmpZ_nat, cmpZ_le]; omega) ?_
            refine W.cl [89] (by kernel_rfl) (p_zabs' v dv) ?_
            rintro _ _ ⟨rfl, rfl⟩
            refine W.cl [89] (by kernel_rfl) (p_zabs' u1 d1) ?_
            rintro _ _ ⟨rfl, rfl⟩
            refine W.cl [89] (by kernel_rfl) (p_cmp v u1) ?_
            rintro _ _ ⟨rfl, rfl⟩
            refine W.cl [82, 89] (by kernel_rfl) (r_gcdY S1 t1 S2 t2) ?_
            rintro _ _ ⟨u21, rfl, rfl⟩
            refine W.cl [] (by kernel_rfl) (p_ymade 1 (Nat.gcd X.natAbs Y.natAbs : Nat) u21 ⟨by rw [Int.natAbs_natCast], fun h => by rw [Int.sign_eq_one_of_pos (by omega)]⟩) ?_
            rintro _ _ ⟨S22, u22, rfl, rfl⟩
            refine W.cl [] (by kernel_rfl) (p_same g dg S22 u22) ?_
            rintro _ _ ⟨rfl, rfl⟩
            refine W.cl [106] (by kernel_rfl) (p_zmul u1 d1 u du) ?_
            rintro _ _ ⟨u24, d24, rfl, rfl⟩
            refine W.cl [106] (by kernel_rfl) (p_zmul u2 d2 v dv) ?_
            rintro _ _ ⟨u25, d25, rfl, rfl⟩
            refine W.cl [106] (by kernel_rfl) (p_zadd u24 d24 u25 d25) ?_
            rintro _ _ ⟨u26, d26, rfl, rfl⟩
            refine W.cl [106] (by kernel_rfl) (p_zcmp u26 d26 g dg) ?_
            rintro _ _ ⟨rfl, rfl⟩
            refine W.dt [106] 118 (cmpZ (X * U + Y * V) (Nat.gcd X.natAbs Y.natAbs : Nat) == 0) (by kernel_rfl) (by rw [beq_iff_eq, cmpZ_eq]; exact hE) ?_
            refine W.r [118] (.bool (decide (cmpN V.natAbs X.natAbs ≤ 0))) (by kernel_rfl) ⟨?_, rfl⟩ ent0
            rw [decide_eq_true (by rw [cmpZ_nat, cmpZ_le]; omega)]
  · refine W.df [] 18 (decide ((x.size : Int) > 60)) (by kernel_rfl) (by rw [decide_eq_false_iff_not]; omega) ?_
    by_cases hy : 60 < y.size
    · refine W.dt [18] 23 (decide ((y.size : Int) > 60)) (by kernel_rfl) (by rw [decide_eq_true_iff]; omega) ?_
      refine W.sub' [23] y none (some (.int .i64 ((60 : Nat) : Int))) 0 60 tbOk (by kernel_rfl) (.inr ⟨rfl, rfl⟩) (.inl rfl) (by omega) (by omega) ?_
      skip
      refine W.cl [] (by kernel_rfl) (p_one x) ?_
      rintro _ _ ⟨u1, d1, S1, t1, rfl, hS1, rfl⟩
      refine W.cl [] (by kernel_rfl) (p_one (y.extract 0 60)) ?_
      rintro _ _ ⟨u2, d2, S2, t2, rfl, hS2, rfl⟩
      refine W.cl [] (by kernel_rfl) p_zknown ?_
      rintro _ _ ⟨rfl, rfl⟩
      generalize zfv x = X at *
      generalize zfv (y.extract 0 60) = Y at *
      cases hk1 : zok x with
      | false =>
        refine W.cl [47, 44, 40] (by kernel_rfl) p_zknown ?_
        rintro _ _ ⟨rfl, rfl⟩
        refine W.cl [49] (by kernel_rfl) (p_apart x) ?_
        rintro _ _ ⟨rfl, rfl⟩
        refine W.cl [54, 49] (by kernel_rfl) (p_apart (y.extract 0 60)) ?_
        rintro _ _ ⟨rfl, rfl⟩
        exact W.r [54] (.bool true) (by kernel_rfl) ⟨rfl, rfl⟩ ent0
      | true =>
        cases hk2 : zok (y.extract 0 60) with
        | false =>
          refine W.cl [47, 44, 40] (by kernel_rfl) p_zknown ?_
          rintro _ _ ⟨rfl, rfl⟩
          refine W.cl [49] (by kernel_rfl) (p_apart x) ?_
          rintro _ _ ⟨rfl, rfl⟩
          refine W.cl [54, 49] (by kernel_rfl) (p_apart (y.extract 0 60)) ?_
          rintro _ _ ⟨rfl, rfl⟩
          exact W.r [54] (.bool true) (by kernel_rfl) ⟨rfl, rfl⟩ ent0
        | true =>
          refine W.cl [47, 44, 40] (by kernel_rfl) (p_bezout u1 d1 u2 d2) ?_
          rintro _ _ ⟨g, dg, u, du, v, dv, U, V, rfl, hE, hB, rfl⟩
          refine W.cl [] (by kernel_rfl) (p_of 1 (by omega)) ?_
          rintro _ _ ⟨u13, rfl, rfl⟩
          refine W.cl [] (by kernel_rfl) (p_zbig u13) ?_
          rintro _ _ ⟨u14, d14, rfl, rfl⟩
          refine W.cl [] (by kernel_rfl) (p_zabs' u du) ?_
          rintro _ _ ⟨rfl, rfl⟩
          refine W.cl [] (by kernel_rfl) (p_zbig u) ?_
          rintro _ _ ⟨u16, d16, rfl, rfl⟩
          refine W.cl [] (by kernel_rfl) (p_zcmp u16 d16 u14 d14) ?_
          rintro _ _ ⟨rfl, rfl⟩
          by_cases hU : U.natAbs ≤ 1
          · refine W.dt [] 74 (decide (cmpZ (U.natAbs : Int) ((1 : Nat) : Int) ≤ 0)) (by kernel_rfl) (by rw [decide_eq_true_iff, cmpZ_le]; omega) ?_
            refine W.cl [74] (by kernel_rfl) (p_zabs' v dv) ?_
            rintro _ _ ⟨rfl, rfl⟩
            refine W.cl [74] (by kernel_rfl) (p_zbig v) ?_
            rintro _ _ ⟨u19, d19, rfl, rfl⟩
            refine W.cl [74] (by kernel_rfl) (p_zcmp u19 d19 u14 d14) ?_
            rintro _ _ ⟨rfl, rfl⟩
            by_cases hV : V.natAbs ≤ 1
            · refine W.dt [74] 82 (decide (cmpZ (V.natAbs : Int) ((1 : Nat) : Int) ≤ 0)) (by kernel_rfl) (by rw [decide_eq_true_iff, cmpZ_le]; omega) ?_
              refine W.cl [89, 82] (by kernel_rfl) (r_gcdY S1 t1 S2 t2) ?_
              rintro _ _ ⟨u21, rfl, rfl⟩
              refine W.cl [] (by kernel_rfl) (p_ymade 1 (Nat.gcd X.natAbs Y.natAbs : Nat) u21 ⟨by rw [Int.natAbs_natCast], fun h => by rw [Int.sign_eq_one_of_pos (by omega)]⟩) ?_
              rintro _ _ ⟨S22, u22, rfl, rfl⟩
              refine W.cl [] (by kernel_rfl) (p_same g dg S22 u22) ?_
              rintro _ _ ⟨rfl, rfl⟩
              refine W.cl [106] (by kernel_rfl) (p_zmul u1 d1 u du) ?_
              rintro _ _ ⟨u24, d24, rfl, rfl⟩
              refine W.cl [106] (by kernel_rfl) (p_zmul u2 d2 v dv) ?_
              rintro _ _ ⟨u25, d25, rfl, rfl⟩
              refine W.cl [106] (by kernel_rfl) (p_zadd u24 d24 u25 d25) ?_
              rintro _ _ ⟨u26, d26, rfl, rfl⟩
              refine W.cl [106] (by kernel_rfl) (p_zcmp u26 d26 g dg) ?_
              rintro _ _ ⟨rfl, rfl⟩
              refine W.dt [106] 118 (cmpZ (X * U + Y * V) (Nat.gcd X.natAbs Y.natAbs : Nat) == 0) (by kernel_rfl) (by rw [beq_iff_eq, cmpZ_eq]; exact hE) ?_
              exact W.r [118, 89, 82] (.bool true) (by kernel_rfl) ⟨rfl, rfl⟩ ent0
            · refine W.df [74] 82 (decide (cmpZ (V.natAbs : Int) ((1 : Nat) : Int) ≤ 0)) (by kernel_rfl) (by rw [decide_eq_false_iff_not, cmpZ_le]; omega) ?_
              have hb2 : U.natAbs ≤ Y.natAbs ∧ V.natAbs ≤ X.natAbs := hB.resolve_left (by omega)
              refine W.cl [82] (by kernel_rfl) (p_zabs' u du) ?_
              rintro _ _ ⟨rfl, rfl⟩
              refine W.cl [82] (by kernel_rfl) (p_zabs' u2 d2) ?_
              rintro _ _ ⟨rfl, rfl⟩
              refine W.cl [82] (by kernel_rfl) (p_cmp u u2) ?_
              rintro _ _ ⟨rfl, rfl⟩
              refine W.dt [82] 89 (decide (cmpN U.natAbs Y.natAbs ≤ 0)) (by kernel_rfl) (by rw [decide_eq_true_iff, cmpZ_nat, cmpZ_le]; omega) ?_
              refine W.cl [89] (by kernel_rfl) (p_zabs' v dv) ?_
              rintro _ _ ⟨rfl, rfl⟩
              refine W.cl [89] (by kernel_rfl) (p_zabs' u1 d1) ?_
              rintro _ _ ⟨rfl, rfl⟩
              refine W.cl [89] (by kernel_rfl) (p_cmp v u1) ?_
              rintro _ _ ⟨rfl, rfl⟩
              refine W.cl [82, 89] (by kernel_rfl) (r_gcdY S1 t1 S2 t2) ?_
              rintro _ _ ⟨u21, rfl, rfl⟩
              refine W.cl [] (by kernel_rfl) (p_ymade 1 (Nat.gcd X.natAbs Y.natAbs : Nat) u21 ⟨by rw [Int.natAbs_natCast], fun h => by rw [Int.sign_eq_one_of_pos (by omega)]⟩) ?_
              rintro _ _ ⟨S22, u22, rfl, rfl⟩
              refine W.cl [] (by kernel_rfl) (p_same g dg S22 u22) ?_
              rintro _ _ ⟨rfl, rfl⟩
              refine W.cl [106] (by kernel_rfl) (p_zmul u1 d1 u du) ?_
              rintro _ _ ⟨u24, d24, rfl, rfl⟩
              refine W.cl [106] (by kernel_rfl) (p_zmul u2 d2 v dv) ?_
              rintro _ _ ⟨u25, d25, rfl, rfl⟩
              refine W.cl [106] (by kernel_rfl) (p_zadd u24 d24 u25 d25) ?_
              rintro _ _ ⟨u26, d26, rfl, rfl⟩
              refine W.cl [106] (by kernel_rfl) (p_zcmp u26 d26 g dg) ?_
              rintro _ _ ⟨rfl, rfl⟩
              refine W.dt [106] 118 (cmpZ (X * U + Y * V) (Nat.gcd X.natAbs Y.natAbs : Nat) == 0) (by kernel_rfl) (by rw [beq_iff_eq, cmpZ_eq]; exact hE) ?_
              refine W.r [118] (.bool (decide (cmpN V.natAbs X.natAbs ≤ 0))) (by kernel_rfl) ⟨?_, rfl⟩ ent0
              rw [decide_eq_true (by rw [cmpZ_nat, cmpZ_le]; omega)]
          · refine W.df [] 74 (decide (cmpZ (U.natAbs : Int) ((1 : Nat) : Int) ≤ 0)) (by kernel_rfl) (by rw [decide_eq_false_iff_not, cmpZ_le]; omega) ?_
            have hb2 : U.natAbs ≤ Y.natAbs ∧ V.natAbs ≤ X.natAbs := hB.resolve_left (by omega)
            refine W.cl [82, 74] (by kernel_rfl) (p_zabs' u du) ?_
            rintro _ _ ⟨rfl, rfl⟩
            refine W.cl [82] (by kernel_rfl) (p_zabs' u2 d2) ?_
            rintro _ _ ⟨rfl, rfl⟩
            refine W.cl [82] (by kernel_rfl) (p_cmp u u2) ?_
            rintro _ _ ⟨rfl, rfl⟩
            refine W.dt [82] 89 (decide (cmpN U.natAbs Y.natAbs ≤ 0)) (by kernel_rfl) (by rw [decide_eq_true_iff, cmpZ_nat, cmpZ_le]; omega) ?_
            refine W.cl [89] (by kernel_rfl) (p_zabs' v dv) ?_
            rintro _ _ ⟨rfl, rfl⟩
            refine W.cl [89] (by kernel_rfl) (p_zabs' u1 d1) ?_
            rintro _ _ ⟨rfl, rfl⟩
            refine W.cl [89] (by kernel_rfl) (p_cmp v u1) ?_
            rintro _ _ ⟨rfl, rfl⟩
            refine W.cl [82, 89] (by kernel_rfl) (r_gcdY S1 t1 S2 t2) ?_
            rintro _ _ ⟨u21, rfl, rfl⟩
            refine W.cl [] (by kernel_rfl) (p_ymade 1 (Nat.gcd X.natAbs Y.natAbs : Nat) u21 ⟨by rw [Int.natAbs_natCast], fun h => by rw [Int.sign_eq_one_of_pos (by omega)]⟩) ?_
            rintro _ _ ⟨S22, u22, rfl, rfl⟩
            refine W.cl [] (by kernel_rfl) (p_same g dg S22 u22) ?_
            rintro _ _ ⟨rfl, rfl⟩
            refine W.cl [106] (by kernel_rfl) (p_zmul u1 d1 u du) ?_
            rintro _ _ ⟨u24, d24, rfl, rfl⟩
            refine W.cl [106] (by kernel_rfl) (p_zmul u2 d2 v dv) ?_
            rintro _ _ ⟨u25, d25, rfl, rfl⟩
            refine W.cl [106] (by kernel_rfl) (p_zadd u24 d24 u25 d25) ?_
            rintro _ _ ⟨u26, d26, rfl, rfl⟩
            refine W.cl [106] (by kernel_rfl) (p_zcmp u26 d26 g dg) ?_
            rintro _ _ ⟨rfl, rfl⟩
            refine W.dt [106] 118 (cmpZ (X * U + Y * V) (Nat.gcd X.natAbs Y.natAbs : Nat) == 0) (by kernel_rfl) (by rw [beq_iff_eq, cmpZ_eq]; exact hE) ?_
            refine W.r [118] (.bool (decide (cmpN V.natAbs X.natAbs ≤ 0))) (by kernel_rfl) ⟨?_, rfl⟩ ent0
            rw [decide_eq_true (by rw [cmpZ_nat, cmpZ_le]; omega)]
    · refine W.df [18] 23 (decide ((y.size : Int) > 60)) (by kernel_rfl) (by rw [decide_eq_false_iff_not]; omega) ?_
      refine W.cl [23] (by kernel_rfl) (p_one x) ?_
      rintro _ _ ⟨u1, d1, S1, t1, rfl, hS1, rfl⟩
      refine W.cl [] (by kernel_rfl) (p_one y) ?_
      rintro _ _ ⟨u2, d2, S2, t2, rfl, hS2, rfl⟩
      refine W.cl [] (by kernel_rfl) p_zknown ?_
      rintro _ _ ⟨rfl, rfl⟩
      generalize zfv x = X at *
      generalize zfv y = Y at *
      cases hk1 : zok x with
      | false =>
        refine W.cl [47, 44, 40] (by kernel_rfl) p_zknown ?_
        rintro _ _ ⟨rfl, rfl⟩
        refine W.cl [49] (by kernel_rfl) (p_apart x) ?_
        rintro _ _ ⟨rfl, rfl⟩
        refine W.cl [54, 49] (by kernel_rfl) (p_apart y) ?_
        rintro _ _ ⟨rfl, rfl⟩
        exact W.r [54] (.bool true) (by kernel_rfl) ⟨rfl, rfl⟩ ent0
      | true =>
        cases hk2 : zok y with
        | false =>
          refine W.cl [47, 44, 40] (by kernel_rfl) p_zknown ?_
          rintro _ _ ⟨rfl, rfl⟩
          refine W.cl [49] (by kernel_rfl) (p_apart x) ?_
          rintro _ _ ⟨rfl, rfl⟩
          refine W.cl [54, 49] (by kernel_rfl) (p_apart y) ?_
          rintro _ _ ⟨rfl, rfl⟩
          exact W.r [54] (.bool true) (by kernel_rfl) ⟨rfl, rfl⟩ ent0
        | true =>
          refine W.cl [47, 44, 40] (by kernel_rfl) (p_bezout u1 d1 u2 d2) ?_
          rintro _ _ ⟨g, dg, u, du, v, dv, U, V, rfl, hE, hB, rfl⟩
          refine W.cl [] (by kernel_rfl) (p_of 1 (by omega)) ?_
          rintro _ _ ⟨u13, rfl, rfl⟩
          refine W.cl [] (by kernel_rfl) (p_zbig u13) ?_
          rintro _ _ ⟨u14, d14, rfl, rfl⟩
          refine W.cl [] (by kernel_rfl) (p_zabs' u du) ?_
          rintro _ _ ⟨rfl, rfl⟩
          refine W.cl [] (by kernel_rfl) (p_zbig u) ?_
          rintro _ _ ⟨u16, d16, rfl, rfl⟩
          refine W.cl [] (by kernel_rfl) (p_zcmp u16 d16 u14 d14) ?_
          rintro _ _ ⟨rfl, rfl⟩
          by_cases hU : U.natAbs ≤ 1
          · refine W.dt [] 74 (decide (cmpZ (U.natAbs : Int) ((1 : Nat) : Int) ≤ 0)) (by kernel_rfl) (by rw [decide_eq_true_iff, cmpZ_le]; omega) ?_
            refine W.cl [74] (by kernel_rfl) (p_zabs' v dv) ?_
            rintro _ _ ⟨rfl, rfl⟩
            refine W.cl [74] (by kernel_rfl) (p_zbig v) ?_
            rintro _ _ ⟨u19, d19, rfl, rfl⟩
            refine W.cl [74] (by kernel_rfl) (p_zcmp u19 d19 u14 d14) ?_
            rintro _ _ ⟨rfl, rfl⟩
            by_cases hV : V.natAbs ≤ 1
            · refine W.dt [74] 82 (decide (cmpZ (V.natAbs : Int) ((1 : Nat) : Int) ≤ 0)) (by kernel_rfl) (by rw [decide_eq_true_iff, cmpZ_le]; omega) ?_
              refine W.cl [89, 82] (by kernel_rfl) (r_gcdY S1 t1 S2 t2) ?_
              rintro _ _ ⟨u21, rfl, rfl⟩
              refine W.cl [] (by kernel_rfl) (p_ymade 1 (Nat.gcd X.natAbs Y.natAbs : Nat) u21 ⟨by rw [Int.natAbs_natCast], fun h => by rw [Int.sign_eq_one_of_pos (by omega)]⟩) ?_
              rintro _ _ ⟨S22, u22, rfl, rfl⟩
              refine W.cl [] (by kernel_rfl) (p_same g dg S22 u22) ?_
              rintro _ _ ⟨rfl, rfl⟩
              refine W.cl [106] (by kernel_rfl) (p_zmul u1 d1 u du) ?_
              rintro _ _ ⟨u24, d24, rfl, rfl⟩
              refine W.cl [106] (by kernel_rfl) (p_zmul u2 d2 v dv) ?_
              rintro _ _ ⟨u25, d25, rfl, rfl⟩
              refine W.cl [106] (by kernel_rfl) (p_zadd u24 d24 u25 d25) ?_
              rintro _ _ ⟨u26, d26, rfl, rfl⟩
              refine W.cl [106] (by kernel_rfl) (p_zcmp u26 d26 g dg) ?_
              rintro _ _ ⟨rfl, rfl⟩
              refine W.dt [106] 118 (cmpZ (X * U + Y * V) (Nat.gcd X.natAbs Y.natAbs : Nat) == 0) (by kernel_rfl) (by rw [beq_iff_eq, cmpZ_eq]; exact hE) ?_
              exact W.r [118, 89, 82] (.bool true) (by kernel_rfl) ⟨rfl, rfl⟩ ent0
            · refine W.df [74] 82 (decide (cmpZ (V.natAbs : Int) ((1 : Nat) : Int) ≤ 0)) (by kernel_rfl) (by rw [decide_eq_false_iff_not, cmpZ_le]; omega) ?_
              have hb2 : U.natAbs ≤ Y.natAbs ∧ V.natAbs ≤ X.natAbs := hB.resolve_left (by omega)
              refine W.cl [82] (by kernel_rfl) (p_zabs' u du) ?_
              rintro _ _ ⟨rfl, rfl⟩
              refine W.cl [82] (by kernel_rfl) (p_zabs' u2 d2) ?_
              rintro _ _ ⟨rfl, rfl⟩
              refine W.cl [82] (by kernel_rfl) (p_cmp u u2) ?_
              rintro _ _ ⟨rfl, rfl⟩
              refine W.dt [82] 89 (decide (cmpN U.natAbs Y.natAbs ≤ 0)) (by kernel_rfl) (by rw [decide_eq_true_iff, cmpZ_nat, cmpZ_le]; omega) ?_
              refine W.cl [89] (by kernel_rfl) (p_zabs' v dv) ?_
              rintro _ _ ⟨rfl, rfl⟩
              refine W.cl [89] (by kernel_rfl) (p_zabs' u1 d1) ?_
              rintro _ _ ⟨rfl, rfl⟩
              refine W.cl [89] (by kernel_rfl) (p_cmp v u1) ?_
              rintro _ _ ⟨rfl, rfl⟩
              refine W.cl [82, 89] (by kernel_rfl) (r_gcdY S1 t1 S2 t2) ?_
              rintro _ _ ⟨u21, rfl, rfl⟩
              refine W.cl [] (by kernel_rfl) (p_ymade 1 (Nat.gcd X.natAbs Y.natAbs : Nat) u21 ⟨by rw [Int.natAbs_natCast], fun h => by rw [Int.sign_eq_one_of_pos (by omega)]⟩) ?_
              rintro _ _ ⟨S22, u22, rfl, rfl⟩
              refine W.cl [] (by kernel_rfl) (p_same g dg S22 u22) ?_
              rintro _ _ ⟨rfl, rfl⟩
              refine W.cl [106] (by kernel_rfl) (p_zmul u1 d1 u du) ?_
              rintro _ _ ⟨u24, d24, rfl, rfl⟩
              refine W.cl [106] (by kernel_rfl) (p_zmul u2 d2 v dv) ?_
              rintro _ _ ⟨u25, d25, rfl, rfl⟩
              refine W.cl [106] (by kernel_rfl) (p_zadd u24 d24 u25 d25) ?_
              rintro _ _ ⟨u26, d26, rfl, rfl⟩
              refine W.cl [106] (by kernel_rfl) (p_zcmp u26 d26 g dg) ?_
              rintro _ _ ⟨rfl, rfl⟩
              refine W.dt [106] 118 (cmpZ (X * U + Y * V) (Nat.gcd X.natAbs Y.natAbs : Nat) == 0) (by kernel_rfl) (by rw [beq_iff_eq, cmpZ_eq]; exact hE) ?_
              refine W.r [118] (.bool (decide (cmpN V.natAbs X.natAbs ≤ 0))) (by kernel_rfl) ⟨?_, rfl⟩ ent0
              rw [decide_eq_true (by rw [cmpZ_nat, cmpZ_le]; omega)]
          · refine W.df [] 74 (decide (cmpZ (U.natAbs : Int) ((1 : Nat) : Int) ≤ 0)) (by kernel_rfl) (by rw [decide_eq_false_iff_not, cmpZ_le]; omega) ?_
            have hb2 : U.natAbs ≤ Y.natAbs ∧ V.natAbs ≤ X.natAbs := hB.resolve_left (by omega)
            refine W.cl [82, 74] (by kernel_rfl) (p_zabs' u du) ?_
            rintro _ _ ⟨rfl, rfl⟩
            refine W.cl [82] (by kernel_rfl) (p_zabs' u2 d2) ?_
            rintro _ _ ⟨rfl, rfl⟩
            refine W.cl [82] (by kernel_rfl) (p_cmp u u2) ?_
            rintro _ _ ⟨rfl, rfl⟩
            refine W.dt [82] 89 (decide (cmpN U.natAbs Y.natAbs ≤ 0)) (by kernel_rfl) (by rw [decide_eq_true_iff, cmpZ_nat, cmpZ_le]; omega) ?_
            refine W.cl [89] (by kernel_rfl) (p_zabs' v dv) ?_
            rintro _ _ ⟨rfl, rfl⟩
            refine W.cl [89] (by kernel_rfl) (p_zabs' u1 d1) ?_
            rintro _ _ ⟨rfl, rfl⟩
            refine W.cl [89] (by kernel_rfl) (p_cmp v u1) ?_
            rintro _ _ ⟨rfl, rfl⟩
            refine W.cl [82, 89] (by kernel_rfl) (r_gcdY S1 t1 S2 t2) ?_
            rintro _ _ ⟨u21, rfl, rfl⟩
            refine W.cl [] (by kernel_rfl) (p_ymade 1 (Nat.gcd X.natAbs Y.natAbs : Nat) u21 ⟨by rw [Int.natAbs_natCast], fun h => by rw [Int.sign_eq_one_of_pos (by omega)]⟩) ?_
            rintro _ _ ⟨S22, u22, rfl, rfl⟩
            refine W.cl [] (by kernel_rfl) (p_same g dg S22 u22) ?_
            rintro _ _ ⟨rfl, rfl⟩
            refine W.cl [106] (by kernel_rfl) (p_zmul u1 d1 u du) ?_
            rintro _ _ ⟨u24, d24, rfl, rfl⟩
            refine W.cl [106] (by kernel_rfl) (p_zmul u2 d2 v dv) ?_
            rintro _ _ ⟨u25, d25, rfl, rfl⟩
            refine W.cl [106] (by kernel_rfl) (p_zadd u24 d24 u25 d25) ?_
            rintro _ _ ⟨u26, d26, rfl, rfl⟩
            refine W.cl [106] (by kernel_rfl) (p_zcmp u26 d26 g dg) ?_
            rintro _ _ ⟨rfl, rfl⟩
            refine W.dt [106] 118 (cmpZ (X * U + Y * V) (Nat.gcd X.natAbs Y.natAbs : Nat) == 0) (by kernel_rfl) (by rw [beq_iff_eq, cmpZ_eq]; exact hE) ?_
            refine W.r [118] (.bool (decide (cmpN V.natAbs X.natAbs ≤ 0))) (by kernel_rfl) ⟨?_, rfl⟩ ent0
            rw [decide_eq_true (by rw [cmpZ_nat, cmpZ_le]; omega)]
theorem zedBezout_walk (a0 a1 : ByteArray) (_ : a0.size ≤ 9223372036854775807) (_ : a1.size ≤ 9223372036854775807) (w : World) : Calls Try.prog 11 #[.string a0, .string a1] w fun e w' => e = .returned (.bool true) ∧ Below w.heap.size w w' := law_calls (p_zedBezout a0 a1) w

end Go.Proofs.Ytnjohlimjbmkgaa
namespace Go.Proofs.Ytnjohlimjbmkgaa.zedBezout
open Go.ChangeShapes Go.WideShapes Go.ChangeAt Go.RowKit
open Go.ChangeMaps (open_string shut_string)

theorem own : ownKnob Try.prog.godebug = none := by kernel_rfl

set_option maxRecDepth 100000 in
theorem lifted (os : Os) (started : os.Started) (H : Type) (enc : TypeId × Value → H) :
    ReturnsInHanded {} Try.checked os 11 .any (Rows.zedBezoutSpec.pre6 enc Try.prog Try.f11 Rows.zedBezoutRow.domain false) (Rows.zedBezoutSpec.post enc Try.prog Try.f11 false true false false) := by
  refine returnsInHanded_of_change (C := Try.checked) own started (by kernel_rfl) Try.func11
    (ChangeSpec.witness6 (enc := enc) (C := Try.checked) false ⟨#[], #[.string ⟨#[]⟩, .string ⟨#[]⟩], []⟩ 8 (by kernel_rfl) (by kernel_rfl) (by kernel_rfl) (by kernel_rfl)) ?_
  intro W base args ds gs before hval0 hW hcnd _
  have hval : ∀ (j : Nat) t v, Try.f11.params[j]? = some t → args[j]? = some v → Value.okWide Try.prog W .any base t v := hval0
  have hW' := hW
  obtain ⟨p, q, hA0, hV, rfl, hfz, hnd⟩ := hW
  have hA : DataW.TrodAll enc Try.prog W 0 (fun _ => true) true Try.f11.params.toList args.toList ds p := hA0
  rw [Try.params11] at hA hval
  obtain ⟨v0, vs0, d0, ds0, p0, q0, hargs, rfl, rfl, h0, r0⟩ := trodAll_cons hA
  obtain ⟨v1, vs1, d1, ds1, p1, q1, rfl, rfl, rfl, h1, r1⟩ := trodAll_cons r0
  obtain ⟨rfl, rfl, rfl⟩ := trodAll_nil r1
  obtain rfl : args = #[v0, v1] := by cases args; simp_all
  obtain ⟨rfl, rfl⟩ := trodVars_none hV
  obtain ⟨a0, rfl, rfl, rfl, w0⟩ := open_string Try.underlying9 (hval 0 9 v0 rfl rfl) h0
  obtain ⟨a1, rfl, rfl, rfl, w1⟩ := open_string Try.underlying9 (hval 1 9 v1 rfl rfl) h1
  clear hA0 hval0
  simp only [List.append_nil] at hW'
  refine (zedBezout_walk a0 a1 w0 w1 W).mono fun e W' ⟨he, hg⟩ => ?_
  subst he
  exact ⟨_, rfl, law_post hW' rfl (fun _ _ _ => (trodAll_cons_mk (shut_bool Try.underlying4 _) trodAll_mk0)) (fun sp _ => (trodAll_cons_mk (shut_string Try.underlying9 w0) (trodAll_cons_mk (shut_string Try.underlying9 w1) trodAll_mk0))) rfl hg⟩

theorem over : Rows.zedBezoutRow.holds Try.pinned (OpenSpec.ofChange Rows.zedBezoutSpec) :=
  OpenClaim.holds_of_wide 11 Try.f11 rfl rfl rfl rfl rfl rfl rfl ⟨rfl, rfl, rfl, rfl, rfl⟩ rfl rfl rfl rfl rfl (by kernel_rfl) Try.func11 (by kernel_rfl)
    (of_decide_eq_true (by kernel_rfl)) (by unfold Func.isWrapper; first | (rw [if_pos (by decide +kernel)]; kernel_rfl) | (rw [if_neg (by decide +kernel)]; exact ⟨rfl, rfl⟩))
    (fun os started H enc _ => lifted os started H enc)
end Go.Proofs.Ytnjohlimjbmkgaa.zedBezout
namespace Go.Proofs.Ytnjohlimjbmkgaa

/-- The statement. -/
theorem zedBezout_holds : Rows.ZedBezoutSaid := zedBezout.over
end Go.Proofs.Ytnjohlimjbmkgaa
