/- Places of other fields: the numbers of which they are made. -/
import Derived.Test.YtaafmafdnnjmdaaVu
import Derived.Test.YtaafmafdnnjmdaaOq
import Derived.Test.YtaafmafdnnjmdaaRk
set_option linter.unusedSimpArgs false
set_option linter.unusedVariables false
namespace Go.Proofs.Ytaafmafdnnjmdaa
open Go.RowKit Go.IntWalk

section
variable {fin : VS → List Fact → Prop} {Γ : List Fact} {L M K : Nat}
/-- A division by what isn't 0. -/
def rot : Nat → Sn → Sn → Sn × Sn
  | 0, X, Y => (X, Y)
  | k + 1, X, Y => rot k Y.neg X
/-- Before the move. -/
def On.farP (V : On) (X Y : Sn) : Sn × Sn := rot (V.o / 2).toNat (X.mul ⟨X.m, X.n, V.mag, 0, 0, 0⟩) (if V.f then (Y.mul ⟨X.m, X.n, V.mag, 0, 0, 0⟩).neg else Y.mul ⟨X.m, X.n, V.mag, 0, 0, 0⟩)
def On.farX (V : On) (X Y : Sn) : Sn := (V.farP X Y).1.add ⟨X.m, X.n, V.a, V.b, 0, 0⟩
def On.farY (V : On) (X Y : Sn) : Sn := (V.farP X Y).2.add ⟨X.m, X.n, V.c, V.d, 0, 0⟩

set_option maxHeartbeats 4000000 in
theorem p_ofarG0t (g a c : Rat) {L1 : Nat} (t : Q5) (x y : Sw) {X Y : Sn} [Has (OF t) (L1, (⟨true, 0, g, a, 0, c, 0⟩ : On)) Γ] [Has (SF x) (L, X) Γ] [Has (SF y) (M, Y) Γ] (h0 : 0 ≤ X.m ∧ 0 ≤ X.n) (hmn : 2 < X.m ∨ 2 < X.n) (em : X.m = Y.m) (en : X.n = Y.n) (hL : L ≤ 40 ∧ M ≤ 40 ∧ L1 ≤ 100 := by omega) :
    PCalls tb Try.prog 20 [ttv true 0 t.g t.a t.b t.c t.d, plv x y] Γ (FarPost 2000 (On.farX (⟨true, 0, g, a, 0, c, 0⟩ : On) X Y) (On.farY (⟨true, 0, g, a, 0, c, 0⟩ : On) X Y)) := by
  refine PCalls.of_W tbOk Try.func20 rfl (by kernel_rfl) ?_
  refine W.of5 t rfl ?_
  refine W.sf x rfl ?_
  refine W.cl [] (by kernel_rfl) (p_olike x y em en) ?_
  rintro _ _ ⟨rfl, rfl⟩
  refine W.cl [24] (by kernel_rfl) (p_onarrowF x h0 hmn) ?_
  rintro _ _ ⟨rfl, rfl⟩
  refine W.rem [32] 0 2 0 (by kernel_rfl) (by decide) (by decide) ?_
  refine W.df [] 63 ((0 : Int) != 0) (by kernel_rfl) (by decide +kernel) ?_
  refine W.cl [63] (by kernel_rfl) (p_qsign t.b.n t.b.a t.b.m t.b.b) ?_
  rintro _ _ ⟨rfl, rfl⟩
  refine W.df [63] 70 ((0 : Rat).num.sign != 0) (by kernel_rfl) (by decide +kernel) ?_
  refine W.cl [70] (by kernel_rfl) (p_qsign t.d.n t.d.a t.d.m t.d.b) ?_
  rintro _ _ ⟨rfl, rfl⟩
  refine W.df [70] 76 ((0 : Rat).num.sign != 0) (by kernel_rfl) (by decide +kernel) ?_
  refine W.cl [76] (by kernel_rfl) (p_xfield x) ?_
  rintro _ _ ⟨rfl, rfl⟩
  refine W.cl [] (by kernel_rfl) (p_omag true 0 t.g t.a t.b t.c t.d (V := (⟨true, 0, g, a, 0, c, 0⟩ : On))) ?_
  rintro _ _ ⟨g7, rfl, rfl⟩
  generalize hq : On.mag (⟨true, 0, g, a, 0, c, 0⟩ : On) = qm
  refine W.bs [] 1 ([(⟨g7.n, g7.a, g7.m, g7.b, qm⟩ : QE)].flatMap QR.cells) tbOk (by kernel_rfl) (fun b8 => ?_)
  refine W.cl [] (by kernel_rfl) (p_xof1 x.u x.d x.v x.e b8 ⟨g7.n, g7.a, g7.m, g7.b⟩ h0.1 h0.2) ?_
  rintro _ _ ⟨X9, rfl, rfl⟩
  refine W.cl [] (by kernel_rfl) (p_xmul (S := X) (T := ⟨X.m, X.n, qm, 0, 0, 0⟩) x X9 rfl rfl) ?_
  rintro _ _ ⟨X10, rfl, rfl⟩
  refine W.cl [] (by kernel_rfl) (p_xmul (S := Y) (T := ⟨X.m, X.n, qm, 0, 0, 0⟩) y X9 em.symm en.symm) ?_
  rintro _ _ ⟨X11, rfl, rfl⟩
  refine W.cl [108] (by kernel_rfl) (p_xneg X11) ?_
  rintro _ _ ⟨X12, rfl, rfl⟩
  refine W.quo [] 0 2 0 (by kernel_rfl) (by decide) (by decide) ?_
  refine W.unr [] 6 (by kernel_rfl) ?_
  refine W.cl [115] (by kernel_rfl) (p_onumber x.u x.d x.v x.e t.a t.b h0.1 h0.2) ?_
  rintro _ _ ⟨X20, rfl, rfl⟩
  refine W.cl [] (by kernel_rfl) (p_xadd (S := (X.mul ⟨X.m, X.n, qm, 0, 0, 0⟩)) (T := ⟨X.m, X.n, a, 0, 0, 0⟩) X10 X20 rfl rfl) ?_
  rintro _ _ ⟨X21, rfl, rfl⟩
  refine W.cl [] (by kernel_rfl) (p_onumber x.u x.d x.v x.e t.c t.d h0.1 h0.2) ?_
  rintro _ _ ⟨X22, rfl, rfl⟩
  refine W.cl [] (by kernel_rfl) (p_xadd (S := (Y.mul ⟨X.m, X.n, qm, 0, 0, 0⟩).neg) (T := ⟨X.m, X.n, c, 0, 0, 0⟩) X12 X22 em.symm en.symm) ?_
  rintro _ _ ⟨X23, rfl, rfl⟩
  exact W.r [] (.tuple #[plv X21 X23, .int .i64 0]) (by kernel_rfl) ⟨_, _, rfl, rfl⟩ (entPl (by omega) (by unfold On.farX On.farP; rw [hq]; rfl) (by unfold On.farY On.farP; rw [hq]; rfl))

set_option maxHeartbeats 4000000 in
theorem p_ofarG0f (g a c : Rat) {L1 : Nat} (t : Q5) (x y : Sw) {X Y : Sn} [Has (OF t) (L1, (⟨false, 0, g, a, 0, c, 0⟩ : On)) Γ] [Has (SF x) (L, X) Γ] [Has (SF y) (M, Y) Γ] (h0 : 0 ≤ X.m ∧ 0 ≤ X.n) (hmn : 2 < X.m ∨ 2 < X.n) (em : X.m = Y.m) (en : X.n = Y.n) (hL : L ≤ 40 ∧ M ≤ 40 ∧ L1 ≤ 100 := by omega) :
    PCalls tb Try.prog 20 [ttv false 0 t.g t.a t.b t.c t.d, plv x y] Γ (FarPost 2000 (On.farX (⟨false, 0, g, a, 0, c, 0⟩ : On) X Y) (On.farY (⟨false, 0, g, a, 0, c, 0⟩ : On) X Y)) := by
  refine PCalls.of_W tbOk Try.func20 rfl (by kernel_rfl) ?_
  refine W.of5 t rfl ?_
  refine W.sf x rfl ?_
  refine W.cl [] (by kernel_rfl) (p_olike x y em en) ?_
  rintro _ _ ⟨rfl, rfl⟩
  refine W.cl [24] (by kernel_rfl) (p_onarrowF x h0 hmn) ?_
  rintro _ _ ⟨rfl, rfl⟩
  refine W.rem [32] 0 2 0 (by kernel_rfl) (by decide) (by decide) ?_
  refine W.df [] 63 ((0 : Int) != 0) (by kernel_rfl) (by decide +kernel) ?_
  refine W.cl [63] (by kernel_rfl) (p_qsign t.b.n t.b.a t.b.m t.b.b) ?_
  rintro _ _ ⟨rfl, rfl⟩
  refine W.df [63] 70 ((0 : Rat).num.sign != 0) (by kernel_rfl) (by decide +kernel) ?_
  refine W.cl [70] (by kernel_rfl) (p_qsign t.d.n t.d.a t.d.m t.d.b) ?_
  rintro _ _ ⟨rfl, rfl⟩
  refine W.df [70] 76 ((0 : Rat).num.sign != 0) (by kernel_rfl) (by decide +kernel) ?_
  refine W.cl [76] (by kernel_rfl) (p_xfield x) ?_
  rintro _ _ ⟨rfl, rfl⟩
  refine W.cl [] (by kernel_rfl) (p_omag false 0 t.g t.a t.b t.c t.d (V := (⟨false, 0, g, a, 0, c, 0⟩ : On))) ?_
  rintro _ _ ⟨g7, rfl, rfl⟩
  generalize hq : On.mag (⟨false, 0, g, a, 0, c, 0⟩ : On) = qm
  refine W.bs [] 1 ([(⟨g7.n, g7.a, g7.m, g7.b, qm⟩ : QE)].flatMap QR.cells) tbOk (by kernel_rfl) (fun b8 => ?_)
  refine W.cl [] (by kernel_rfl) (p_xof1 x.u x.d x.v x.e b8 ⟨g7.n, g7.a, g7.m, g7.b⟩ h0.1 h0.2) ?_
  rintro _ _ ⟨X9, rfl, rfl⟩
  refine W.cl [] (by kernel_rfl) (p_xmul (S := X) (T := ⟨X.m, X.n, qm, 0, 0, 0⟩) x X9 rfl rfl) ?_
  rintro _ _ ⟨X10, rfl, rfl⟩
  refine W.cl [] (by kernel_rfl) (p_xmul (S := Y) (T := ⟨X.m, X.n, qm, 0, 0, 0⟩) y X9 em.symm en.symm) ?_
  rintro _ _ ⟨X11, rfl, rfl⟩
  refine W.quo [108] 0 2 0 (by kernel_rfl) (by decide) (by decide) ?_
  refine W.unr [] 6 (by kernel_rfl) ?_
  refine W.cl [115] (by kernel_rfl) (p_onumber x.u x.d x.v x.e t.a t.b h0.1 h0.2) ?_
  rintro _ _ ⟨X20, rfl, rfl⟩
  refine W.cl [] (by kernel_rfl) (p_xadd (S := (X.mul ⟨X.m, X.n, qm, 0, 0, 0⟩)) (T := ⟨X.m, X.n, a, 0, 0, 0⟩) X10 X20 rfl rfl) ?_
  rintro _ _ ⟨X21, rfl, rfl⟩
  refine W.cl [] (by kernel_rfl) (p_onumber x.u x.d x.v x.e t.c t.d h0.1 h0.2) ?_
  rintro _ _ ⟨X22, rfl, rfl⟩
  refine W.cl [] (by kernel_rfl) (p_xadd (S := (Y.mul ⟨X.m, X.n, qm, 0, 0, 0⟩)) (T := ⟨X.m, X.n, c, 0, 0, 0⟩) X11 X22 em.symm en.symm) ?_
  rintro _ _ ⟨X23, rfl, rfl⟩
  exact W.r [] (.tuple #[plv X21 X23, .int .i64 0]) (by kernel_rfl) ⟨_, _, rfl, rfl⟩ (entPl (by omega) (by unfold On.farX On.farP; rw [hq]; rfl) (by unfold On.farY On.farP; rw [hq]; rfl))

set_option maxHeartbeats 4000000 in
theorem p_ofarG2t (g a c : Rat) {L1 : Nat} (t : Q5) (x y : Sw) {X Y : Sn} [Has (OF t) (L1, (⟨true, 2, g, a, 0, c, 0⟩ : On)) Γ] [Has (SF x) (L, X) Γ] [Has (SF y) (M, Y) Γ] (h0 : 0 ≤ X.m ∧ 0 ≤ X.n) (hmn : 2 < X.m ∨ 2 < X.n) (em : X.m = Y.m) (en : X.n = Y.n) (hL : L ≤ 40 ∧ M ≤ 40 ∧ L1 ≤ 100 := by omega) :
    PCalls tb Try.prog 20 [ttv true 2 t.g t.a t.b t.c t.d, plv x y] Γ (FarPost 2000 (On.farX (⟨true, 2, g, a, 0, c, 0⟩ : On) X Y) (On.farY (⟨true, 2, g, a, 0, c, 0⟩ : On) X Y)) := by
  refine PCalls.of_W tbOk Try.func20 rfl (by kernel_rfl) ?_
  refine W.of5 t rfl ?_
  refine W.sf x rfl ?_
  refine W.cl [] (by kernel_rfl) (p_olike x y em en) ?_
  rintro _ _ ⟨rfl, rfl⟩
  refine W.cl [24] (by kernel_rfl) (p_onarrowF x h0 hmn) ?_
  rintro _ _ ⟨rfl, rfl⟩
  refine W.rem [32] 2 2 0 (by kernel_rfl) (by decide) (by decide) ?_
  refine W.df [] 63 ((0 : Int) != 0) (by kernel_rfl) (by decide +kernel) ?_
  refine W.cl [63] (by kernel_rfl) (p_qsign t.b.n t.b.a t.b.m t.b.b) ?_
  rintro _ _ ⟨rfl, rfl⟩
  refine W.df [63] 70 ((0 : Rat).num.sign != 0) (by kernel_rfl) (by decide +kernel) ?_
  refine W.cl [70] (by kernel_rfl) (p_qsign t.d.n t.d.a t.d.m t.d.b) ?_
  rintro _ _ ⟨rfl, rfl⟩
  refine W.df [70] 76 ((0 : Rat).num.sign != 0) (by kernel_rfl) (by decide +kernel) ?_
  refine W.cl [76] (by kernel_rfl) (p_xfield x) ?_
  rintro _ _ ⟨rfl, rfl⟩
  refine W.cl [] (by kernel_rfl) (p_omag true 2 t.g t.a t.b t.c t.d (V := (⟨true, 2, g, a, 0, c, 0⟩ : On))) ?_
  rintro _ _ ⟨g7, rfl, rfl⟩
  generalize hq : On.mag (⟨true, 2, g, a, 0, c, 0⟩ : On) = qm
  refine W.bs [] 1 ([(⟨g7.n, g7.a, g7.m, g7.b, qm⟩ : QE)].flatMap QR.cells) tbOk (by kernel_rfl) (fun b8 => ?_)
  refine W.cl [] (by kernel_rfl) (p_xof1 x.u x.d x.v x.e b8 ⟨g7.n, g7.a, g7.m, g7.b⟩ h0.1 h0.2) ?_
  rintro _ _ ⟨X9, rfl, rfl⟩
  refine W.cl [] (by kernel_rfl) (p_xmul (S := X) (T := ⟨X.m, X.n, qm, 0, 0, 0⟩) x X9 rfl rfl) ?_
  rintro _ _ ⟨X10, rfl, rfl⟩
  refine W.cl [] (by kernel_rfl) (p_xmul (S := Y) (T := ⟨X.m, X.n, qm, 0, 0, 0⟩) y X9 em.symm en.symm) ?_
  rintro _ _ ⟨X11, rfl, rfl⟩
  refine W.cl [108] (by kernel_rfl) (p_xneg X11) ?_
  rintro _ _ ⟨X12, rfl, rfl⟩
  refine W.quo [] 2 2 1 (by kernel_rfl) (by decide) (by decide) ?_
  refine W.unr [] 6 (by kernel_rfl) ?_
  refine W.cl [115] (by kernel_rfl) (p_xneg X12) ?_
  rintro _ _ ⟨X13, rfl, rfl⟩
  refine W.cl [115] (by kernel_rfl) (p_onumber x.u x.d x.v x.e t.a t.b h0.1 h0.2) ?_
  rintro _ _ ⟨X20, rfl, rfl⟩
  refine W.cl [] (by kernel_rfl) (p_xadd (S := (Y.mul ⟨X.m, X.n, qm, 0, 0, 0⟩).neg.neg) (T := ⟨X.m, X.n, a, 0, 0, 0⟩) X13 X20 em.symm en.symm) ?_
  rintro _ _ ⟨X21, rfl, rfl⟩
  refine W.cl [] (by kernel_rfl) (p_onumber x.u x.d x.v x.e t.c t.d h0.1 h0.2) ?_
  rintro _ _ ⟨X22, rfl, rfl⟩
  refine W.cl [] (by kernel_rfl) (p_xadd (S := (X.mul ⟨X.m, X.n, qm, 0, 0, 0⟩)) (T := ⟨X.m, X.n, c, 0, 0, 0⟩) X10 X22 rfl rfl) ?_
  rintro _ _ ⟨X23, rfl, rfl⟩
  exact W.r [] (.tuple #[plv X21 X23, .int .i64 0]) (by kernel_rfl) ⟨_, _, rfl, rfl⟩ (entPl (by omega) (by unfold On.farX On.farP; rw [hq]; rfl) (by unfold On.farY On.farP; rw [hq]; rfl))

set_option maxHeartbeats 4000000 in
theorem p_ofarG2f (g a c : Rat) {L1 : Nat} (t : Q5) (x y : Sw) {X Y : Sn} [Has (OF t) (L1, (⟨false, 2, g, a, 0, c, 0⟩ : On)) Γ] [Has (SF x) (L, X) Γ] [Has (SF y) (M, Y) Γ] (h0 : 0 ≤ X.m ∧ 0 ≤ X.n) (hmn : 2 < X.m ∨ 2 < X.n) (em : X.m = Y.m) (en : X.n = Y.n) (hL : L ≤ 40 ∧ M ≤ 40 ∧ L1 ≤ 100 := by omega) :
    PCalls tb Try.prog 20 [ttv false 2 t.g t.a t.b t.c t.d, plv x y] Γ (FarPost 2000 (On.farX (⟨false, 2, g, a, 0, c, 0⟩ : On) X Y) (On.farY (⟨false, 2, g, a, 0, c, 0⟩ : On) X Y)) := by
  refine PCalls.of_W tbOk Try.func20 rfl (by kernel_rfl) ?_
  refine W.of5 t rfl ?_
  refine W.sf x rfl ?_
  refine W.cl [] (by kernel_rfl) (p_olike x y em en) ?_
  rintro _ _ ⟨rfl, rfl⟩
  refine W.cl [24] (by kernel_rfl) (p_onarrowF x h0 hmn) ?_
  rintro _ _ ⟨rfl, rfl⟩
  refine W.rem [32] 2 2 0 (by kernel_rfl) (by decide) (by decide) ?_
  refine W.df [] 63 ((0 : Int) != 0) (by kernel_rfl) (by decide +kernel) ?_
  refine W.cl [63] (by kernel_rfl) (p_qsign t.b.n t.b.a t.b.m t.b.b) ?_
  rintro _ _ ⟨rfl, rfl⟩
  refine W.df [63] 70 ((0 : Rat).num.sign != 0) (by kernel_rfl) (by decide +kernel) ?_
  refine W.cl [70] (by kernel_rfl) (p_qsign t.d.n t.d.a t.d.m t.d.b) ?_
  rintro _ _ ⟨rfl, rfl⟩
  refine W.df [70] 76 ((0 : Rat).num.sign != 0) (by kernel_rfl) (by decide +kernel) ?_
  refine W.cl [76] (by kernel_rfl) (p_xfield x) ?_
  rintro _ _ ⟨rfl, rfl⟩
  refine W.cl [] (by kernel_rfl) (p_omag false 2 t.g t.a t.b t.c t.d (V := (⟨false, 2, g, a, 0, c, 0⟩ : On))) ?_
  rintro _ _ ⟨g7, rfl, rfl⟩
  generalize hq : On.mag (⟨false, 2, g, a, 0, c, 0⟩ : On) = qm
  refine W.bs [] 1 ([(⟨g7.n, g7.a, g7.m, g7.b, qm⟩ : QE)].flatMap QR.cells) tbOk (by kernel_rfl) (fun b8 => ?_)
  refine W.cl [] (by kernel_rfl) (p_xof1 x.u x.d x.v x.e b8 ⟨g7.n, g7.a, g7.m, g7.b⟩ h0.1 h0.2) ?_
  rintro _ _ ⟨X9, rfl, rfl⟩
  refine W.cl [] (by kernel_rfl) (p_xmul (S := X) (T := ⟨X.m, X.n, qm, 0, 0, 0⟩) x X9 rfl rfl) ?_
  rintro _ _ ⟨X10, rfl, rfl⟩
  refine W.cl [] (by kernel_rfl) (p_xmul (S := Y) (T := ⟨X.m, X.n, qm, 0, 0, 0⟩) y X9 em.symm en.symm) ?_
  rintro _ _ ⟨X11, rfl, rfl⟩
  refine W.quo [108] 2 2 1 (by kernel_rfl) (by decide) (by decide) ?_
  refine W.unr [] 6 (by kernel_rfl) ?_
  refine W.cl [115] (by kernel_rfl) (p_xneg X11) ?_
  rintro _ _ ⟨X12, rfl, rfl⟩
  refine W.cl [115] (by kernel_rfl) (p_onumber x.u x.d x.v x.e t.a t.b h0.1 h0.2) ?_
  rintro _ _ ⟨X20, rfl, rfl⟩
  refine W.cl [] (by kernel_rfl) (p_xadd (S := (Y.mul ⟨X.m, X.n, qm, 0, 0, 0⟩).neg) (T := ⟨X.m, X.n, a, 0, 0, 0⟩) X12 X20 em.symm en.symm) ?_
  rintro _ _ ⟨X21, rfl, rfl⟩
  refine W.cl [] (by kernel_rfl) (p_onumber x.u x.d x.v x.e t.c t.d h0.1 h0.2) ?_
  rintro _ _ ⟨X22, rfl, rfl⟩
  refine W.cl [] (by kernel_rfl) (p_xadd (S := (X.mul ⟨X.m, X.n, qm, 0, 0, 0⟩)) (T := ⟨X.m, X.n, c, 0, 0, 0⟩) X10 X22 rfl rfl) ?_
  rintro _ _ ⟨X23, rfl, rfl⟩
  exact W.r [] (.tuple #[plv X21 X23, .int .i64 0]) (by kernel_rfl) ⟨_, _, rfl, rfl⟩ (entPl (by omega) (by unfold On.farX On.farP; rw [hq]; rfl) (by unfold On.farY On.farP; rw [hq]; rfl))

set_option maxHeartbeats 4000000 in
theorem p_ofarG4t (g a c : Rat) {L1 : Nat} (t : Q5) (x y : Sw) {X Y : Sn} [Has (OF t) (L1, (⟨true, 4, g, a, 0, c, 0⟩ : On)) Γ] [Has (SF x) (L, X) Γ] [Has (SF y) (M, Y) Γ] (h0 : 0 ≤ X.m ∧ 0 ≤ X.n) (hmn : 2 < X.m ∨ 2 < X.n) (em : X.m = Y.m) (en : X.n = Y.n) (hL : L ≤ 40 ∧ M ≤ 40 ∧ L1 ≤ 100 := by omega) :
    PCalls tb Try.prog 20 [ttv true 4 t.g t.a t.b t.c t.d, plv x y] Γ (FarPost 2000 (On.farX (⟨true, 4, g, a, 0, c, 0⟩ : On) X Y) (On.farY (⟨true, 4, g, a, 0, c, 0⟩ : On) X Y)) := by
  refine PCalls.of_W tbOk Try.func20 rfl (by kernel_rfl) ?_
  refine W.of5 t rfl ?_
  refine W.sf x rfl ?_
  refine W.cl [] (by kernel_rfl) (p_olike x y em en) ?_
  rintro _ _ ⟨rfl, rfl⟩
  refine W.cl [24] (by kernel_rfl) (p_onarrowF x h0 hmn) ?_
  rintro _ _ ⟨rfl, rfl⟩
  refine W.rem [32] 4 2 0 (by kernel_rfl) (by decide) (by decide) ?_
  refine W.df [] 63 ((0 : Int) != 0) (by kernel_rfl) (by decide +kernel) ?_
  refine W.cl [63] (by kernel_rfl) (p_qsign t.b.n t.b.a t.b.m t.b.b) ?_
  rintro _ _ ⟨rfl, rfl⟩
  refine W.df [63] 70 ((0 : Rat).num.sign != 0) (by kernel_rfl) (by decide +kernel) ?_
  refine W.cl [70] (by kernel_rfl) (p_qsign t.d.n t.d.a t.d.m t.d.b) ?_
  rintro _ _ ⟨rfl, rfl⟩
  refine W.df [70] 76 ((0 : Rat).num.sign != 0) (by kernel_rfl) (by decide +kernel) ?_
  refine W.cl [76] (by kernel_rfl) (p_xfield x) ?_
  rintro _ _ ⟨rfl, rfl⟩
  refine W.cl [] (by kernel_rfl) (p_omag true 4 t.g t.a t.b t.c t.d (V := (⟨true, 4, g, a, 0, c, 0⟩ : On))) ?_
  rintro _ _ ⟨g7, rfl, rfl⟩
  generalize hq : On.mag (⟨true, 4, g, a, 0, c, 0⟩ : On) = qm
  refine W.bs [] 1 ([(⟨g7.n, g7.a, g7.m, g7.b, qm⟩ : QE)].flatMap QR.cells) tbOk (by kernel_rfl) (fun b8 => ?_)
  refine W.cl [] (by kernel_rfl) (p_xof1 x.u x.d x.v x.e b8 ⟨g7.n, g7.a, g7.m, g7.b⟩ h0.1 h0.2) ?_
  rintro _ _ ⟨X9, rfl, rfl⟩
  refine W.cl [] (by kernel_rfl) (p_xmul (S := X) (T := ⟨X.m, X.n, qm, 0, 0, 0⟩) x X9 rfl rfl) ?_
  rintro _ _ ⟨X10, rfl, rfl⟩
  refine W.cl [] (by kernel_rfl) (p_xmul (S := Y) (T := ⟨X.m, X.n, qm, 0, 0, 0⟩) y X9 em.symm en.symm) ?_
  rintro _ _ ⟨X11, rfl, rfl⟩
  refine W.cl [108] (by kernel_rfl) (p_xneg X11) ?_
  rintro _ _ ⟨X12, rfl, rfl⟩
  refine W.quo [] 4 2 2 (by kernel_rfl) (by decide) (by decide) ?_
  refine W.unr [] 6 (by kernel_rfl) ?_
  refine W.cl [115] (by kernel_rfl) (p_xneg X12) ?_
  rintro _ _ ⟨X13, rfl, rfl⟩
  refine W.cl [115] (by kernel_rfl) (p_xneg X10) ?_
  rintro _ _ ⟨X14, rfl, rfl⟩
  refine W.cl [115] (by kernel_rfl) (p_onumber x.u x.d x.v x.e t.a t.b h0.1 h0.2) ?_
  rintro _ _ ⟨X20, rfl, rfl⟩
  refine W.cl [] (by kernel_rfl) (p_xadd (S := (X.mul ⟨X.m, X.n, qm, 0, 0, 0⟩).neg) (T := ⟨X.m, X.n, a, 0, 0, 0⟩) X14 X20 rfl rfl) ?_
  rintro _ _ ⟨X21, rfl, rfl⟩
  refine W.cl [] (by kernel_rfl) (p_onumber x.u x.d x.v x.e t.c t.d h0.1 h0.2) ?_
  rintro _ _ ⟨X22, rfl, rfl⟩
  refine W.cl [] (by kernel_rfl) (p_xadd (S := (Y.mul ⟨X.m, X.n, qm, 0, 0, 0⟩).neg.neg) (T := ⟨X.m, X.n, c, 0, 0, 0⟩) X13 X22 em.symm en.symm) ?_
  rintro _ _ ⟨X23, rfl, rfl⟩
  exact W.r [] (.tuple #[plv X21 X23, .int .i64 0]) (by kernel_rfl) ⟨_, _, rfl, rfl⟩ (entPl (by omega) (by unfold On.farX On.farP; rw [hq]; rfl) (by unfold On.farY On.farP; rw [hq]; rfl))

set_option maxHeartbeats 4000000 in
theorem p_ofarG4f (g a c : Rat) {L1 : Nat} (t : Q5) (x y : Sw) {X Y : Sn} [Has (OF t) (L1, (⟨false, 4, g, a, 0, c, 0⟩ : On)) Γ] [Has (SF x) (L, X) Γ] [Has (SF y) (M, Y) Γ] (h0 : 0 ≤ X.m ∧ 0 ≤ X.n) (hmn : 2 < X.m ∨ 2 < X.n) (em : X.m = Y.m) (en : X.n = Y.n) (hL : L ≤ 40 ∧ M ≤ 40 ∧ L1 ≤ 100 := by omega) :
    PCalls tb Try.prog 20 [ttv false 4 t.g t.a t.b t.c t.d, plv x y] Γ (FarPost 2000 (On.farX (⟨false, 4, g, a, 0, c, 0⟩ : On) X Y) (On.farY (⟨false, 4, g, a, 0, c, 0⟩ : On) X Y)) := by
  refine PCalls.of_W tbOk Try.func20 rfl (by kernel_rfl) ?_
  refine W.of5 t rfl ?_
  refine W.sf x rfl ?_
  refine W.cl [] (by kernel_rfl) (p_olike x y em en) ?_
  rintro _ _ ⟨rfl, rfl⟩
  refine W.cl [24] (by kernel_rfl) (p_onarrowF x h0 hmn) ?_
  rintro _ _ ⟨rfl, rfl⟩
  refine W.rem [32] 4 2 0 (by kernel_rfl) (by decide) (by decide) ?_
  refine W.df [] 63 ((0 : Int) != 0) (by kernel_rfl) (by decide +kernel) ?_
  refine W.cl [63] (by kernel_rfl) (p_qsign t.b.n t.b.a t.b.m t.b.b) ?_
  rintro _ _ ⟨rfl, rfl⟩
  refine W.df [63] 70 ((0 : Rat).num.sign != 0) (by kernel_rfl) (by decide +kernel) ?_
  refine W.cl [70] (by kernel_rfl) (p_qsign t.d.n t.d.a t.d.m t.d.b) ?_
  rintro _ _ ⟨rfl, rfl⟩
  refine W.df [70] 76 ((0 : Rat).num.sign != 0) (by kernel_rfl) (by decide +kernel) ?_
  refine W.cl [76] (by kernel_rfl) (p_xfield x) ?_
  rintro _ _ ⟨rfl, rfl⟩
  refine W.cl [] (by kernel_rfl) (p_omag false 4 t.g t.a t.b t.c t.d (V := (⟨false, 4, g, a, 0, c, 0⟩ : On))) ?_
  rintro _ _ ⟨g7, rfl, rfl⟩
  generalize hq : On.mag (⟨false, 4, g, a, 0, c, 0⟩ : On) = qm
  refine W.bs [] 1 ([(⟨g7.n, g7.a, g7.m, g7.b, qm⟩ : QE)].flatMap QR.cells) tbOk (by kernel_rfl) (fun b8 => ?_)
  refine W.cl [] (by kernel_rfl) (p_xof1 x.u x.d x.v x.e b8 ⟨g7.n, g7.a, g7.m, g7.b⟩ h0.1 h0.2) ?_
  rintro _ _ ⟨X9, rfl, rfl⟩
  refine W.cl [] (by kernel_rfl) (p_xmul (S := X) (T := ⟨X.m, X.n, qm, 0, 0, 0⟩) x X9 rfl rfl) ?_
  rintro _ _ ⟨X10, rfl, rfl⟩
  refine W.cl [] (by kernel_rfl) (p_xmul (S := Y) (T := ⟨X.m, X.n, qm, 0, 0, 0⟩) y X9 em.symm en.symm) ?_
  rintro _ _ ⟨X11, rfl, rfl⟩
  refine W.quo [108] 4 2 2 (by kernel_rfl) (by decide) (by decide) ?_
  refine W.unr [] 6 (by kernel_rfl) ?_
  refine W.cl [115] (by kernel_rfl) (p_xneg X11) ?_
  rintro _ _ ⟨X12, rfl, rfl⟩
  refine W.cl [115] (by kernel_rfl) (p_xneg X10) ?_
  rintro _ _ ⟨X13, rfl, rfl⟩
  refine W.cl [115] (by kernel_rfl) (p_onumber x.u x.d x.v x.e t.a t.b h0.1 h0.2) ?_
  rintro _ _ ⟨X20, rfl, rfl⟩
  refine W.cl [] (by kernel_rfl) (p_xadd (S := (X.mul ⟨X.m, X.n, qm, 0, 0, 0⟩).neg) (T := ⟨X.m, X.n, a, 0, 0, 0⟩) X13 X20 rfl rfl) ?_
  rintro _ _ ⟨X21, rfl, rfl⟩
  refine W.cl [] (by kernel_rfl) (p_onumber x.u x.d x.v x.e t.c t.d h0.1 h0.2) ?_
  rintro _ _ ⟨X22, rfl, rfl⟩
  refine W.cl [] (by kernel_rfl) (p_xadd (S := (Y.mul ⟨X.m, X.n, qm, 0, 0, 0⟩).neg) (T := ⟨X.m, X.n, c, 0, 0, 0⟩) X12 X22 em.symm en.symm) ?_
  rintro _ _ ⟨X23, rfl, rfl⟩
  exact W.r [] (.tuple #[plv X21 X23, .int .i64 0]) (by kernel_rfl) ⟨_, _, rfl, rfl⟩ (entPl (by omega) (by unfold On.farX On.farP; rw [hq]; rfl) (by unfold On.farY On.farP; rw [hq]; rfl))

set_option maxHeartbeats 4000000 in
theorem p_ofarG6t (g a c : Rat) {L1 : Nat} (t : Q5) (x y : Sw) {X Y : Sn} [Has (OF t) (L1, (⟨true, 6, g, a, 0, c, 0⟩ : On)) Γ] [Has (SF x) (L, X) Γ] [Has (SF y) (M, Y) Γ] (h0 : 0 ≤ X.m ∧ 0 ≤ X.n) (hmn : 2 < X.m ∨ 2 < X.n) (em : X.m = Y.m) (en : X.n = Y.n) (hL : L ≤ 40 ∧ M ≤ 40 ∧ L1 ≤ 100 := by omega) :
    PCalls tb Try.prog 20 [ttv true 6 t.g t.a t.b t.c t.d, plv x y] Γ (FarPost 2000 (On.farX (⟨true, 6, g, a, 0, c, 0⟩ : On) X Y) (On.farY (⟨true, 6, g, a, 0, c, 0⟩ : On) X Y)) := by
  refine PCalls.of_W tbOk Try.func20 rfl (by kernel_rfl) ?_
  refine W.of5 t rfl ?_
  refine W.sf x rfl ?_
  refine W.cl [] (by kernel_rfl) (p_olike x y em en) ?_
  rintro _ _ ⟨rfl, rfl⟩
  refine W.cl [24] (by kernel_rfl) (p_onarrowF x h0 hmn) ?_
  rintro _ _ ⟨rfl, rfl⟩
  refine W.rem [32] 6 2 0 (by kernel_rfl) (by decide) (by decide) ?_
  refine W.df [] 63 ((0 : Int) != 0) (by kernel_rfl) (by decide +kernel) ?_
  refine W.cl [63] (by kernel_rfl) (p_qsign t.b.n t.b.a t.b.m t.b.b) ?_
  rintro _ _ ⟨rfl, rfl⟩
  refine W.df [63] 70 ((0 : Rat).num.sign != 0) (by kernel_rfl) (by decide +kernel) ?_
  refine W.cl [70] (by kernel_rfl) (p_qsign t.d.n t.d.a t.d.m t.d.b) ?_
  rintro _ _ ⟨rfl, rfl⟩
  refine W.df [70] 76 ((0 : Rat).num.sign != 0) (by kernel_rfl) (by decide +kernel) ?_
  refine W.cl [76] (by kernel_rfl) (p_xfield x) ?_
  rintro _ _ ⟨rfl, rfl⟩
  refine W.cl [] (by kernel_rfl) (p_omag true 6 t.g t.a t.b t.c t.d (V := (⟨true, 6, g, a, 0, c, 0⟩ : On))) ?_
  rintro _ _ ⟨g7, rfl, rfl⟩
  generalize hq : On.mag (⟨true, 6, g, a, 0, c, 0⟩ : On) = qm
  refine W.bs [] 1 ([(⟨g7.n, g7.a, g7.m, g7.b, qm⟩ : QE)].flatMap QR.cells) tbOk (by kernel_rfl) (fun b8 => ?_)
  refine W.cl [] (by kernel_rfl) (p_xof1 x.u x.d x.v x.e b8 ⟨g7.n, g7.a, g7.m, g7.b⟩ h0.1 h0.2) ?_
  rintro _ _ ⟨X9, rfl, rfl⟩
  refine W.cl [] (by kernel_rfl) (p_xmul (S := X) (T := ⟨X.m, X.n, qm, 0, 0, 0⟩) x X9 rfl rfl) ?_
  rintro _ _ ⟨X10, rfl, rfl⟩
  refine W.cl [] (by kernel_rfl) (p_xmul (S := Y) (T := ⟨X.m, X.n, qm, 0, 0, 0⟩) y X9 em.symm en.symm) ?_
  rintro _ _ ⟨X11, rfl, rfl⟩
  refine W.cl [108] (by kernel_rfl) (p_xneg X11) ?_
  rintro _ _ ⟨X12, rfl, rfl⟩
  refine W.quo [] 6 2 3 (by kernel_rfl) (by decide) (by decide) ?_
  refine W.unr [] 6 (by kernel_rfl) ?_
  refine W.cl [115] (by kernel_rfl) (p_xneg X12) ?_
  rintro _ _ ⟨X13, rfl, rfl⟩
  refine W.cl [115] (by kernel_rfl) (p_xneg X10) ?_
  rintro _ _ ⟨X14, rfl, rfl⟩
  refine W.cl [115] (by kernel_rfl) (p_xneg X13) ?_
  rintro _ _ ⟨X15, rfl, rfl⟩
  refine W.cl [115] (by kernel_rfl) (p_onumber x.u x.d x.v x.e t.a t.b h0.1 h0.2) ?_
  rintro _ _ ⟨X20, rfl, rfl⟩
  refine W.cl [] (by kernel_rfl) (p_xadd (S := (Y.mul ⟨X.m, X.n, qm, 0, 0, 0⟩).neg.neg.neg) (T := ⟨X.m, X.n, a, 0, 0, 0⟩) X15 X20 em.symm en.symm) ?_
  rintro _ _ ⟨X21, rfl, rfl⟩
  refine W.cl [] (by kernel_rfl) (p_onumber x.u x.d x.v x.e t.c t.d h0.1 h0.2) ?_
  rintro _ _ ⟨X22, rfl, rfl⟩
  refine W.cl [] (by kernel_rfl) (p_xadd (S := (X.mul ⟨X.m, X.n, qm, 0, 0, 0⟩).neg) (T := ⟨X.m, X.n, c, 0, 0, 0⟩) X14 X22 rfl rfl) ?_
  rintro _ _ ⟨X23, rfl, rfl⟩
  exact W.r [] (.tuple #[plv X21 X23, .int .i64 0]) (by kernel_rfl) ⟨_, _, rfl, rfl⟩ (entPl (by omega) (by unfold On.farX On.farP; rw [hq]; rfl) (by unfold On.farY On.farP; rw [hq]; rfl))

set_option maxHeartbeats 4000000 in
theorem p_ofarG6f (g a c : Rat) {L1 : Nat} (t : Q5) (x y : Sw) {X Y : Sn} [Has (OF t) (L1, (⟨false, 6, g, a, 0, c, 0⟩ : On)) Γ] [Has (SF x) (L, X) Γ] [Has (SF y) (M, Y) Γ] (h0 : 0 ≤ X.m ∧ 0 ≤ X.n) (hmn : 2 < X.m ∨ 2 < X.n) (em : X.m = Y.m) (en : X.n = Y.n) (hL : L ≤ 40 ∧ M ≤ 40 ∧ L1 ≤ 100 := by omega) :
    PCalls tb Try.prog 20 [ttv false 6 t.g t.a t.b t.c t.d, plv x y] Γ (FarPost 2000 (On.farX (⟨false, 6, g, a, 0, c, 0⟩ : On) X Y) (On.farY (⟨false, 6, g, a, 0, c, 0⟩ : On) X Y)) := by
  refine PCalls.of_W tbOk Try.func20 rfl (by kernel_rfl) ?_
  refine W.of5 t rfl ?_
  refine W.sf x rfl ?_
  refine W.cl [] (by kernel_rfl) (p_olike x y em en) ?_
  rintro _ _ ⟨rfl, rfl⟩
  refine W.cl [24] (by kernel_rfl) (p_onarrowF x h0 hmn) ?_
  rintro _ _ ⟨rfl, rfl⟩
  refine W.rem [32] 6 2 0 (by kernel_rfl) (by decide) (by decide) ?_
  refine W.df [] 63 ((0 : Int) != 0) (by kernel_rfl) (by decide +kernel) ?_
  refine W.cl [63] (by kernel_rfl) (p_qsign t.b.n t.b.a t.b.m t.b.b) ?_
  rintro _ _ ⟨rfl, rfl⟩
  refine W.df [63] 70 ((0 : Rat).num.sign != 0) (by kernel_rfl) (by decide +kernel) ?_
  refine W.cl [70] (by kernel_rfl) (p_qsign t.d.n t.d.a t.d.m t.d.b) ?_
  rintro _ _ ⟨rfl, rfl⟩
  refine W.df [70] 76 ((0 : Rat).num.sign != 0) (by kernel_rfl) (by decide +kernel) ?_
  refine W.cl [76] (by kernel_rfl) (p_xfield x) ?_
  rintro _ _ ⟨rfl, rfl⟩
  refine W.cl [] (by kernel_rfl) (p_omag false 6 t.g t.a t.b t.c t.d (V := (⟨false, 6, g, a, 0, c, 0⟩ : On))) ?_
  rintro _ _ ⟨g7, rfl, rfl⟩
  generalize hq : On.mag (⟨false, 6, g, a, 0, c, 0⟩ : On) = qm
  refine W.bs [] 1 ([(⟨g7.n, g7.a, g7.m, g7.b, qm⟩ : QE)].flatMap QR.cells) tbOk (by kernel_rfl) (fun b8 => ?_)
  refine W.cl [] (by kernel_rfl) (p_xof1 x.u x.d x.v x.e b8 ⟨g7.n, g7.a, g7.m, g7.b⟩ h0.1 h0.2) ?_
  rintro _ _ ⟨X9, rfl, rfl⟩
  refine W.cl [] (by kernel_rfl) (p_xmul (S := X) (T := ⟨X.m, X.n, qm, 0, 0, 0⟩) x X9 rfl rfl) ?_
  rintro _ _ ⟨X10, rfl, rfl⟩
  refine W.cl [] (by kernel_rfl) (p_xmul (S := Y) (T := ⟨X.m, X.n, qm, 0, 0, 0⟩) y X9 em.symm en.symm) ?_
  rintro _ _ ⟨X11, rfl, rfl⟩
  refine W.quo [108] 6 2 3 (by kernel_rfl) (by decide) (by decide) ?_
  refine W.unr [] 6 (by kernel_rfl) ?_
  refine W.cl [115] (by kernel_rfl) (p_xneg X11) ?_
  rintro _ _ ⟨X12, rfl, rfl⟩
  refine W.cl [115] (by kernel_rfl) (p_xneg X10) ?_
  rintro _ _ ⟨X13, rfl, rfl⟩
  refine W.cl [115] (by kernel_rfl) (p_xneg X12) ?_
  rintro _ _ ⟨X14, rfl, rfl⟩
  refine W.cl [115] (by kernel_rfl) (p_onumber x.u x.d x.v x.e t.a t.b h0.1 h0.2) ?_
  rintro _ _ ⟨X20, rfl, rfl⟩
  refine W.cl [] (by kernel_rfl) (p_xadd (S := (Y.mul ⟨X.m, X.n, qm, 0, 0, 0⟩).neg.neg) (T := ⟨X.m, X.n, a, 0, 0, 0⟩) X14 X20 em.symm en.symm) ?_
  rintro _ _ ⟨X21, rfl, rfl⟩
  refine W.cl [] (by kernel_rfl) (p_onumber x.u x.d x.v x.e t.c t.d h0.1 h0.2) ?_
  rintro _ _ ⟨X22, rfl, rfl⟩
  refine W.cl [] (by kernel_rfl) (p_xadd (S := (X.mul ⟨X.m, X.n, qm, 0, 0, 0⟩).neg) (T := ⟨X.m, X.n, c, 0, 0, 0⟩) X13 X22 rfl rfl) ?_
  rintro _ _ ⟨X23, rfl, rfl⟩
  exact W.r [] (.tuple #[plv X21 X23, .int .i64 0]) (by kernel_rfl) ⟨_, _, rfl, rfl⟩ (entPl (by omega) (by unfold On.farX On.farP; rw [hq]; rfl) (by unfold On.farY On.farP; rw [hq]; rfl))

end
end Go.Proofs.Ytaafmafdnnjmdaa
