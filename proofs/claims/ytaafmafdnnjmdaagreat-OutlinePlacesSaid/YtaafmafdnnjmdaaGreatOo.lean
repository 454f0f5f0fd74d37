/- Two structures that are the same. -/
import Derived.Test.YtaafmafdnnjmdaaGreatVm
import Derived.DeepKeys
import Derived.Test.YtaafmafdnnjmdaaGreatSu
set_option linter.unusedSimpArgs false
set_option linter.unusedVariables false
namespace Go.Proofs.YtaafmafdnnjmdaaGreat
open Go.RowKit

def readEq (e : Ev) : Option (TypeId × Value × Value) :=
  match e with
  | .read o c => match o.op with
    | .binOp .eql t x y _ => match c.s.ev x, c.s.ev y with
      | .val a, .val b => some (t, a, b)
      | _, _ => none
    | _ => none
  | _ => none

section
variable {T : Tb} {P : Program} {fin : VS → List Fact → Prop} {c : Cfg} {Γ : List Fact}
/-- The rest of a division by what isn't 0. -/
theorem W.rem (D : List Nat) (a b r : Int) (h : readBin (vstep T (Go.Proofs.YtaafmafdnnjmdaaGreat.runs T D 999 c)) = some (.rem, .int .i64 a, .int .i64 b)) (hb : b ≠ 0) (hr : a.tmod b = r)
    (hk : W T P fin (resume (vstep T (Go.Proofs.YtaafmafdnnjmdaaGreat.runs T D 999 c)) (.int .i64 r)) Γ) : W T P fin c Γ := by
  subst hr
  refine W.runs D 999 ?_
  generalize Go.Proofs.YtaafmafdnnjmdaaGreat.runs T D 999 c = c1 at *
  unfold readBin at h
  split at h
  · rename_i o c' he
    rw [he] at hk
    split at h
    · rename_i op ty u v yt hop
      split at h
      · rename_i x y hx hy
        simp only [Option.some.injEq, Prod.mk.injEq] at h
        obtain ⟨rfl, rfl, rfl⟩ := h
        refine W.read _ he (.any ?_) hk
        intro w
        simp [execOp, hop, rho_val hx, rho_val hy, eqGuard, binOp, Op.intDiv, hb]
      · simp at h
    · simp at h
  · simp at h
end
end Go.Proofs.YtaafmafdnnjmdaaGreat


/- Turns: what they are made of. The contracts of octant. Octant's reference; what its laws share. Octant's examples. -/
set_option linter.unusedSimpArgs false
set_option linter.unusedVariables false
namespace Go.Proofs.YtaafmafdnnjmdaaGreat
open Go.RowKit Go.IntWalk

/-- The parts of a turn. -/
structure Ow where
  f : Bool
  o : Int
  g : Qw
  a : Qw
  b : Qw
  c : Qw
  d : Qw
/-- What it means. -/
structure On where
  f : Bool
  o : Int
  g : Rat
  a : Rat
  b : Rat
  c : Rat
  d : Rat
/-- The quotients of a turn. -/
structure Q5 where
  g : Qw
  a : Qw
  b : Qw
  c : Qw
  d : Qw
abbrev plv (x y : Sw) : Value := .agg ((sv x).cells ++ (sv y).cells)
def OF (x : Q5) (a : Nat × On) : Fact where
  p I w := (QG x.g (a.1, a.2.g)).p I w ∧ (QG x.a (a.1, a.2.a)).p I w ∧ (QG x.b (a.1, a.2.b)).p I w ∧ (QG x.c (a.1, a.2.c)).p I w ∧ (QG x.d (a.1, a.2.d)).p I w
  up := by
    rintro I I' w w' ⟨g2, g3, g4, g5, g6⟩ h1 h2 h3
    exact ⟨(QG x.g _).up g2 h1 h2 h3, (QG x.a _).up g3 h1 h2 h3, (QG x.b _).up g4 h1 h2 h3, (QG x.c _).up g5 h1 h2 h3, (QG x.d _).up g6 h1 h2 h3⟩
section
variable {fin : VS → List Fact → Prop} {Γ : List Fact} {L : Nat}
theorem OF.up2 {x : Q5} {V : On} {L L' : Nat} {I : Blk} {w : World} (h : (OF x (L, V)).p I w) (hL : L ≤ L') : (OF x (L', V)).p I w := by
  obtain ⟨h1, h2, h3, h4, h5⟩ := h
  exact ⟨QF.up2 h1 hL, QF.up2 h2 hL, QF.up2 h3 hL, QF.up2 h4 hL, QF.up2 h5 hL⟩
end
end Go.Proofs.YtaafmafdnnjmdaaGreat

set_option linter.unusedSimpArgs false
set_option linter.unusedVariables false
namespace Go.Proofs.YtaafmafdnnjmdaaGreat
open Go.RowKit Go.IntWalk

/-- a + b root 2 times c + d root 2 / 2. -/
def tm1 (x y : Rat) (c d : Int) : Rat := x * c + y * d
def tm2 (x y : Rat) (c d : Int) : Rat := y * c + x * Rat.divInt d 2
/-- The cosine and the sine of so many eighths. -/
def pc (o : Int) : Int := if o = 0 then 1 else if o = 4 then -1 else 0
def ps (o : Int) : Int := if o = 2 then 1 else if o = 6 then -1 else 0
def pcr (o : Int) : Int := if o = 1 ∨ o = 7 then 1 else if o = 3 ∨ o = 5 then -1 else 0
def psr (o : Int) : Int := if o = 1 ∨ o = 3 then 1 else if o = 5 ∨ o = 7 then -1 else 0
def On.mag (V : On) : Rat := if V.g.num.sign = 0 then 1 else V.g
def On.sg (V : On) (z : Rat) : Rat := if V.f then -z else z
def On.u0 (V : On) (x y z w : Rat) : Rat := tm1 (x * V.mag) (y * V.mag) (pc V.o) (pcr V.o) + -(tm1 (V.sg z * V.mag) (V.sg w * V.mag) (ps V.o) (psr V.o)) + V.a
def On.u1 (V : On) (x y z w : Rat) : Rat := tm2 (x * V.mag) (y * V.mag) (pc V.o) (pcr V.o) + -(tm2 (V.sg z * V.mag) (V.sg w * V.mag) (ps V.o) (psr V.o)) + V.b
def On.v0 (V : On) (x y z w : Rat) : Rat := tm1 (x * V.mag) (y * V.mag) (ps V.o) (psr V.o) + tm1 (V.sg z * V.mag) (V.sg w * V.mag) (pc V.o) (pcr V.o) + V.c
def On.v1 (V : On) (x y z w : Rat) : Rat := tm2 (x * V.mag) (y * V.mag) (ps V.o) (psr V.o) + tm2 (V.sg z * V.mag) (V.sg w * V.mag) (pc V.o) (pcr V.o) + V.d
/-- A number of root 2's field. -/
def r2 (x y : Rat) : Sn := ⟨2, 0, x, y, 0, 0⟩
def PlPost (L : Nat) (X Y : Sn) (v : Value) (Δ : List Fact) : Prop := ∃ x y : Sw, v = plv x y ∧ Δ = [SF x (L, X), SF y (L, Y)]

def On.then (V U : On) : On := ⟨!(V.f == U.f), if U.f then (-V.o + U.o) % 8 else (V.o + U.o) % 8, V.mag * U.mag, U.u0 V.a V.b V.c V.d, U.u1 V.a V.b V.c V.d, U.v0 V.a V.b V.c V.d, U.v1 V.a V.b V.c V.d⟩
theorem pc_b (o : Int) : -1 ≤ pc o ∧ pc o ≤ 1 := by unfold pc; (repeat' split) <;> omega
theorem ps_b (o : Int) : -1 ≤ ps o ∧ ps o ≤ 1 := by unfold ps; (repeat' split) <;> omega
theorem pcr_b (o : Int) : -1 ≤ pcr o ∧ pcr o ≤ 1 := by unfold pcr; (repeat' split) <;> omega
theorem psr_b (o : Int) : -1 ≤ psr o ∧ psr o ≤ 1 := by unfold psr; (repeat' split) <;> omega

section
variable {fin : VS → List Fact → Prop} {Γ : List Fact} {L M K : Nat}
end
end Go.Proofs.YtaafmafdnnjmdaaGreat

set_option linter.unusedSimpArgs false
set_option linter.unusedVariables false
namespace Go.Proofs.YtaafmafdnnjmdaaGreat
open Go.RowKit Go.IntWalk

section
variable {fin : VS → List Fact → Prop} {Γ : List Fact} {L M K : Nat}
theorem p_zsmallT (s : Sl) (b : Bool) {x : Int} [Has (ZF s b) (L, x) Γ] (h : small x = true) (hL : L ≤ 1000000000000 := by omega) : PCalls tb Tryz.prog 70 [zv s b] Γ (IsV (.tuple #[.int .i64 x, .bool true])) := by
  have g := p_zsmall (Γ := Γ) s b (x := x)
  simpa only [h, if_true] using g
theorem p_xnearT (x : Sw) {S : Sn} [Has (SF x) (L, S) Γ] (a : Int) (ha : S.near = a) (hf : S.half.floors = true) (hL : L ≤ 280 := by omega) : PCalls tb Tryz.prog 69 [sv x] Γ (ZPost (10 * L + 500) a) := by
  subst ha
  exact p_xnear x hf
theorem p_ogrid (x y : Sw) {X Y : Sn} [Has (SF x) (L, X) Γ] [Has (SF y) (M, Y) Γ] (hX : X.half.floors = true) (hY : Y.half.floors = true) (a b : Int) (ha : X.near = a) (hb : Y.near = b) (sa : small a = true) (sb : small b = true) (ba : -1000 ≤ a ∧ a ≤ 1000) (bb : -1000 ≤ b ∧ b ≤ 1000) (hL : L ≤ 280 := by omega) (hM : M ≤ 280 := by omega) :
    PCalls tb Tryz.prog 31 [plv x y] Γ (IsV (.tuple #[.agg #[.int .i64 a, .int .i64 b], .int .i64 0])) := by
  refine PCalls.of_W tbOk Tryz.func31 rfl (by kernel_rfl) ?_
  refine W.cl [] (by kernel_rfl) (p_xnearT x a ha hX) ?_
  rintro _ _ ⟨u1, d1, rfl, rfl⟩   -- NEAR
  refine W.cl [] (by kernel_rfl) (p_zsmallT u1 d1 sa) ?_
  rintro _ _ ⟨rfl, rfl⟩
  refine W.cl [] (by kernel_rfl) (p_xnearT y b hb hY) ?_
  rintro _ _ ⟨u3, d3, rfl, rfl⟩   -- NEAR
  refine W.cl [] (by kernel_rfl) (p_zsmallT u3 d3 sb) ?_
  rintro _ _ ⟨rfl, rfl⟩
  refine W.df [] 24 (!true) (by kernel_rfl) (rfl) ?_
  refine W.df [24] 28 (!true) (by kernel_rfl) (rfl) ?_
  refine W.df [28] 32 (decide (a < -2147483648)) (by kernel_rfl) (by rw [decide_eq_false_iff_not]; omega) ?_
  refine W.df [32] 36 (decide (a > 2147483647)) (by kernel_rfl) (by rw [decide_eq_false_iff_not]; omega) ?_
  refine W.df [36] 40 (decide (b < -2147483648)) (by kernel_rfl) (by rw [decide_eq_false_iff_not]; omega) ?_
  refine W.df [40] 43 (decide (b > 2147483647)) (by kernel_rfl) (by rw [decide_eq_false_iff_not]; omega) ?_
  exact W.r [43] (.tuple #[.agg #[.int .i64 a, .int .i64 b], .int .i64 0]) (by kernel_rfl) ⟨rfl, rfl⟩ ent0
end
end Go.Proofs.YtaafmafdnnjmdaaGreat

set_option linter.unusedSimpArgs false
set_option linter.unusedVariables false
namespace Go.Proofs.YtaafmafdnnjmdaaGreat
open Go.RowKit Go.IntWalk

section
variable {fin : VS → List Fact → Prop} {Γ : List Fact} {L M K : Nat}

end
end Go.Proofs.YtaafmafdnnjmdaaGreat
