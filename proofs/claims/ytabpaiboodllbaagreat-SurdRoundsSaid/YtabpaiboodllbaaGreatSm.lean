
/- Numbers with two roots: plain laws. -/
import Derived.Test.YtabpaiboodllbaaGreatSa
import Derived.Test.YtabpaiboodllbaaGreatPr
set_option linter.unusedSimpArgs false
set_option linter.unusedVariables false
namespace Go.Proofs.YtabpaiboodllbaaGreat
open Go.RowKit Go.IntWalk

theorem Sn.ext' {S T : Sn} (h1 : S.m = T.m) (h2 : S.n = T.n) (h3 : S.p = T.p) (h4 : S.q = T.q) (h5 : S.r = T.r) (h6 : S.s = T.s) : S = T := by
  cases S; cases T; simp_all
theorem sg1_zero (m : Int) : sg1 0 0 m = 0 := by
  unfold sg1
  simp
theorem Sn.sg_zero {S : Sn} (hp : S.p = 0) (hq : S.q = 0) (hr : S.r = 0) (hs : S.s = 0) : S.sg = 0 := by
  unfold Sn.sg
  rw [hp, hq, hr, hs, sg1_zero]
  simp
theorem Sn.sg_sub {S T : Sn} (hp : S.p = T.p) (hq : S.q = T.q) (hr : S.r = T.r) (hs : S.s = T.s) : (S.sub T).sg = 0 := by
  refine Sn.sg_zero ?_ ?_ ?_ ?_ <;> simp only [Sn.sub] <;> grind
theorem Sn.add_assoc (S T U : Sn) : (S.add T).add U = S.add (T.add U) := by
  refine Sn.ext' rfl rfl ?_ ?_ ?_ ?_ <;> simp only [Sn.add] <;> grind
theorem Sn.add_mul {S T U : Sn} (hm : T.m = S.m) (hn : T.n = S.n) : (S.add T).mul U = (S.mul U).add (T.mul U) := by
  refine Sn.ext' rfl rfl ?_ ?_ ?_ ?_ <;> simp only [Sn.add, Sn.mul, hm, hn] <;> grind
theorem Sn.mul_comm {S T : Sn} (hm : T.m = S.m) (hn : T.n = S.n) : S.mul T = T.mul S := by
  refine Sn.ext' hm.symm hn.symm ?_ ?_ ?_ ?_ <;> simp only [Sn.mul, hm, hn] <;> grind
theorem Sn.sub_eq (S T : Sn) : S.add T.neg = S.sub T := by
  refine Sn.ext' rfl rfl ?_ ?_ ?_ ?_ <;> simp only [Sn.add, Sn.neg, Sn.sub] <;> grind

/-- 2^k times a quotient times a root, rounded towards 0. -/
def qab (x : Rat) (root : Int) (k : Nat) : Int :=
  let q : Int := (isq (x.num.natAbs * x.num.natAbs * root.natAbs * 2 ^ (2 * k)) : Nat) / (x.den : Int)
  if x.num.sign < 0 then -q else q
def Sn.lessq (S : Sn) (q : Int) : Sn := ⟨S.m, S.n, S.p - q, S.q, S.r, S.s⟩
/-- Where the search for the floor begins. -/
def Sn.low (S : Sn) : Int := (0 + qab S.p 1 8 + qab S.q S.m 8 + qab S.r S.n 8 + qab S.s (S.m * S.n) 8) / 256
def Sn.up (S : Sn) (h : Rat) : Sn := ⟨S.m, S.n, S.p + h, S.q, S.r, S.s⟩
/-- The search ends where it begins. -/
def Sn.floors (S : Sn) : Bool := !decide ((S.lessq S.low).sg < 0) && decide ((S.lessq (S.low + 1)).sg < 0)
/-- The nearest whole number, as the code reckons it. -/
def Sn.half (S : Sn) : Sn := S.up (Rat.divInt 1 2)
def Sn.near (S : Sn) : Int := if (S.half.lessq S.half.low).sg = 0 ∧ (S.half.low % 2).sign ≠ 0 then S.half.low - 1 else S.half.low
end Go.Proofs.YtabpaiboodllbaaGreat
