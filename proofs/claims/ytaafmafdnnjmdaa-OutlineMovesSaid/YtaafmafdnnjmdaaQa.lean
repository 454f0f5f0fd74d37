/- The reference of outline: directions, lines of places, ends, corners. -/
import Derived.Test.YtaafmafdnnjmdaaPg
set_option linter.unusedSimpArgs false
set_option linter.unusedVariables false
namespace Go.Proofs.Ytaafmafdnnjmdaa
open Go.RowKit Go.IntWalk

/-- A line on which a place lies. -/
structure LnV where
  p : Dp
  d : Dp
  r : Rat
  m : Int
  sl : Bool
/-- A place's lines, its field. -/
structure TwV where
  a : LnV
  b : LnV
  m : Int
  n : Int
structure LnC where
  p : Dp
  d : Dp
  S : Int
  s : Sl
  R : Int
  t : Sl
  M : Int
  u : Sl
  sl : Bool
structure TwE where
  a : LnC
  b : LnC
  M : Int
  u : Sl
  N : Int
  v : Sl
  va : Rat
  ma : Int
  vb : Rat
  mb : Int
  m : Int
  n : Int
def TwE.num (e : TwE) : TwV := ⟨⟨e.a.p, e.a.d, e.va, e.ma, e.a.sl⟩, ⟨e.b.p, e.b.d, e.vb, e.mb, e.b.sl⟩, e.m, e.n⟩
/-- The lines of the places at an end. -/
def rtip (p d : Dp) (h b : Rat) (round : Bool) : List TwV :=
  let m := sqD d; let l := leftD d
  ⟨⟨p, d, b, m, false⟩, ⟨p, l, h, m, false⟩, m, 2⟩ :: ((if round then [⟨⟨p, d, h, m, true⟩, ⟨p, l, h, m, true⟩, m, 2⟩, ⟨⟨p, d, h, m, false⟩, ⟨p, l, ((0 : Int) : Rat), m, false⟩, m, 2⟩, ⟨⟨p, d, h, m, true⟩, ⟨p, l, -h, m, true⟩, m, 2⟩] else []) ++ [⟨⟨p, d, b, m, false⟩, ⟨p, l, -h, m, false⟩, m, 2⟩])
def rcorn (p d e : Dp) (h : Rat) : TwV := ⟨⟨p, leftD d, h, sqD d, false⟩, ⟨p, leftD e, h, sqD e, false⟩, sqD d, sqD e⟩
def rcorns (h : Rat) : List Dp → List Dp → List TwV
  | p :: c, d :: e :: w => rcorn p d e h :: rcorns h c (e :: w)
  | _, _ => []
def rplaces (c w : List Dp) (width kind bg en : Int) : List TwV :=
  let h := Rat.divInt width 2
  let back := rtip (c.getD 0 ⟨0, 0⟩) (negD (w.getD 0 ⟨0, 0⟩)) h (endsOf kind bg en h).1 (kind == 1)
  back.drop (back.length - 1) ++ rcorns h c.tail w ++ rtip (c.getD (c.length - 1) ⟨0, 0⟩) (w.getD (w.length - 1) ⟨0, 0⟩) h (endsOf kind bg en h).2 (kind == 1) ++ (rcorns (-h) c.tail w).reverse ++ back.take (back.length - 1)

section
variable {Γ : List Fact} {L M : Nat}
end
end Go.Proofs.Ytaafmafdnnjmdaa
