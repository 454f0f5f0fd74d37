/- Paths of points: the numbers of their places. -/
import Derived.Test.YtaafmafdnnjmdaaOu
import Derived.Test.YtaafmafdnnjmdaaOo
set_option linter.unusedSimpArgs false
set_option linter.unusedVariables false
namespace Go.Proofs.Ytaafmafdnnjmdaa
open Go.RowKit Go.IntWalk

/-- A direction times a number of a field. -/
structure Pa where
  d : Dp
  a : Rat
  b : Rat
  c : Rat
  e : Rat
def sqD (d : Dp) : Int := d.x * d.x + d.y * d.y
def dotD (d e : Dp) : Int := d.x * e.x + d.y * e.y
def leftD (d : Dp) : Dp := ⟨-d.y, d.x⟩
def negD (d : Dp) : Dp := ⟨-d.x, -d.y⟩
def rightD (d : Dp) : Dp := ⟨d.y, -d.x⟩
def unitP (d : Dp) (q : Rat) : Pa := ⟨d, 0, q * Rat.divInt 1 (sqD d), 0, 0⟩
def slantP (d : Dp) (q : Rat) : Pa := ⟨d, 0, 0, 0, q * Rat.divInt 1 (sqD d * 2)⟩
def Pa.sx (q : Pa) (m n : Int) : Sn := ⟨m, n, q.a * (q.d.x : Rat), q.b * (q.d.x : Rat), q.c * (q.d.x : Rat), q.e * (q.d.x : Rat)⟩
def Pa.sy (q : Pa) (m n : Int) : Sn := ⟨m, n, q.a * (q.d.y : Rat), q.b * (q.d.y : Rat), q.c * (q.d.y : Rat), q.e * (q.d.y : Rat)⟩
def alX (m n p : Int) (l : List Pa) : Sn := l.foldl (fun S q => S.add (q.sx m n)) ⟨m, n, (p : Rat), 0, 0, 0⟩
def alY (m n p : Int) (l : List Pa) : Sn := l.foldl (fun S q => S.add (q.sy m n)) ⟨m, n, (p : Rat), 0, 0, 0⟩
/-- The place of a corner and some parts. -/
def al (m n : Int) (p : Dp) (l : List Pa) : Sn × Sn := (alX m n p.x l, alY m n p.y l)
/-- The place that lies h left of both directions. -/
def miterP (p d e : Dp) (h : Rat) : Sn × Sn :=
  let m := sqD d; let n := sqD e; let t := dotD d e; let k := h / ((dotD (leftD d) e * dotD (leftD d) e : Int) : Rat)
  al m n p [⟨leftD d, 0, k * (n : Rat), k * ((-t : Int) : Rat), 0⟩, ⟨leftD e, 0, k * ((-t : Int) : Rat), k * (m : Rat), 0⟩]
/-- The places at an end. -/
def tipL (p d : Dp) (h beyond : Rat) (round : Bool) : List (Sn × Sn) :=
  let m := sqD d
  al m 2 p [unitP d beyond, unitP (leftD d) h] :: ((if round then [al m 2 p [slantP d h, slantP (leftD d) h], al m 2 p [unitP d h], al m 2 p [slantP d h, slantP (rightD d) h]] else []) ++ [al m 2 p [unitP d beyond, unitP (rightD d) h]])
/-- The places of the corners between the ends. -/
def miters (h : Rat) : List Dp → List Dp → List (Sn × Sn)
  | p :: c, d :: e :: w => miterP p d e h :: miters h c (e :: w)
  | _, _ => []
def endsOf (kind bg en : Int) (h : Rat) : Rat × Rat := if kind = 2 then (h, h) else if kind = 4 then ((bg : Rat), (en : Rat)) else (0, 0)
/-- The places of a path, of its corners and ways. -/
def places (c w : List Dp) (width kind bg en : Int) : List (Sn × Sn) :=
  let h := Rat.divInt width 2
  let back := tipL (c.getD 0 ⟨0, 0⟩) (negD (w.getD 0 ⟨0, 0⟩)) h (endsOf kind bg en h).1 (kind == 1)
  back.drop (back.length - 1) ++ miters h c.tail w ++ tipL (c.getD (c.length - 1) ⟨0, 0⟩) (w.getD (w.length - 1) ⟨0, 0⟩) h (endsOf kind bg en h).2 (kind == 1) ++ (miters (-h) c.tail w).reverse ++ back.take (back.length - 1)
end Go.Proofs.Ytaafmafdnnjmdaa
