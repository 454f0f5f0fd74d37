
/- Turns: what they are made of. -/
import Derived.Test.YtabpaiboodllbaaGreatSd
set_option linter.unusedSimpArgs false
set_option linter.unusedVariables false
namespace Go.Proofs.YtabpaiboodllbaaGreat
open Go.RowKit Go.IntWalk

/-- The parts of a turn. -/
structure Ow where
  f : Bool
  o : Int
  g : Qw
  a : Qw
  b : Qw
  c : Qw
  d : Qw
/-- What it means. -/
structure On where
  f : Bool
  o : Int
  g : Rat
  a : Rat
  b : Rat
  c : Rat
  d : Rat
/-- The quotients of a turn. -/
structure Q5 where
  g : Qw
  a : Qw
  b : Qw
  c : Qw
  d : Qw
abbrev q2v (a b : Qw) : Value := .agg #[.slice a.n.ao a.n.n a.n.c, .bool a.a, .slice a.m.ao a.m.n a.m.c, .bool a.b, .slice b.n.ao b.n.n b.n.c, .bool b.a, .slice b.m.ao b.m.n b.m.c, .bool b.b]
abbrev ttv (f : Bool) (o : Int) (g a b c d : Qw) : Value := .agg #[.bool f, .int .i64 o, .slice g.n.ao g.n.n g.n.c, .bool g.a, .slice g.m.ao g.m.n g.m.c, .bool g.b, .slice a.n.ao a.n.n a.n.c, .bool a.a, .slice a.m.ao a.m.n a.m.c, .bool a.b,
  .slice b.n.ao b.n.n b.n.c, .bool b.a, .slice b.m.ao b.m.n b.m.c, .bool b.b, .slice c.n.ao c.n.n c.n.c, .bool c.a, .slice c.m.ao c.m.n c.m.c, .bool c.b, .slice d.n.ao d.n.n d.n.c, .bool d.a, .slice d.m.ao d.m.n d.m.c, .bool d.b]
abbrev plv (x y : Sw) : Value := .agg ((sv x).cells ++ (sv y).cells)
abbrev spv (x y : Tw) : Value := .agg ((tv x).cells ++ (tv y).cells)
abbrev otv (V : On) (x : Q5) : Value := ttv V.f V.o x.g x.a x.b x.c x.d
def OF (x : Q5) (a : Nat × On) : Fact where
  p I w := (QG x.g (a.1, a.2.g)).p I w ∧ (QG x.a (a.1, a.2.a)).p I w ∧ (QG x.b (a.1, a.2.b)).p I w ∧ (QG x.c (a.1, a.2.c)).p I w ∧ (QG x.d (a.1, a.2.d)).p I w
  up := by
    rintro I I' w w' ⟨g2, g3, g4, g5, g6⟩ h1 h2 h3
    exact ⟨(QG x.g _).up g2 h1 h2 h3, (QG x.a _).up g3 h1 h2 h3, (QG x.b _).up g4 h1 h2 h3, (QG x.c _).up g5 h1 h2 h3, (QG x.d _).up g6 h1 h2 h3⟩
section
variable {fin : VS → List Fact → Prop} {Γ : List Fact} {L : Nat}
theorem W.of5 {P : Program} {c : Cfg} (x : Q5) {V : On} [h : Has (OF x) (L, V) Γ] (hm : midOps c.k = false)
    (hk : W tb P fin c (QG x.g (L, V.g) :: QG x.a (L, V.a) :: QG x.b (L, V.b) :: QG x.c (L, V.c) :: QG x.d (L, V.d) :: Γ)) : W tb P fin c Γ :=
  W.more (Δ := [QG x.g (L, V.g), QG x.a (L, V.a), QG x.b (L, V.b), QG x.c (L, V.c), QG x.d (L, V.d)]) hm (fun I w _ hh => by
    obtain ⟨g2, g3, g4, g5, g6⟩ := h.p hh
    exact Holds.cons g2 (Holds.cons g3 (Holds.cons g4 (Holds.cons g5 (holds1 g6))))) hk
theorem entO {x : Q5} {L' L1 L2 L3 L4 L5 : Nat} {V : On} {g a b c d : Rat} [h1 : Has (QG x.g) (L1, g) Γ] [h2 : Has (QG x.a) (L2, a) Γ] [h3 : Has (QG x.b) (L3, b) Γ] [h4 : Has (QG x.c) (L4, c) Γ] [h5 : Has (QG x.d) (L5, d) Γ]
    (e1 : g = V.g) (e2 : a = V.a) (e3 : b = V.b) (e4 : c = V.c) (e5 : d = V.d) (hL : L1 ≤ L' ∧ L2 ≤ L' ∧ L3 ≤ L' ∧ L4 ≤ L' ∧ L5 ≤ L') : ∀ (I : Blk) (w : World), DataOK tb I w → Holds Γ I w → Holds [OF x (L', V)] I w := fun I w _ hh => by
  subst e1 e2 e3 e4 e5
  obtain ⟨l1, l2, l3, l4, l5⟩ := hL
  exact holds1 ⟨QF.up2 (h1.p hh) l1, QF.up2 (h2.p hh) l2, QF.up2 (h3.p hh) l3, QF.up2 (h4.p hh) l4, QF.up2 (h5.p hh) l5⟩
theorem OF.up2 {x : Q5} {V : On} {L L' : Nat} {I : Blk} {w : World} (h : (OF x (L, V)).p I w) (hL : L ≤ L') : (OF x (L', V)).p I w := by
  obtain ⟨h1, h2, h3, h4, h5⟩ := h
  exact ⟨QF.up2 h1 hL, QF.up2 h2 hL, QF.up2 h3 hL, QF.up2 h4 hL, QF.up2 h5 hL⟩
end
end Go.Proofs.YtabpaiboodllbaaGreat
