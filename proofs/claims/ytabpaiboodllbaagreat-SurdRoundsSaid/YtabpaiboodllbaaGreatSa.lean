
/- Numbers with two roots: what they are made of, facts about them. -/
import Derived.Test.YtabpaiboodllbaaGreatFe
import Derived.Test.YtabpaiboodllbaaGreatFs
import Derived.Test.YtabpaiboodllbaaGreatVz
set_option linter.unusedSimpArgs false
set_option linter.unusedVariables false
namespace Go.Proofs.YtabpaiboodllbaaGreat
open Go.RowKit Go.IntWalk

/-- A quotient's parts. -/
structure Qw where
  n : Sl
  a : Bool
  m : Sl
  b : Bool
/-- The parts of a number with two roots. -/
structure Sw where
  u : Sl
  d : Bool
  v : Sl
  e : Bool
  p : Qw
  q : Qw
  r : Qw
  s : Qw
/-- What it means: its field, its parts. -/
structure Sn where
  m : Int
  n : Int
  p : Rat
  q : Rat
  r : Rat
  s : Rat
abbrev qw (x : Qw) : Value := qv x.n x.a x.m x.b
abbrev QG (x : Qw) : Nat × Rat → Fact := QF x.n x.a x.m x.b
abbrev sv (x : Sw) : Value := .agg #[.slice x.u.ao x.u.n x.u.c, .bool x.d, .slice x.v.ao x.v.n x.v.c, .bool x.e,
  .slice x.p.n.ao x.p.n.n x.p.n.c, .bool x.p.a, .slice x.p.m.ao x.p.m.n x.p.m.c, .bool x.p.b, .slice x.q.n.ao x.q.n.n x.q.n.c, .bool x.q.a, .slice x.q.m.ao x.q.m.n x.q.m.c, .bool x.q.b,
  .slice x.r.n.ao x.r.n.n x.r.n.c, .bool x.r.a, .slice x.r.m.ao x.r.m.n x.r.m.c, .bool x.r.b, .slice x.s.n.ao x.s.n.n x.s.n.c, .bool x.s.a, .slice x.s.m.ao x.s.m.n x.s.m.c, .bool x.s.b]
abbrev ptv (x : Sw) : Value := .agg #[
  .slice x.p.n.ao x.p.n.n x.p.n.c, .bool x.p.a, .slice x.p.m.ao x.p.m.n x.p.m.c, .bool x.p.b, .slice x.q.n.ao x.q.n.n x.q.n.c, .bool x.q.a, .slice x.q.m.ao x.q.m.n x.q.m.c, .bool x.q.b,
  .slice x.r.n.ao x.r.n.n x.r.n.c, .bool x.r.a, .slice x.r.m.ao x.r.m.n x.r.m.c, .bool x.r.b, .slice x.s.n.ao x.s.n.n x.s.n.c, .bool x.s.a, .slice x.s.m.ao x.s.m.n x.s.m.c, .bool x.s.b]
abbrev nilQ : Qw := ⟨⟨none, 0, 0⟩, false, ⟨none, 0, 0⟩, false⟩
def nilS : Sw := ⟨⟨none, 0, 0⟩, false, ⟨none, 0, 0⟩, false, nilQ, nilQ, nilQ, nilQ⟩

def SF (x : Sw) (a : Nat × Sn) : Fact where
  p I w := (ZF x.u x.d (a.1, a.2.m)).p I w ∧ (ZF x.v x.e (a.1, a.2.n)).p I w ∧ (QG x.p (a.1, a.2.p)).p I w ∧ (QG x.q (a.1, a.2.q)).p I w ∧ (QG x.r (a.1, a.2.r)).p I w ∧ (QG x.s (a.1, a.2.s)).p I w
  up := by
    rintro I I' w w' ⟨g1, g2, g3, g4, g5, g6⟩ h1 h2 h3
    exact ⟨(ZF x.u x.d _).up g1 h1 h2 h3, (ZF x.v x.e _).up g2 h1 h2 h3, (QG x.p _).up g3 h1 h2 h3, (QG x.q _).up g4 h1 h2 h3, (QG x.r _).up g5 h1 h2 h3, (QG x.s _).up g6 h1 h2 h3⟩
def SPost (L : Nat) (S : Sn) (v : Value) (Δ : List Fact) : Prop := ∃ x : Sw, v = sv x ∧ Δ = [SF x (L, S)]
def SOk (L : Nat) (S : Sn) (v : Value) (Δ : List Fact) : Prop := ∃ x : Sw, v = .tuple #[sv x, .int .i64 0] ∧ Δ = [SF x (L, S)]

/-- The same of the reference. -/
structure Pw where
  n : Int
  a : Sl
  m : Int
  b : Sl
structure Tw where
  d : Int
  u : Sl
  e : Int
  v : Sl
  p : Pw
  q : Pw
  r : Pw
  s : Pw
abbrev pw (x : Pw) : Value := pv x.n x.a x.m x.b
abbrev PG (x : Pw) : Nat × Rat → Fact := PF x.n x.a x.m x.b
abbrev tv (x : Tw) : Value := .agg #[.int .i64 x.d, .slice x.u.ao x.u.n x.u.c, .int .i64 x.e, .slice x.v.ao x.v.n x.v.c,
  .int .i64 x.p.n, .slice x.p.a.ao x.p.a.n x.p.a.c, .int .i64 x.p.m, .slice x.p.b.ao x.p.b.n x.p.b.c, .int .i64 x.q.n, .slice x.q.a.ao x.q.a.n x.q.a.c, .int .i64 x.q.m, .slice x.q.b.ao x.q.b.n x.q.b.c,
  .int .i64 x.r.n, .slice x.r.a.ao x.r.a.n x.r.a.c, .int .i64 x.r.m, .slice x.r.b.ao x.r.b.n x.r.b.c, .int .i64 x.s.n, .slice x.s.a.ao x.s.a.n x.s.a.c, .int .i64 x.s.m, .slice x.s.b.ao x.s.b.n x.s.b.c]
def TF (x : Tw) (a : Nat × Sn) : Fact where
  p I w := (YF x.d x.u (a.1, a.2.m)).p I w ∧ (YF x.e x.v (a.1, a.2.n)).p I w ∧ (PG x.p (a.1, a.2.p)).p I w ∧ (PG x.q (a.1, a.2.q)).p I w ∧ (PG x.r (a.1, a.2.r)).p I w ∧ (PG x.s (a.1, a.2.s)).p I w
  up := by
    rintro I I' w w' ⟨g1, g2, g3, g4, g5, g6⟩ h1 h2 h3
    exact ⟨(YF x.d x.u _).up g1 h1 h2 h3, (YF x.e x.v _).up g2 h1 h2 h3, (PG x.p _).up g3 h1 h2 h3, (PG x.q _).up g4 h1 h2 h3, (PG x.r _).up g5 h1 h2 h3, (PG x.s _).up g6 h1 h2 h3⟩
def TPost (L : Nat) (S : Sn) (v : Value) (Δ : List Fact) : Prop := ∃ x : Tw, v = tv x ∧ Δ = [TF x (L, S)]

section
variable {fin : VS → List Fact → Prop} {Γ : List Fact} {L : Nat}

theorem W.sf {P : Program} {c : Cfg} (x : Sw) {S : Sn} [h : Has (SF x) (L, S) Γ] (hm : midOps c.k = false)
    (hk : W tb P fin c (ZF x.u x.d (L, S.m) :: ZF x.v x.e (L, S.n) :: QG x.p (L, S.p) :: QG x.q (L, S.q) :: QG x.r (L, S.r) :: QG x.s (L, S.s) :: Γ)) : W tb P fin c Γ :=
  W.elim (α := Unit) (fun _ => True) (fun _ => [ZF x.u x.d (L, S.m), ZF x.v x.e (L, S.n), QG x.p (L, S.p), QG x.q (L, S.q), QG x.r (L, S.r), QG x.s (L, S.s)]) hm (fun I w _ hh => by
    obtain ⟨g1, g2, g3, g4, g5, g6⟩ := h.p hh
    exact ⟨(), trivial, Holds.cons g1 (Holds.cons g2 (Holds.cons g3 (Holds.cons g4 (Holds.cons g5 (holds1 g6)))))⟩) (fun _ _ => hk)
theorem W.tf {P : Program} {c : Cfg} (x : Tw) {S : Sn} [h : Has (TF x) (L, S) Γ] (hm : midOps c.k = false)
    (hk : W tb P fin c (YF x.d x.u (L, S.m) :: YF x.e x.v (L, S.n) :: PG x.p (L, S.p) :: PG x.q (L, S.q) :: PG x.r (L, S.r) :: PG x.s (L, S.s) :: Γ)) : W tb P fin c Γ :=
  W.elim (α := Unit) (fun _ => True) (fun _ => [YF x.d x.u (L, S.m), YF x.e x.v (L, S.n), PG x.p (L, S.p), PG x.q (L, S.q), PG x.r (L, S.r), PG x.s (L, S.s)]) hm (fun I w _ hh => by
    obtain ⟨g1, g2, g3, g4, g5, g6⟩ := h.p hh
    exact ⟨(), trivial, Holds.cons g1 (Holds.cons g2 (Holds.cons g3 (Holds.cons g4 (Holds.cons g5 (holds1 g6)))))⟩) (fun _ _ => hk)

theorem QF.up2 {n m : Sl} {a b : Bool} {L L' : Nat} {q : Rat} {I : Blk} {w : World} (h : (QF n a m b (L, q)).p I w) (hL : L ≤ L') : (QF n a m b (L', q)).p I w := by
  obtain ⟨y, ⟨⟨h1, h2, h3⟩, h4⟩, ⟨⟨g1, g2, g3⟩, g4⟩, hy⟩ := h
  exact ⟨y, ⟨⟨h1, h2, Nat.le_trans h3 hL⟩, h4⟩, ⟨⟨g1, g2, Nat.le_trans g3 hL⟩, g4⟩, hy⟩
theorem PF.up2 {n m : Int} {a b : Sl} {L L' : Nat} {q : Rat} {I : Blk} {w : World} (h : (PF n a m b (L, q)).p I w) (hL : L ≤ L') : (PF n a m b (L', q)).p I w := by
  obtain ⟨x, y, ⟨⟨h1, h2, h3⟩, h4⟩, ⟨⟨g1, g2, g3⟩, g4⟩, hy⟩ := h
  exact ⟨x, y, ⟨⟨h1, h2, Nat.le_trans h3 hL⟩, h4⟩, ⟨⟨g1, g2, Nat.le_trans g3 hL⟩, g4⟩, hy⟩
theorem ZF.up2 {n : Sl} {a : Bool} {L L' : Nat} {q : Int} {I : Blk} {w : World} (h : (ZF n a (L, q)).p I w) (hL : L ≤ L') : (ZF n a (L', q)).p I w := by
  obtain ⟨⟨h1, h2, h3⟩, h4⟩ := h
  exact ⟨⟨h1, h2, Nat.le_trans h3 hL⟩, h4⟩
theorem YF.up2 {n : Sl} {a : Int} {L L' : Nat} {q : Int} {I : Blk} {w : World} (h : (YF a n (L, q)).p I w) (hL : L ≤ L') : (YF a n (L', q)).p I w := by
  obtain ⟨⟨h1, h2, h3⟩, h4⟩ := h
  exact ⟨⟨h1, h2, Nat.le_trans h3 hL⟩, h4⟩

/-- A number out of its parts. -/
theorem entS {x : Sw} {L' L1 L2 L3 L4 L5 L6 : Nat} {m n : Int} {p q r s : Rat} {S : Sn} [h1 : Has (ZF x.u x.d) (L1, m) Γ] [h2 : Has (ZF x.v x.e) (L2, n) Γ] [h3 : Has (QG x.p) (L3, p) Γ] [h4 : Has (QG x.q) (L4, q) Γ] [h5 : Has (QG x.r) (L5, r) Γ] [h6 : Has (QG x.s) (L6, s) Γ]
    (hm : m = S.m) (hn : n = S.n) (hp : p = S.p) (hq : q = S.q) (hr : r = S.r) (hs : s = S.s) (hL : L1 ≤ L' ∧ L2 ≤ L' ∧ L3 ≤ L' ∧ L4 ≤ L' ∧ L5 ≤ L' ∧ L6 ≤ L') : ∀ (I : Blk) (w : World), DataOK tb I w → Holds Γ I w → Holds [SF x (L', S)] I w := fun I w _ hh => by
  subst hm hn hp hq hr hs
  obtain ⟨l1, l2, l3, l4, l5, l6⟩ := hL
  exact holds1 ⟨ZF.up2 (h1.p hh) l1, ZF.up2 (h2.p hh) l2, QF.up2 (h3.p hh) l3, QF.up2 (h4.p hh) l4, QF.up2 (h5.p hh) l5, QF.up2 (h6.p hh) l6⟩
theorem entT {x : Tw} {L' L1 L2 L3 L4 L5 L6 : Nat} {m n : Int} {p q r s : Rat} {S : Sn} [h1 : Has (YF x.d x.u) (L1, m) Γ] [h2 : Has (YF x.e x.v) (L2, n) Γ] [h3 : Has (PG x.p) (L3, p) Γ] [h4 : Has (PG x.q) (L4, q) Γ] [h5 : Has (PG x.r) (L5, r) Γ] [h6 : Has (PG x.s) (L6, s) Γ]
    (hm : m = S.m) (hn : n = S.n) (hp : p = S.p) (hq : q = S.q) (hr : r = S.r) (hs : s = S.s) (hL : L1 ≤ L' ∧ L2 ≤ L' ∧ L3 ≤ L' ∧ L4 ≤ L' ∧ L5 ≤ L' ∧ L6 ≤ L') : ∀ (I : Blk) (w : World), DataOK tb I w → Holds Γ I w → Holds [TF x (L', S)] I w := fun I w _ hh => by
  subst hm hn hp hq hr hs
  obtain ⟨l1, l2, l3, l4, l5, l6⟩ := hL
  exact holds1 ⟨YF.up2 (h1.p hh) l1, YF.up2 (h2.p hh) l2, PF.up2 (h3.p hh) l3, PF.up2 (h4.p hh) l4, PF.up2 (h5.p hh) l5, PF.up2 (h6.p hh) l6⟩
theorem entS' {x : Sw} {L' : Nat} {S S' : Sn} [h : Has (SF x) (L, S) Γ] (hL : L ≤ L') (hS : S = S') : ∀ (I : Blk) (w : World), DataOK tb I w → Holds Γ I w → Holds [SF x (L', S')] I w := fun I w _ hh => by
  subst hS
  obtain ⟨g1, g2, g3, g4, g5, g6⟩ := h.p hh
  exact holds1 ⟨ZF.up2 g1 hL, ZF.up2 g2 hL, QF.up2 g3 hL, QF.up2 g4 hL, QF.up2 g5 hL, QF.up2 g6 hL⟩
theorem entT' {x : Tw} {L' : Nat} {S S' : Sn} [h : Has (TF x) (L, S) Γ] (hL : L ≤ L') (hS : S = S') : ∀ (I : Blk) (w : World), DataOK tb I w → Holds Γ I w → Holds [TF x (L', S')] I w := fun I w _ hh => by
  subst hS
  obtain ⟨g1, g2, g3, g4, g5, g6⟩ := h.p hh
  exact holds1 ⟨YF.up2 g1 hL, YF.up2 g2 hL, PF.up2 g3 hL, PF.up2 g4 hL, PF.up2 g5 hL, PF.up2 g6 hL⟩
end

def Sn.neg (S : Sn) : Sn := ⟨S.m, S.n, -S.p, -S.q, -S.r, -S.s⟩
def Sn.add (S T : Sn) : Sn := ⟨S.m, S.n, S.p + T.p, S.q + T.q, S.r + T.r, S.s + T.s⟩
def Sn.sub (S T : Sn) : Sn := ⟨S.m, S.n, S.p - T.p, S.q - T.q, S.r - T.r, S.s - T.s⟩
def Sn.mul (S T : Sn) : Sn := ⟨S.m, S.n,
  S.p * T.p + S.m * (S.q * T.q) + S.n * (S.r * T.r) + S.m * S.n * (S.s * T.s),
  S.p * T.q + S.q * T.p + S.n * (S.r * T.s + S.s * T.r),
  S.p * T.r + S.r * T.p + S.m * (S.q * T.s + S.s * T.q),
  S.p * T.s + S.s * T.p + S.q * T.r + S.r * T.q⟩
/-- The sign of x + y root m. -/
def sg1 (x y : Rat) (m : Int) : Int :=
  let s := x.num.sign
  let t := if m.sign = 0 then 0 else y.num.sign
  if t = 0 ∨ s = t then s else if s = 0 then t else s * cmpQ (x * x) (y * y * m)
/-- The sign of a number with two roots. -/
def Sn.sg (S : Sn) : Int :=
  let s := sg1 S.p S.q S.m
  let t := if S.n.sign = 0 then 0 else sg1 S.r S.s S.m
  if t = 0 ∨ s = t then s else if s = 0 then t else
    s * sg1 (S.p * S.p + S.m * S.q * S.q - S.n * (S.r * S.r + S.m * S.s * S.s)) (2 * (S.p * S.q - S.n * S.r * S.s)) S.m
end Go.Proofs.YtabpaiboodllbaaGreat
