/- Numbers with two roots: what they are made of, facts about them. Numbers with two roots: plain laws. The contracts of surd. A number of a field out of its parts. What surd's laws share: numbers out of texts; the chapter's examples. -/
import Derived.Test.YtlpfkbkpnljieaaGreatFr
import Derived.Test.YtlpfkbkpnljieaaGreatVz
import Derived.Test.YtlpfkbkpnljieaaGreatPr
set_option linter.unusedSimpArgs false
set_option linter.unusedVariables false
namespace Go.Proofs.YtlpfkbkpnljieaaGreat
open Go.RowKit Go.IntWalk

/-- A quotient's parts. -/
structure Qw where
  n : Sl
  a : Bool
  m : Sl
  b : Bool
/-- The parts of a number with two roots. -/
structure Sw where
  u : Sl
  d : Bool
  v : Sl
  e : Bool
  p : Qw
  q : Qw
  r : Qw
  s : Qw
/-- What it means: its field, its parts. -/
structure Sn where
  m : Int
  n : Int
  p : Rat
  q : Rat
  r : Rat
  s : Rat
abbrev QG (x : Qw) : Nat × Rat → Fact := QF x.n x.a x.m x.b
abbrev sv (x : Sw) : Value := .agg #[.slice x.u.ao x.u.n x.u.c, .bool x.d, .slice x.v.ao x.v.n x.v.c, .bool x.e,
  .slice x.p.n.ao x.p.n.n x.p.n.c, .bool x.p.a, .slice x.p.m.ao x.p.m.n x.p.m.c, .bool x.p.b, .slice x.q.n.ao x.q.n.n x.q.n.c, .bool x.q.a, .slice x.q.m.ao x.q.m.n x.q.m.c, .bool x.q.b,
  .slice x.r.n.ao x.r.n.n x.r.n.c, .bool x.r.a, .slice x.r.m.ao x.r.m.n x.r.m.c, .bool x.r.b, .slice x.s.n.ao x.s.n.n x.s.n.c, .bool x.s.a, .slice x.s.m.ao x.s.m.n x.s.m.c, .bool x.s.b]
abbrev ptv (x : Sw) : Value := .agg #[
  .slice x.p.n.ao x.p.n.n x.p.n.c, .bool x.p.a, .slice x.p.m.ao x.p.m.n x.p.m.c, .bool x.p.b, .slice x.q.n.ao x.q.n.n x.q.n.c, .bool x.q.a, .slice x.q.m.ao x.q.m.n x.q.m.c, .bool x.q.b,
  .slice x.r.n.ao x.r.n.n x.r.n.c, .bool x.r.a, .slice x.r.m.ao x.r.m.n x.r.m.c, .bool x.r.b, .slice x.s.n.ao x.s.n.n x.s.n.c, .bool x.s.a, .slice x.s.m.ao x.s.m.n x.s.m.c, .bool x.s.b]
abbrev nilQ : Qw := ⟨⟨none, 0, 0⟩, false, ⟨none, 0, 0⟩, false⟩
def SF (x : Sw) (a : Nat × Sn) : Fact where
  p I w := (ZF x.u x.d (a.1, a.2.m)).p I w ∧ (ZF x.v x.e (a.1, a.2.n)).p I w ∧ (QG x.p (a.1, a.2.p)).p I w ∧ (QG x.q (a.1, a.2.q)).p I w ∧ (QG x.r (a.1, a.2.r)).p I w ∧ (QG x.s (a.1, a.2.s)).p I w
  up := by
    rintro I I' w w' ⟨g1, g2, g3, g4, g5, g6⟩ h1 h2 h3
    exact ⟨(ZF x.u x.d _).up g1 h1 h2 h3, (ZF x.v x.e _).up g2 h1 h2 h3, (QG x.p _).up g3 h1 h2 h3, (QG x.q _).up g4 h1 h2 h3, (QG x.r _).up g5 h1 h2 h3, (QG x.s _).up g6 h1 h2 h3⟩
def SPost (L : Nat) (S : Sn) (v : Value) (Δ : List Fact) : Prop := ∃ x : Sw, v = sv x ∧ Δ = [SF x (L, S)]
def SOk (L : Nat) (S : Sn) (v : Value) (Δ : List Fact) : Prop := ∃ x : Sw, v = .tuple #[sv x, .int .i64 0] ∧ Δ = [SF x (L, S)]

/-- The same of the reference. -/
structure Pw where
  n : Int
  a : Sl
  m : Int
  b : Sl
structure Tw where
  d : Int
  u : Sl
  e : Int
  v : Sl
  p : Pw
  q : Pw
  r : Pw
  s : Pw
abbrev PG (x : Pw) : Nat × Rat → Fact := PF x.n x.a x.m x.b
abbrev tv (x : Tw) : Value := .agg #[.int .i64 x.d, .slice x.u.ao x.u.n x.u.c, .int .i64 x.e, .slice x.v.ao x.v.n x.v.c,
  .int .i64 x.p.n, .slice x.p.a.ao x.p.a.n x.p.a.c, .int .i64 x.p.m, .slice x.p.b.ao x.p.b.n x.p.b.c, .int .i64 x.q.n, .slice x.q.a.ao x.q.a.n x.q.a.c, .int .i64 x.q.m, .slice x.q.b.ao x.q.b.n x.q.b.c,
  .int .i64 x.r.n, .slice x.r.a.ao x.r.a.n x.r.a.c, .int .i64 x.r.m, .slice x.r.b.ao x.r.b.n x.r.b.c, .int .i64 x.s.n, .slice x.s.a.ao x.s.a.n x.s.a.c, .int .i64 x.s.m, .slice x.s.b.ao x.s.b.n x.s.b.c]
def TF (x : Tw) (a : Nat × Sn) : Fact where
  p I w := (YF x.d x.u (a.1, a.2.m)).p I w ∧ (YF x.e x.v (a.1, a.2.n)).p I w ∧ (PG x.p (a.1, a.2.p)).p I w ∧ (PG x.q (a.1, a.2.q)).p I w ∧ (PG x.r (a.1, a.2.r)).p I w ∧ (PG x.s (a.1, a.2.s)).p I w
  up := by
    rintro I I' w w' ⟨g1, g2, g3, g4, g5, g6⟩ h1 h2 h3
    exact ⟨(YF x.d x.u _).up g1 h1 h2 h3, (YF x.e x.v _).up g2 h1 h2 h3, (PG x.p _).up g3 h1 h2 h3, (PG x.q _).up g4 h1 h2 h3, (PG x.r _).up g5 h1 h2 h3, (PG x.s _).up g6 h1 h2 h3⟩
section
variable {fin : VS → List Fact → Prop} {Γ : List Fact} {L : Nat}

theorem W.sf {P : Program} {c : Cfg} (x : Sw) {S : Sn} [h : Has (SF x) (L, S) Γ] (hm : midOps c.k = false)
    (hk : W tb P fin c (ZF x.u x.d (L, S.m) :: ZF x.v x.e (L, S.n) :: QG x.p (L, S.p) :: QG x.q (L, S.q) :: QG x.r (L, S.r) :: QG x.s (L, S.s) :: Γ)) : W tb P fin c Γ :=
  W.elim (α := Unit) (fun _ => True) (fun _ => [ZF x.u x.d (L, S.m), ZF x.v x.e (L, S.n), QG x.p (L, S.p), QG x.q (L, S.q), QG x.r (L, S.r), QG x.s (L, S.s)]) hm (fun I w _ hh => by
    obtain ⟨g1, g2, g3, g4, g5, g6⟩ := h.p hh
    exact ⟨(), trivial, Holds.cons g1 (Holds.cons g2 (Holds.cons g3 (Holds.cons g4 (Holds.cons g5 (holds1 g6)))))⟩) (fun _ _ => hk)
theorem QF.up2 {n m : Sl} {a b : Bool} {L L' : Nat} {q : Rat} {I : Blk} {w : World} (h : (QF n a m b (L, q)).p I w) (hL : L ≤ L') : (QF n a m b (L', q)).p I w := by
  obtain ⟨y, ⟨⟨h1, h2, h3⟩, h4⟩, ⟨⟨g1, g2, g3⟩, g4⟩, hy⟩ := h
  exact ⟨y, ⟨⟨h1, h2, Nat.le_trans h3 hL⟩, h4⟩, ⟨⟨g1, g2, Nat.le_trans g3 hL⟩, g4⟩, hy⟩
theorem PF.up2 {n m : Int} {a b : Sl} {L L' : Nat} {q : Rat} {I : Blk} {w : World} (h : (PF n a m b (L, q)).p I w) (hL : L ≤ L') : (PF n a m b (L', q)).p I w := by
  obtain ⟨x, y, ⟨⟨h1, h2, h3⟩, h4⟩, ⟨⟨g1, g2, g3⟩, g4⟩, hy⟩ := h
  exact ⟨x, y, ⟨⟨h1, h2, Nat.le_trans h3 hL⟩, h4⟩, ⟨⟨g1, g2, Nat.le_trans g3 hL⟩, g4⟩, hy⟩
theorem ZF.up2 {n : Sl} {a : Bool} {L L' : Nat} {q : Int} {I : Blk} {w : World} (h : (ZF n a (L, q)).p I w) (hL : L ≤ L') : (ZF n a (L', q)).p I w := by
  obtain ⟨⟨h1, h2, h3⟩, h4⟩ := h
  exact ⟨⟨h1, h2, Nat.le_trans h3 hL⟩, h4⟩
theorem YF.up2 {n : Sl} {a : Int} {L L' : Nat} {q : Int} {I : Blk} {w : World} (h : (YF a n (L, q)).p I w) (hL : L ≤ L') : (YF a n (L', q)).p I w := by
  obtain ⟨⟨h1, h2, h3⟩, h4⟩ := h
  exact ⟨⟨h1, h2, Nat.le_trans h3 hL⟩, h4⟩

/-- A number out of its parts. -/
theorem entS {x : Sw} {L' L1 L2 L3 L4 L5 L6 : Nat} {m n : Int} {p q r s : Rat} {S : Sn} [h1 : Has (ZF x.u x.d) (L1, m) Γ] [h2 : Has (ZF x.v x.e) (L2, n) Γ] [h3 : Has (QG x.p) (L3, p) Γ] [h4 : Has (QG x.q) (L4, q) Γ] [h5 : Has (QG x.r) (L5, r) Γ] [h6 : Has (QG x.s) (L6, s) Γ]
    (hm : m = S.m) (hn : n = S.n) (hp : p = S.p) (hq : q = S.q) (hr : r = S.r) (hs : s = S.s) (hL : L1 ≤ L' ∧ L2 ≤ L' ∧ L3 ≤ L' ∧ L4 ≤ L' ∧ L5 ≤ L' ∧ L6 ≤ L') : ∀ (I : Blk) (w : World), DataOK tb I w → Holds Γ I w → Holds [SF x (L', S)] I w := fun I w _ hh => by
  subst hm hn hp hq hr hs
  obtain ⟨l1, l2, l3, l4, l5, l6⟩ := hL
  exact holds1 ⟨ZF.up2 (h1.p hh) l1, ZF.up2 (h2.p hh) l2, QF.up2 (h3.p hh) l3, QF.up2 (h4.p hh) l4, QF.up2 (h5.p hh) l5, QF.up2 (h6.p hh) l6⟩
theorem entS' {x : Sw} {L' : Nat} {S S' : Sn} [h : Has (SF x) (L, S) Γ] (hL : L ≤ L') (hS : S = S') : ∀ (I : Blk) (w : World), DataOK tb I w → Holds Γ I w → Holds [SF x (L', S')] I w := fun I w _ hh => by
  subst hS
  obtain ⟨g1, g2, g3, g4, g5, g6⟩ := h.p hh
  exact holds1 ⟨ZF.up2 g1 hL, ZF.up2 g2 hL, QF.up2 g3 hL, QF.up2 g4 hL, QF.up2 g5 hL, QF.up2 g6 hL⟩
end

def Sn.neg (S : Sn) : Sn := ⟨S.m, S.n, -S.p, -S.q, -S.r, -S.s⟩
def Sn.add (S T : Sn) : Sn := ⟨S.m, S.n, S.p + T.p, S.q + T.q, S.r + T.r, S.s + T.s⟩
def Sn.sub (S T : Sn) : Sn := ⟨S.m, S.n, S.p - T.p, S.q - T.q, S.r - T.r, S.s - T.s⟩
def Sn.mul (S T : Sn) : Sn := ⟨S.m, S.n,
  S.p * T.p + S.m * (S.q * T.q) + S.n * (S.r * T.r) + S.m * S.n * (S.s * T.s),
  S.p * T.q + S.q * T.p + S.n * (S.r * T.s + S.s * T.r),
  S.p * T.r + S.r * T.p + S.m * (S.q * T.s + S.s * T.q),
  S.p * T.s + S.s * T.p + S.q * T.r + S.r * T.q⟩
/-- The sign of x + y root m. -/
def sg1 (x y : Rat) (m : Int) : Int :=
  let s := x.num.sign
  let t := if m.sign = 0 then 0 else y.num.sign
  if t = 0 ∨ s = t then s else if s = 0 then t else s * cmpQ (x * x) (y * y * m)
/-- The sign of a number with two roots. -/
def Sn.sg (S : Sn) : Int :=
  let s := sg1 S.p S.q S.m
  let t := if S.n.sign = 0 then 0 else sg1 S.r S.s S.m
  if t = 0 ∨ s = t then s else if s = 0 then t else
    s * sg1 (S.p * S.p + S.m * S.q * S.q - S.n * (S.r * S.r + S.m * S.s * S.s)) (2 * (S.p * S.q - S.n * S.r * S.s)) S.m
end Go.Proofs.YtlpfkbkpnljieaaGreat

set_option linter.unusedSimpArgs false
set_option linter.unusedVariables false
namespace Go.Proofs.YtlpfkbkpnljieaaGreat
open Go.RowKit Go.IntWalk

theorem Sn.ext' {S T : Sn} (h1 : S.m = T.m) (h2 : S.n = T.n) (h3 : S.p = T.p) (h4 : S.q = T.q) (h5 : S.r = T.r) (h6 : S.s = T.s) : S = T := by
  cases S; cases T; simp_all
theorem Sn.add_assoc (S T U : Sn) : (S.add T).add U = S.add (T.add U) := by
  refine Sn.ext' rfl rfl ?_ ?_ ?_ ?_ <;> simp only [Sn.add] <;> grind
theorem Sn.add_mul {S T U : Sn} (hm : T.m = S.m) (hn : T.n = S.n) : (S.add T).mul U = (S.mul U).add (T.mul U) := by
  refine Sn.ext' rfl rfl ?_ ?_ ?_ ?_ <;> simp only [Sn.add, Sn.mul, hm, hn] <;> grind
theorem Sn.mul_comm {S T : Sn} (hm : T.m = S.m) (hn : T.n = S.n) : S.mul T = T.mul S := by
  refine Sn.ext' hm.symm hn.symm ?_ ?_ ?_ ?_ <;> simp only [Sn.mul, hm, hn] <;> grind
/-- 2^k times a quotient times a root, rounded towards 0. -/
def qab (x : Rat) (root : Int) (k : Nat) : Int :=
  let q : Int := (isq (x.num.natAbs * x.num.natAbs * root.natAbs * 2 ^ (2 * k)) : Nat) / (x.den : Int)
  if x.num.sign < 0 then -q else q
def Sn.lessq (S : Sn) (q : Int) : Sn := ⟨S.m, S.n, S.p - q, S.q, S.r, S.s⟩
/-- Where the search for the floor begins. -/
def Sn.low (S : Sn) : Int := (0 + qab S.p 1 8 + qab S.q S.m 8 + qab S.r S.n 8 + qab S.s (S.m * S.n) 8) / 256
def Sn.up (S : Sn) (h : Rat) : Sn := ⟨S.m, S.n, S.p + h, S.q, S.r, S.s⟩
/-- The search ends where it begins. -/
def Sn.floors (S : Sn) : Bool := !decide ((S.lessq S.low).sg < 0) && decide ((S.lessq (S.low + 1)).sg < 0)
/-- The nearest whole number, as the code reckons it. -/
def Sn.half (S : Sn) : Sn := S.up (Rat.divInt 1 2)
def Sn.near (S : Sn) : Int := if (S.half.lessq S.half.low).sg = 0 ∧ (S.half.low % 2).sign ≠ 0 then S.half.low - 1 else S.half.low
end Go.Proofs.YtlpfkbkpnljieaaGreat

set_option linter.unusedSimpArgs false
set_option linter.unusedVariables false
namespace Go.Proofs.YtlpfkbkpnljieaaGreat
open Go.RowKit Go.IntWalk

def Tri (z : Int) : Prop := z = -1 ∨ z = 0 ∨ z = 1
theorem wrap3 {a b : Int} (ha : Tri a) (hb : Tri b) : IntKind.i64.wrap (a * b) = a * b := by
  rcases ha with rfl | rfl | rfl <;> rcases hb with rfl | rfl | rfl <;> rfl
theorem sign3 (z : Int) : Tri z.sign := by
  unfold Tri
  rcases Int.lt_trichotomy z 0 with h | h | h
  · exact .inl (Int.sign_eq_neg_one_of_neg h)
  · subst h; exact .inr (.inl rfl)
  · exact .inr (.inr (Int.sign_eq_one_of_pos h))
theorem cmpQ3 (a b : Rat) : Tri (cmpQ a b) := by unfold Tri cmpQ; grind
theorem tri_mul {a b : Int} (ha : Tri a) (hb : Tri b) : Tri (a * b) := by
  rcases ha with rfl | rfl | rfl <;> rcases hb with rfl | rfl | rfl <;> unfold Tri <;> decide
theorem sg1_3 (x y : Rat) (m : Int) : Tri (sg1 x y m) := by
  unfold sg1
  have h1 := sign3 x.num
  have h2 := sign3 y.num
  have h3 := tri_mul h1 (cmpQ3 (x * x) (y * y * m))
  have h0 : Tri 0 := .inr (.inl rfl)
  simp only
  (repeat' split) <;> assumption

section
variable {fin : VS → List Fact → Prop} {Γ : List Fact} {L M K : Nat}
theorem p_xfield (x : Sw) :
    PCalls tb Tryz.prog 68 [sv x] Γ (IsV (.tuple #[zv x.u x.d, zv x.v x.e])) := by
  refine PCalls.of_W tbOk Tryz.func68 rfl (by kernel_rfl) ?_
  exact W.r [] (.tuple #[zv x.u x.d, zv x.v x.e]) (by kernel_rfl) ⟨rfl, rfl⟩ ent0
theorem p_xparts (x : Sw) :
    PCalls tb Tryz.prog 69 [sv x] Γ (IsV (ptv x)) := by
  refine PCalls.of_W tbOk Tryz.func69 rfl (by kernel_rfl) ?_
  exact W.r [] (ptv x) (by kernel_rfl) ⟨rfl, rfl⟩ ent0
theorem p_xone (n : Sl) (a : Bool) (m : Sl) (b : Bool) (k : Sl) (c : Bool) (l : Sl) (d : Bool) (u : Sl) (e : Bool) {x y : Rat} {z : Int} [Has (QF n a m b) (L, x) Γ] [Has (QF k c l d) (M, y) Γ] [Has (ZF u e) (K, z) Γ] (hL : L ≤ 400000 := by omega) (hM : M ≤ 290000 := by omega) (hK : K ≤ 400000 := by omega) :
    PCalls tb Tryz.prog 112 [qv n a m b, qv k c l d, zv u e] Γ (IsV (.int .i64 (sg1 x y z))) := by
  refine PCalls.of_W tbOk Tryz.func112 rfl (by kernel_rfl) ?_
  refine W.cl [] (by kernel_rfl) (p_qsign n a m b) ?_
  rintro _ _ ⟨rfl, rfl⟩
  refine W.cl [] (by kernel_rfl) (p_qsign k c l d) ?_
  rintro _ _ ⟨rfl, rfl⟩
  refine W.cl [] (by kernel_rfl) (p_zsign u e) ?_
  rintro _ _ ⟨rfl, rfl⟩
  refine W.d [] 15 ((z).sign == 0) (by kernel_rfl) (fun hb => ?_) (fun hb => ?_)
  · skip
    exact W.r [16, 19, 15] (.int .i64 x.num.sign) (by kernel_rfl) ⟨congrArg _ (by unfold sg1; grind), rfl⟩ ent0
  · skip
    refine W.d [15] 19 (y.num.sign == 0) (by kernel_rfl) (fun hb => ?_) (fun hb => ?_)
    · skip
      exact W.r [16, 19] (.int .i64 x.num.sign) (by kernel_rfl) ⟨congrArg _ (by unfold sg1; grind), rfl⟩ ent0
    · skip
      refine W.d [19] 16 (x.num.sign == y.num.sign) (by kernel_rfl) (fun hb => ?_) (fun hb => ?_)
      · skip
        exact W.r [16] (.int .i64 x.num.sign) (by kernel_rfl) ⟨congrArg _ (by unfold sg1; grind), rfl⟩ ent0
      · skip
        refine W.d [16] 25 (x.num.sign == 0) (by kernel_rfl) (fun hb => ?_) (fun hb => ?_)
        · skip
          exact W.r [25] (.int .i64 y.num.sign) (by kernel_rfl) ⟨congrArg _ (by unfold sg1; grind), rfl⟩ ent0
        · skip
          refine W.cl [25] (by kernel_rfl) (p_qmul n a m b n a m b) ?_
          rintro _ _ ⟨n4, a4, m4, b4, rfl, rfl⟩   -- (x * x)
          refine W.cl [] (by kernel_rfl) (p_qmul k c l d k c l d) ?_
          rintro _ _ ⟨n5, a5, m5, b5, rfl, rfl⟩   -- (y * y)
          refine W.cl [] (by kernel_rfl) (p_qwhole u e) ?_
          rintro _ _ ⟨n6, a6, m6, b6, rfl, rfl⟩   -- (z : Rat)
          refine W.cl [] (by kernel_rfl) (p_qmul n5 a5 m5 b5 n6 a6 m6 b6) ?_
          rintro _ _ ⟨n7, a7, m7, b7, rfl, rfl⟩   -- ((y * y) * (z : Rat))
          refine W.cl [] (by kernel_rfl) (p_qcmp n4 a4 m4 b4 n7 a7 m7 b7) ?_
          rintro _ _ ⟨rfl, rfl⟩
          exact W.r [] (.int .i64 (IntKind.i64.wrap (x.num.sign * (cmpQ (x * x) ((y * y) * (z : Rat)))))) (by kernel_rfl) ⟨congrArg _ (by rw [wrap3 (sign3 _) (cmpQ3 _ _)]; unfold sg1; grind), rfl⟩ ent0
set_option maxHeartbeats 4000000 in
theorem p_xsign (x : Sw) {S : Sn} [Has (SF x) (L, S) Γ] (hL : L ≤ 10000 := by omega) :
    PCalls tb Tryz.prog 90 [sv x] Γ (IsV (.int .i64 S.sg)) := by
  refine PCalls.of_W tbOk Tryz.func90 rfl (by kernel_rfl) ?_
  refine W.sf x rfl ?_
  refine W.revp 1 ((sv x).cells.toList) (by kernel_rfl) (by kernel_rfl) ?_
  intro b0
  refine W.fa [] 4 b0 0 tbOk (by kernel_rfl) ?_
  refine W.sla [] 4 4 b0 4 none (some (.int .i64 ((2 : Nat) : Int))) 0 2 tbOk (by kernel_rfl) (.inr ⟨rfl, rfl⟩) (.inl rfl) (by decide) (by decide) (by decide) ?_
  refine W.fa [] 4 b0 0 tbOk (by kernel_rfl) ?_
  refine W.sla [] 4 4 b0 4 (some (.int .i64 ((2 : Nat) : Int))) none 2 4 tbOk (by kernel_rfl) (.inl rfl) (.inr ⟨rfl, rfl⟩) (by decide) (by decide) (by decide) ?_
  refine W.ia [] 4 b0 4 2 4 .i64 0 0 rfl tbOk (by kernel_rfl) (by decide) ?_
  refine W.ldr [] b0 4 [.slice x.p.n.ao x.p.n.n x.p.n.c, .bool x.p.a, .slice x.p.m.ao x.p.m.n x.p.m.c, .bool x.p.b] tbOk (by kernel_rfl) rfl ?_
  refine W.ia [] 4 b0 4 2 4 .i64 1 1 rfl tbOk (by kernel_rfl) (by decide) ?_
  refine W.ldr [] b0 8 [.slice x.q.n.ao x.q.n.n x.q.n.c, .bool x.q.a, .slice x.q.m.ao x.q.m.n x.q.m.c, .bool x.q.b] tbOk (by kernel_rfl) rfl ?_
  refine W.fa [] 0 b0 0 tbOk (by kernel_rfl) ?_
  refine W.fa [] 0 b0 0 tbOk (by kernel_rfl) ?_
  refine W.ldr [] b0 0 [.slice x.u.ao x.u.n x.u.c, .bool x.d] tbOk (by kernel_rfl) rfl ?_
  refine W.ia [] 4 b0 12 2 2 .i64 0 0 rfl tbOk (by kernel_rfl) (by decide) ?_
  refine W.ldr [] b0 12 [.slice x.r.n.ao x.r.n.n x.r.n.c, .bool x.r.a, .slice x.r.m.ao x.r.m.n x.r.m.c, .bool x.r.b] tbOk (by kernel_rfl) rfl ?_
  refine W.ia [] 4 b0 12 2 2 .i64 1 1 rfl tbOk (by kernel_rfl) (by decide) ?_
  refine W.ldr [] b0 16 [.slice x.s.n.ao x.s.n.n x.s.n.c, .bool x.s.a, .slice x.s.m.ao x.s.m.n x.s.m.c, .bool x.s.b] tbOk (by kernel_rfl) rfl ?_
  refine W.fa [] 0 b0 0 tbOk (by kernel_rfl) ?_
  refine W.fa [] 0 b0 0 tbOk (by kernel_rfl) ?_
  refine W.ldr [] b0 0 [.slice x.u.ao x.u.n x.u.c, .bool x.d] tbOk (by kernel_rfl) rfl ?_
  refine W.cl [] (by kernel_rfl) (p_xone x.p.n x.p.a x.p.m x.p.b x.q.n x.q.a x.q.m x.q.b x.u x.d) ?_
  rintro _ _ ⟨rfl, rfl⟩
  refine W.cl [] (by kernel_rfl) (p_xone x.r.n x.r.a x.r.m x.r.b x.s.n x.s.a x.s.m x.s.b x.u x.d) ?_
  rintro _ _ ⟨rfl, rfl⟩
  refine W.fa [] 0 b0 0 tbOk (by kernel_rfl) ?_
  refine W.fa [] 2 b0 0 tbOk (by kernel_rfl) ?_
  refine W.ldr [] b0 2 [.slice x.v.ao x.v.n x.v.c, .bool x.e] tbOk (by kernel_rfl) rfl ?_
  refine W.cl [] (by kernel_rfl) (p_zsign x.v x.e) ?_
  rintro _ _ ⟨rfl, rfl⟩
  refine W.d [] 40 ((S.n).sign == 0) (by kernel_rfl) (fun hb => ?_) (fun hb => ?_)
  · skip
    exact W.r [41, 44, 40] (.int .i64 (sg1 S.p S.q S.m)) (by kernel_rfl) ⟨congrArg _ (by unfold Sn.sg; grind), rfl⟩ ent0
  · skip
    refine W.d [40] 44 ((sg1 S.r S.s S.m) == 0) (by kernel_rfl) (fun hb => ?_) (fun hb => ?_)
    · skip
      exact W.r [41, 44] (.int .i64 (sg1 S.p S.q S.m)) (by kernel_rfl) ⟨congrArg _ (by unfold Sn.sg; grind), rfl⟩ ent0
    · skip
      refine W.d [44] 41 ((sg1 S.p S.q S.m) == (sg1 S.r S.s S.m)) (by kernel_rfl) (fun hb => ?_) (fun hb => ?_)
      · skip
        exact W.r [41] (.int .i64 (sg1 S.p S.q S.m)) (by kernel_rfl) ⟨congrArg _ (by unfold Sn.sg; grind), rfl⟩ ent0
      · skip
        refine W.d [41] 50 ((sg1 S.p S.q S.m) == 0) (by kernel_rfl) (fun hb => ?_) (fun hb => ?_)
        · skip
          exact W.r [50] (.int .i64 (sg1 S.r S.s S.m)) (by kernel_rfl) ⟨congrArg _ (by unfold Sn.sg; grind), rfl⟩ ent0
        · skip
          refine W.fa [50] 0 b0 0 tbOk (by kernel_rfl) ?_
          refine W.fa [] 0 b0 0 tbOk (by kernel_rfl) ?_
          refine W.ldr [] b0 0 [.slice x.u.ao x.u.n x.u.c, .bool x.d] tbOk (by kernel_rfl) rfl ?_
          refine W.fa [] 0 b0 0 tbOk (by kernel_rfl) ?_
          refine W.fa [] 2 b0 0 tbOk (by kernel_rfl) ?_
          refine W.ldr [] b0 2 [.slice x.v.ao x.v.n x.v.c, .bool x.e] tbOk (by kernel_rfl) rfl ?_
          refine W.cl [] (by kernel_rfl) (p_qwhole x.u x.d) ?_
          rintro _ _ ⟨n4, a4, m4, b4, rfl, rfl⟩   -- (S.m : Rat)
          refine W.cl [] (by kernel_rfl) (p_qwhole x.v x.e) ?_
          rintro _ _ ⟨n5, a5, m5, b5, rfl, rfl⟩   -- (S.n : Rat)
          refine W.cl [] (by kernel_rfl) (p_zof 2 (by omega) (by omega)) ?_
          rintro _ _ ⟨u6, d6, rfl, rfl⟩   -- 2
          refine W.cl [] (by kernel_rfl) (p_qwhole u6 d6) ?_
          rintro _ _ ⟨n7, a7, m7, b7, rfl, rfl⟩   -- (2 : Rat)
          refine W.ia [] 4 b0 4 2 4 .i64 0 0 rfl tbOk (by kernel_rfl) (by decide) ?_
          refine W.ldr [] b0 4 [.slice x.p.n.ao x.p.n.n x.p.n.c, .bool x.p.a, .slice x.p.m.ao x.p.m.n x.p.m.c, .bool x.p.b] tbOk (by kernel_rfl) rfl ?_
          refine W.ia [] 4 b0 4 2 4 .i64 0 0 rfl tbOk (by kernel_rfl) (by decide) ?_
          refine W.ldr [] b0 4 [.slice x.p.n.ao x.p.n.n x.p.n.c, .bool x.p.a, .slice x.p.m.ao x.p.m.n x.p.m.c, .bool x.p.b] tbOk (by kernel_rfl) rfl ?_
          refine W.ia [] 4 b0 4 2 4 .i64 1 1 rfl tbOk (by kernel_rfl) (by decide) ?_
          refine W.ldr [] b0 8 [.slice x.q.n.ao x.q.n.n x.q.n.c, .bool x.q.a, .slice x.q.m.ao x.q.m.n x.q.m.c, .bool x.q.b] tbOk (by kernel_rfl) rfl ?_
          refine W.ia [] 4 b0 4 2 4 .i64 1 1 rfl tbOk (by kernel_rfl) (by decide) ?_
          refine W.ldr [] b0 8 [.slice x.q.n.ao x.q.n.n x.q.n.c, .bool x.q.a, .slice x.q.m.ao x.q.m.n x.q.m.c, .bool x.q.b] tbOk (by kernel_rfl) rfl ?_
          refine W.ia [] 4 b0 12 2 2 .i64 0 0 rfl tbOk (by kernel_rfl) (by decide) ?_
          refine W.ldr [] b0 12 [.slice x.r.n.ao x.r.n.n x.r.n.c, .bool x.r.a, .slice x.r.m.ao x.r.m.n x.r.m.c, .bool x.r.b] tbOk (by kernel_rfl) rfl ?_
          refine W.ia [] 4 b0 12 2 2 .i64 0 0 rfl tbOk (by kernel_rfl) (by decide) ?_
          refine W.ldr [] b0 12 [.slice x.r.n.ao x.r.n.n x.r.n.c, .bool x.r.a, .slice x.r.m.ao x.r.m.n x.r.m.c, .bool x.r.b] tbOk (by kernel_rfl) rfl ?_
          refine W.ia [] 4 b0 12 2 2 .i64 1 1 rfl tbOk (by kernel_rfl) (by decide) ?_
          refine W.ldr [] b0 16 [.slice x.s.n.ao x.s.n.n x.s.n.c, .bool x.s.a, .slice x.s.m.ao x.s.m.n x.s.m.c, .bool x.s.b] tbOk (by kernel_rfl) rfl ?_
          refine W.ia [] 4 b0 12 2 2 .i64 1 1 rfl tbOk (by kernel_rfl) (by decide) ?_
          refine W.ldr [] b0 16 [.slice x.s.n.ao x.s.n.n x.s.n.c, .bool x.s.a, .slice x.s.m.ao x.s.m.n x.s.m.c, .bool x.s.b] tbOk (by kernel_rfl) rfl ?_
          refine W.cl [] (by kernel_rfl) (p_qmul x.p.n x.p.a x.p.m x.p.b x.p.n x.p.a x.p.m x.p.b) ?_
          rintro _ _ ⟨n8, a8, m8, b8, rfl, rfl⟩   -- (S.p * S.p)
          refine W.cl [] (by kernel_rfl) (p_qmul n4 a4 m4 b4 x.q.n x.q.a x.q.m x.q.b) ?_
          rintro _ _ ⟨n9, a9, m9, b9, rfl, rfl⟩   -- ((S.m : Rat) * S.q)
          refine W.cl [] (by kernel_rfl) (p_qmul n9 a9 m9 b9 x.q.n x.q.a x.q.m x.q.b) ?_
          rintro _ _ ⟨n10, a10, m10, b10, rfl, rfl⟩   -- (((S.m : Rat) * S.q) * S.q)
          refine W.cl [] (by kernel_rfl) (p_qadd n8 a8 m8 b8 n10 a10 m10 b10) ?_
          rintro _ _ ⟨n11, a11, m11, b11, rfl, rfl⟩   -- ((S.p * S.p) + (((S.m : Rat) * S.q) * S.q))
          refine W.cl [] (by kernel_rfl) (p_qmul x.r.n x.r.a x.r.m x.r.b x.r.n x.r.a x.r.m x.r.b) ?_
          rintro _ _ ⟨n12, a12, m12, b12, rfl, rfl⟩   -- (S.r * S.r)
          refine W.cl [] (by kernel_rfl) (p_qmul n4 a4 m4 b4 x.s.n x.s.a x.s.m x.s.b) ?_
          rintro _ _ ⟨n13, a13, m13, b13, rfl, rfl⟩   -- ((S.m : Rat) * S.s)
          refine W.cl [] (by kernel_rfl) (p_qmul n13 a13 m13 b13 x.s.n x.s.a x.s.m x.s.b) ?_
          rintro _ _ ⟨n14, a14, m14, b14, rfl, rfl⟩   -- (((S.m : Rat) * S.s) * S.s)
          refine W.cl [] (by kernel_rfl) (p_qadd n12 a12 m12 b12 n14 a14 m14 b14) ?_
          rintro _ _ ⟨n15, a15, m15, b15, rfl, rfl⟩   -- ((S.r * S.r) + (((S.m : Rat) * S.s) * S.s))
          refine W.cl [] (by kernel_rfl) (p_qmul n5 a5 m5 b5 n15 a15 m15 b15) ?_
          rintro _ _ ⟨n16, a16, m16, b16, rfl, rfl⟩   -- ((S.n : Rat) * ((S.r * S.r) + (((S.m : Rat) * S.s) * S.s)))
          refine W.cl [] (by kernel_rfl) (p_qsub n11 a11 m11 b11 n16 a16 m16 b16) ?_
          rintro _ _ ⟨n17, a17, m17, b17, rfl, rfl⟩   -- (((S.p * S.p) + (((S.m : Rat) * S.q) * S.q)) - ((S.n : Rat) * ((S.r * S.r) + (((S.m : Rat) * S.s) * S.s))))
          refine W.ia [] 4 b0 4 2 4 .i64 0 0 rfl tbOk (by kernel_rfl) (by decide) ?_
          refine W.ldr [] b0 4 [.slice x.p.n.ao x.p.n.n x.p.n.c, .bool x.p.a, .slice x.p.m.ao x.p.m.n x.p.m.c, .bool x.p.b] tbOk (by kernel_rfl) rfl ?_
          refine W.ia [] 4 b0 4 2 4 .i64 1 1 rfl tbOk (by kernel_rfl) (by decide) ?_
          refine W.ldr [] b0 8 [.slice x.q.n.ao x.q.n.n x.q.n.c, .bool x.q.a, .slice x.q.m.ao x.q.m.n x.q.m.c, .bool x.q.b] tbOk (by kernel_rfl) rfl ?_
          refine W.ia [] 4 b0 12 2 2 .i64 0 0 rfl tbOk (by kernel_rfl) (by decide) ?_
          refine W.ldr [] b0 12 [.slice x.r.n.ao x.r.n.n x.r.n.c, .bool x.r.a, .slice x.r.m.ao x.r.m.n x.r.m.c, .bool x.r.b] tbOk (by kernel_rfl) rfl ?_
          refine W.ia [] 4 b0 12 2 2 .i64 1 1 rfl tbOk (by kernel_rfl) (by decide) ?_
          refine W.ldr [] b0 16 [.slice x.s.n.ao x.s.n.n x.s.n.c, .bool x.s.a, .slice x.s.m.ao x.s.m.n x.s.m.c, .bool x.s.b] tbOk (by kernel_rfl) rfl ?_
          refine W.cl [] (by kernel_rfl) (p_qmul x.p.n x.p.a x.p.m x.p.b x.q.n x.q.a x.q.m x.q.b) ?_
          rintro _ _ ⟨n18, a18, m18, b18, rfl, rfl⟩   -- (S.p * S.q)
          refine W.cl [] (by kernel_rfl) (p_qmul n5 a5 m5 b5 x.r.n x.r.a x.r.m x.r.b) ?_
          rintro _ _ ⟨n19, a19, m19, b19, rfl, rfl⟩   -- ((S.n : Rat) * S.r)
          refine W.cl [] (by kernel_rfl) (p_qmul n19 a19 m19 b19 x.s.n x.s.a x.s.m x.s.b) ?_
          rintro _ _ ⟨n20, a20, m20, b20, rfl, rfl⟩   -- (((S.n : Rat) * S.r) * S.s)
          refine W.cl [] (by kernel_rfl) (p_qsub n18 a18 m18 b18 n20 a20 m20 b20) ?_
          rintro _ _ ⟨n21, a21, m21, b21, rfl, rfl⟩   -- ((S.p * S.q) - (((S.n : Rat) * S.r) * S.s))
          refine W.cl [] (by kernel_rfl) (p_qmul n7 a7 m7 b7 n21 a21 m21 b21) ?_
          rintro _ _ ⟨n22, a22, m22, b22, rfl, rfl⟩   -- ((2 : Rat) * ((S.p * S.q) - (((S.n : Rat) * S.r) * S.s)))
          refine W.fa [] 0 b0 0 tbOk (by kernel_rfl) ?_
          refine W.fa [] 0 b0 0 tbOk (by kernel_rfl) ?_
          refine W.ldr [] b0 0 [.slice x.u.ao x.u.n x.u.c, .bool x.d] tbOk (by kernel_rfl) rfl ?_
          refine W.cl [] (by kernel_rfl) (p_xone n17 a17 m17 b17 n22 a22 m22 b22 x.u x.d) ?_
          rintro _ _ ⟨rfl, rfl⟩
          exact W.r [] (.int .i64 (IntKind.i64.wrap ((sg1 S.p S.q S.m) * (sg1 (((S.p * S.p) + (((S.m : Rat) * S.q) * S.q)) - ((S.n : Rat) * ((S.r * S.r) + (((S.m : Rat) * S.s) * S.s)))) ((2 : Rat) * ((S.p * S.q) - (((S.n : Rat) * S.r) * S.s))) S.m)))) (by kernel_rfl) ⟨congrArg _ (by rw [wrap3 (sg1_3 _ _ _) (sg1_3 _ _ _)]; unfold Sn.sg; grind), rfl⟩ ent0
theorem p_xless (x : Sw) {S : Sn} [Has (SF x) (L, S) Γ] (u : Sl) (e : Bool) {q : Int} [Has (ZF u e) (M, q) Γ] (hL : L ≤ 4000 := by omega) (hM : M ≤ 4000 := by omega) :
    PCalls tb Tryz.prog 110 [sv x, zv u e] Γ (IsV (.bool (decide ((S.lessq q).sg < 0)))) := by
  refine PCalls.of_W tbOk Tryz.func110 rfl (by kernel_rfl) ?_
  refine W.sf x rfl ?_
  refine W.cl [] (by kernel_rfl) (p_qwhole u e) ?_
  rintro _ _ ⟨n1, a1, m1, b1, rfl, rfl⟩   -- (q : Rat)
  refine W.cl [] (by kernel_rfl) (p_qsub x.p.n x.p.a x.p.m x.p.b n1 a1 m1 b1) ?_
  rintro _ _ ⟨n2, a2, m2, b2, rfl, rfl⟩   -- (S.p - (q : Rat))
  refine W.cx [] (by kernel_rfl) (entS (x := ⟨x.u, x.d, x.v, x.e, ⟨n2, a2, m2, b2⟩, x.q, x.r, x.s⟩) (L' := L + max M 2 + 10) (S := (S.lessq q)) rfl rfl rfl rfl rfl rfl (by omega)) (p_xsign ⟨x.u, x.d, x.v, x.e, ⟨n2, a2, m2, b2⟩, x.q, x.r, x.s⟩) ?_
  rintro _ _ ⟨rfl, rfl⟩
  exact W.r [] (.bool (decide ((S.lessq q).sg < 0))) (by kernel_rfl) ⟨rfl, rfl⟩ ent0
set_option maxHeartbeats 1000000 in
theorem p_xabout (n : Sl) (a : Bool) (m : Sl) (b : Bool) (u : Sl) (e : Bool) (k : Int) (hk : k = 8) {x : Rat} {r : Int} [Has (QF n a m b) (L, x) Γ] [hr : Has (ZF u e) (M, r) Γ] (hL : L ≤ 600 := by omega) (hM : M ≤ 700 := by omega) :
    PCalls tb Tryz.prog 109 [qv n a m b, zv u e, .int .i64 k] Γ (ZPost (2 * L + M + 10) (qab x r 8)) := by
  subst hk
  refine PCalls.of_W tbOk Tryz.func109 rfl (by kernel_rfl) ?_
  refine W.cl [] (by kernel_rfl) (p_qnum n a m b) ?_
  rintro _ _ ⟨u1, d1, rfl, rfl⟩
  refine W.cl [] (by kernel_rfl) (p_zabs u1 d1) ?_
  rintro _ _ ⟨rfl, rfl⟩
  refine W.cl [] (by kernel_rfl) (p_qnum n a m b) ?_
  rintro _ _ ⟨u3, d3, rfl, rfl⟩
  refine W.cl [] (by kernel_rfl) (p_zabs u3 d3) ?_
  rintro _ _ ⟨rfl, rfl⟩
  refine W.cl [] (by kernel_rfl) (p_mul u1 u3) ?_
  rintro _ _ ⟨u5, rfl, rfl⟩
  refine W.cl [] (by kernel_rfl) (p_zabs u e) ?_
  rintro _ _ ⟨rfl, rfl⟩
  refine W.cl [] (by kernel_rfl) (p_mul u5 u) ?_
  rintro _ _ ⟨u7, rfl, rfl⟩
  refine W.cl [] (by kernel_rfl) (p_up u7 16 (by omega)) ?_
  rintro _ _ ⟨u8, rfl, rfl⟩
  refine W.cl [] (by kernel_rfl) (p_root u8) ?_
  rintro _ _ ⟨u9, t9, rfl, rfl⟩
  refine W.cl [] (by kernel_rfl) (p_zbig u9) ?_
  rintro _ _ ⟨u10, d10, rfl, rfl⟩
  refine W.cl [] (by kernel_rfl) (p_qden n a m b) ?_
  rintro _ _ ⟨u11, d11, rfl, rfl⟩
  refine W.cl [] (by kernel_rfl) (p_zfloor u10 d10 u11 d11 (by have := den_pos' x; omega)) ?_
  rintro _ _ ⟨u12, d12, v12, e12, rfl, rfl⟩
  refine W.cl [] (by kernel_rfl) (p_qsign n a m b) ?_
  rintro _ _ ⟨rfl, rfl⟩
  refine W.d [] 46 (decide (x.num.sign < 0)) (by kernel_rfl) (fun hb => ?_) (fun hb => ?_)
  · refine W.cl [46] (by kernel_rfl) (p_zneg u12 d12) ?_
    rintro _ _ ⟨u14, d14, rfl, rfl⟩
    exact W.r [] (zv u14 d14) (by kernel_rfl) ⟨_, _, rfl, rfl⟩ (entZ (by omega) (by unfold qab; simp only; rw [if_pos (of_decide_eq_true hb)]))
  · exact W.r [46] (zv u12 d12) (by kernel_rfl) ⟨_, _, rfl, rfl⟩ (entZ (by omega) (by unfold qab; simp only; rw [if_neg (of_decide_eq_false hb)]))
set_option maxHeartbeats 4000000 in
theorem p_xfloor (x : Sw) {S : Sn} [Has (SF x) (L, S) Γ] (hf : S.floors = true) (hL : L ≤ 300 := by omega) :
    PCalls tb Tryz.prog 87 [sv x] Γ (ZPost (10 * L + 200) S.low) := by
  refine PCalls.of_W tbOk Tryz.func87 rfl (by kernel_rfl) ?_
  simp only [Sn.floors, Bool.and_eq_true, Bool.not_eq_true', decide_eq_true_eq, decide_eq_false_iff_not] at hf
  have hlow : S.low = ((((0 + (qab S.p 1 8)) + (qab S.q S.m 8)) + (qab S.r S.n 8)) + (qab S.s (S.m * S.n) 8)) / 256 := rfl
  refine W.more rfl (entZnil (L' := 0)) ?_
  refine W.sf x rfl ?_
  refine W.cl [] (by kernel_rfl) (p_zof 1 (by omega) (by omega)) ?_
  rintro _ _ ⟨u1, d1, rfl, rfl⟩   -- 1
  refine W.cl [] (by kernel_rfl) (p_zmul x.u x.d x.v x.e) ?_
  rintro _ _ ⟨u2, d2, rfl, rfl⟩   -- (S.m * S.n)
  refine W.unr [] 6 (by kernel_rfl) ?_
  refine W.cl [30] (by kernel_rfl) (p_xabout x.p.n x.p.a x.p.m x.p.b u1 d1 8 rfl) ?_
  rintro _ _ ⟨u3, d3, rfl, rfl⟩   -- (qab S.p 1 8)
  refine W.cl [] (by kernel_rfl) (p_zadd ⟨none, 0, 0⟩ false u3 d3) ?_
  rintro _ _ ⟨u4, d4, rfl, rfl⟩   -- (0 + (qab S.p 1 8))
  refine W.cl [30] (by kernel_rfl) (p_xabout x.q.n x.q.a x.q.m x.q.b x.u x.d 8 rfl) ?_
  rintro _ _ ⟨u5, d5, rfl, rfl⟩   -- (qab S.q S.m 8)
  refine W.cl [] (by kernel_rfl) (p_zadd u4 d4 u5 d5) ?_
  rintro _ _ ⟨u6, d6, rfl, rfl⟩   -- ((0 + (qab S.p 1 8)) + (qab S.q S.m 8))
  refine W.cl [30] (by kernel_rfl) (p_xabout x.r.n x.r.a x.r.m x.r.b x.v x.e 8 rfl) ?_
  rintro _ _ ⟨u7, d7, rfl, rfl⟩   -- (qab S.r S.n 8)
  refine W.cl [] (by kernel_rfl) (p_zadd u6 d6 u7 d7) ?_
  rintro _ _ ⟨u8, d8, rfl, rfl⟩   -- (((0 + (qab S.p 1 8)) + (qab S.q S.m 8)) + (qab S.r S.n 8))
  refine W.cl [30] (by kernel_rfl) (p_xabout x.s.n x.s.a x.s.m x.s.b u2 d2 8 rfl) ?_
  rintro _ _ ⟨u9, d9, rfl, rfl⟩   -- (qab S.s (S.m * S.n) 8)
  refine W.cl [] (by kernel_rfl) (p_zadd u8 d8 u9 d9) ?_
  rintro _ _ ⟨u10, d10, rfl, rfl⟩   -- ((((0 + (qab S.p 1 8)) + (qab S.q S.m 8)) + (qab S.r S.n 8)) + (qab S.s (S.m * S.n) 8))
  refine W.cl [30] (by kernel_rfl) (p_zof 256 (by omega) (by omega)) ?_
  rintro _ _ ⟨u11, d11, rfl, rfl⟩   -- 256
  refine W.cl [] (by kernel_rfl) (p_zfloor u10 d10 u11 d11 (by omega)) ?_
  rintro _ _ ⟨u12, d12, v12, e12, rfl, rfl⟩   -- (((((0 + (qab S.p 1 8)) + (qab S.q S.m 8)) + (qab S.r S.n 8)) + (qab S.s (S.m * S.n) 8)) / 256) (((((0 + (qab S.p 1 8)) + (qab S.q S.m 8)) + (qab S.r S.n 8)) + (qab S.s (S.m * S.n) 8)) % 256)
  refine W.unr [] 6 (by kernel_rfl) ?_
  refine W.cl [] (by kernel_rfl) (p_xless x u12 d12) ?_
  rintro _ _ ⟨rfl, rfl⟩
  refine W.df [] 50 ((decide ((S.lessq (((((0 + (qab S.p 1 8)) + (qab S.q S.m 8)) + (qab S.r S.n 8)) + (qab S.s (S.m * S.n) 8)) / 256)).sg < 0))) (by kernel_rfl) (by rw [decide_eq_false_iff_not, ← hlow]; exact hf.1) ?_
  refine W.unr [50] 6 (by kernel_rfl) ?_
  refine W.cl [] (by kernel_rfl) (p_zadd u12 d12 u1 d1) ?_
  rintro _ _ ⟨u14, d14, rfl, rfl⟩   -- ((((((0 + (qab S.p 1 8)) + (qab S.q S.m 8)) + (qab S.r S.n 8)) + (qab S.s (S.m * S.n) 8)) / 256) + 1)
  refine W.cl [] (by kernel_rfl) (p_xless x u14 d14) ?_
  rintro _ _ ⟨rfl, rfl⟩
  refine W.df [] 59 (!(decide ((S.lessq ((((((0 + (qab S.p 1 8)) + (qab S.q S.m 8)) + (qab S.r S.n 8)) + (qab S.s (S.m * S.n) 8)) / 256) + 1)).sg < 0))) (by kernel_rfl) (by rw [Bool.not_eq_false', decide_eq_true_eq, ← hlow]; exact hf.2) ?_
  exact W.r [59] (zv u12 d12) (by kernel_rfl) ⟨_, _, rfl, rfl⟩ (entZ (by omega) rfl)
end
end Go.Proofs.YtlpfkbkpnljieaaGreat

set_option linter.unusedSimpArgs false
set_option linter.unusedVariables false
namespace Go.Proofs.YtlpfkbkpnljieaaGreat
open Go.RowKit Go.IntWalk

def qAt (l : List QE) (i : Nat) : Qw := match l[i]? with
  | some e => ⟨e.n, e.nb, e.d, e.db⟩
  | none => nilQ
def rAt (l : List QE) (i : Nat) : Rat := match l[i]? with
  | some e => e.q
  | none => 0
theorem qAt_fact {l : List QE} {L L' : Nat} {I : Blk} {w : World} (hd : DataOK tb I w) (h : ∀ e ∈ l, (QR.fact L e).p I w) (hL : L ≤ L') (i : Nat) : (QG (qAt l i) (L', rAt l i)).p I w := by
  unfold qAt rAt
  cases hi : l[i]? with
  | none => exact (entQ0 (Γ := []) (L' := L') I w hd (Holds.nil _ _)).h0'
  | some e =>
    have := h e (List.mem_of_getElem? hi)
    exact QF.up2 this hL

section
variable {fin : VS → List Fact → Prop} {Γ : List Fact} {L M K : Nat}

set_option maxHeartbeats 2000000 in
theorem p_xof (u : Sl) (d : Bool) (v : Sl) (e : Bool) (ao : Option Addr) (n c : Nat) {l : List QE} {p q : Int} [hu : Has (ZF u d) (L, p) Γ] [hv : Has (ZF v e) (M, q) Γ] [h : Has (OL QR ao) (K, l) Γ] (hn : n = l.length) (hl : n ≤ 4) (hp : 0 ≤ p) (hq : 0 ≤ q)
    (hL : L ≤ 100000 := by omega) (hM : M ≤ 100000 := by omega) :
    PCalls tb Tryz.prog 74 [zv u d, zv v e, .slice ao n c] Γ (SOk (max (max L M) K) ⟨p, q, rAt l 0, rAt l 1, rAt l 2, rAt l 3⟩) := by
  subst hn
  refine PCalls.of_W tbOk Tryz.func74 rfl (by kernel_rfl) ?_
  refine W.more (Δ := [RA ao (l.flatMap QR.cells)]) rfl (fun I w _ hh => holds1 (h.p hh).2) ?_
  refine W.know (l.flatMap QR.cells ≠ [] → ∃ b off, ao = some ⟨b, off, none⟩) rfl (fun I w _ hh hne => by
    obtain ⟨b, off, ha, _⟩ := (h.p (fun F hF => hh F (by simp [hF]))).2 hne
    exact ⟨b, off, ha⟩) (fun hao => ?_)
  refine W.cl [] (by kernel_rfl) (p_zsign u d) ?_
  rintro _ _ ⟨rfl, rfl⟩
  refine W.df [] 12 (decide ((p).sign < 0)) (by kernel_rfl) (by rw [decide_eq_false_iff_not, Int.sign_neg_iff]; omega) ?_
  refine W.cl [12] (by kernel_rfl) (p_zsign v e) ?_
  rintro _ _ ⟨rfl, rfl⟩
  refine W.df [12] 17 (decide ((q).sign < 0)) (by kernel_rfl) (by rw [decide_eq_false_iff_not, Int.sign_neg_iff]; omega) ?_
  refine W.df [17] 21 (decide (((l.length : Nat) : Int) > 4)) (by kernel_rfl) (by rw [decide_eq_false_iff_not]; omega) ?_
  refine W.rev 8 (by kernel_rfl) (fun b => ?_)
  refine W.fa [] 4 b 0 tbOk (by kernel_rfl) ?_
  refine W.sla [] 4 4 b 4 none none 0 4 tbOk (by kernel_rfl) (.inr ⟨rfl, rfl⟩) (.inr ⟨rfl, rfl⟩) (by decide) (by decide) (by decide) ?_
  have hone : ∀ z ∈ l.flatMap QR.cells, z.oneCell' = true := by
    intro z hz
    obtain ⟨e, _, hz⟩ := List.mem_flatMap.1 hz
    simp [QR] at hz
    rcases hz with rfl | rfl | rfl | rfl <;> rfl
  have hlen := row_len QR l
  have hz : QR.z = 4 := rfl
  refine W.cpy [] [(b, (sv ⟨u, d, v, e, nilQ, nilQ, nilQ, nilQ⟩).cells.toList)] [] [] 4 b 4 4 4 l.length (sv ⟨u, d, v, e, nilQ, nilQ, nilQ, nilQ⟩).cells.toList (.slice ao l.length c) (l.flatMap QR.cells) tbOk (by kernel_rfl) rfl
    (reads_ra ao _ l.length 4 c hlen (fun h0 => hao (by intro e; have h2 := congrArg List.length e; rw [hlen, hz] at h2; simp only [List.length_nil] at h2; omega))) hone hl (by rw [hlen, hz]; show _ ≤ 20; omega) ?_
  have key : ∀ (X : Sw), X = ⟨u, d, v, e, qAt l 0, qAt l 1, qAt l 2, qAt l 3⟩ → ((((sv ⟨u, d, v, e, nilQ, nilQ, nilQ, nilQ⟩).cells.toList.take 4 ++ l.flatMap QR.cells ++ (sv ⟨u, d, v, e, nilQ, nilQ, nilQ, nilQ⟩).cells.toList.drop (4 + (l.flatMap QR.cells).length)).drop 0).take 20 = (sv X).cells.toList) := by
    rintro X rfl
    rcases l with _ | ⟨e0, _ | ⟨e1, _ | ⟨e2, _ | ⟨e3, _ | ⟨e4, l⟩⟩⟩⟩⟩
    · rfl
    · rfl
    · rfl
    · rfl
    · rfl
    · simp at hl
  refine W.ldo [] ([] ++ (b, (sv ⟨u, d, v, e, nilQ, nilQ, nilQ, nilQ⟩).cells.toList.take 4 ++ l.flatMap QR.cells ++ (sv ⟨u, d, v, e, nilQ, nilQ, nilQ, nilQ⟩).cells.toList.drop (4 + (l.flatMap QR.cells).length)) :: []) b 0 20 _ (sv ⟨u, d, v, e, qAt l 0, qAt l 1, qAt l 2, qAt l 3⟩).cells.toList tbOk (by kernel_rfl) (by simp) (key _ rfl) rfl ?_
  exact W.r [] (.tuple #[sv ⟨u, d, v, e, qAt l 0, qAt l 1, qAt l 2, qAt l 3⟩, .int .i64 0]) (by kernel_rfl) ⟨_, rfl, rfl⟩ (fun I w hd hh => by
    have f1 := Has.p (k := ZF u d) (a := (L, p)) inferInstance hh
    have f2 := Has.p (k := ZF v e) (a := (M, q)) inferInstance hh
    have f3 := (Has.p (k := OL QR ao) (a := (K, l)) inferInstance hh).1
    exact holds1 ⟨ZF.up2 f1 (by omega), ZF.up2 f2 (by omega), qAt_fact hd f3 (by omega) 0, qAt_fact hd f3 (by omega) 1, qAt_fact hd f3 (by omega) 2, qAt_fact hd f3 (by omega) 3⟩)

set_option maxHeartbeats 2000000 in
theorem p_xnear (x : Sw) {S : Sn} [Has (SF x) (L, S) Γ] (hf : S.half.floors = true) (hL : L ≤ 280 := by omega) :
    PCalls tb Tryz.prog 58 [sv x] Γ (ZPost (10 * L + 500) S.near) := by
  refine PCalls.of_W tbOk Tryz.func58 rfl (by kernel_rfl) ?_
  refine W.sf x rfl ?_
  refine W.cl [] (by kernel_rfl) (p_qof 1 2 (by omega) (by omega) (by omega) (by omega) (by omega)) ?_
  rintro _ _ ⟨n1, a1, m1, b1, rfl, rfl⟩   -- (Rat.divInt 1 2)
  refine W.cl [] (by kernel_rfl) (p_qadd x.p.n x.p.a x.p.m x.p.b n1 a1 m1 b1) ?_
  rintro _ _ ⟨n2, a2, m2, b2, rfl, rfl⟩   -- (S.p + (Rat.divInt 1 2))
  refine W.cx [] (by kernel_rfl) (entS (x := ⟨x.u, x.d, x.v, x.e, ⟨n2, a2, m2, b2⟩, x.q, x.r, x.s⟩) (L' := L + 10) (S := S.half) rfl rfl rfl rfl rfl rfl (by omega)) (p_xfloor ⟨x.u, x.d, x.v, x.e, ⟨n2, a2, m2, b2⟩, x.q, x.r, x.s⟩ hf) ?_
  rintro _ _ ⟨u3, d3, rfl, rfl⟩   -- S.half.low
  refine W.cl [] (by kernel_rfl) (p_qwhole u3 d3) ?_
  rintro _ _ ⟨n4, a4, m4, b4, rfl, rfl⟩   -- (S.half.low : Rat)
  refine W.cl [] (by kernel_rfl) (p_qsub n2 a2 m2 b2 n4 a4 m4 b4) ?_
  rintro _ _ ⟨n5, a5, m5, b5, rfl, rfl⟩   -- ((S.p + (Rat.divInt 1 2)) - (S.half.low : Rat))
  refine W.cl [] (by kernel_rfl) (p_zof 2 (by omega) (by omega)) ?_
  rintro _ _ ⟨u6, d6, rfl, rfl⟩   -- 2
  refine W.cl [] (by kernel_rfl) (p_zfloor u3 d3 u6 d6 (by omega)) ?_
  rintro _ _ ⟨u7, d7, v7, e7, rfl, rfl⟩   -- (S.half.low / 2) (S.half.low % 2)
  refine W.cx [] (by kernel_rfl) (entS (x := ⟨x.u, x.d, x.v, x.e, ⟨n5, a5, m5, b5⟩, x.q, x.r, x.s⟩) (L' := 12 * L + 400) (S := (S.half.lessq S.half.low)) rfl rfl rfl rfl rfl rfl (by omega)) (p_xsign ⟨x.u, x.d, x.v, x.e, ⟨n5, a5, m5, b5⟩, x.q, x.r, x.s⟩) ?_
  rintro _ _ ⟨rfl, rfl⟩
  refine W.d [] 42 ((S.half.lessq S.half.low).sg == 0) (by kernel_rfl) (fun hb => ?_) (fun hb => ?_)
  · have hb' := hb
    refine W.cl [42] (by kernel_rfl) (p_zsign v7 e7) ?_
    rintro _ _ ⟨rfl, rfl⟩
    refine W.d [42] 46 (((S.half.low % 2)).sign != 0) (by kernel_rfl) (fun hb => ?_) (fun hb => ?_)
    · skip
      refine W.cl [46] (by kernel_rfl) (p_zof 1 (by omega) (by omega)) ?_
      rintro _ _ ⟨u10, d10, rfl, rfl⟩   -- 1
      refine W.cl [] (by kernel_rfl) (p_zsub u3 d3 u10 d10) ?_
      rintro _ _ ⟨u11, d11, rfl, rfl⟩   -- (S.half.low - 1)
      exact W.r [] (zv u11 d11) (by kernel_rfl) ⟨_, _, rfl, rfl⟩ (entZ (by omega) (by unfold Sn.near; rw [if_pos ⟨eq_of_beq hb', fun h => by rw [h] at hb; simp at hb⟩]))
    · skip
      exact W.r [46] (zv u3 d3) (by kernel_rfl) ⟨_, _, rfl, rfl⟩ (entZ (by omega) (by unfold Sn.near; rw [if_neg (fun h => h.2 (by simpa using hb))]))
  · skip
    exact W.r [46, 42] (zv u3 d3) (by kernel_rfl) ⟨_, _, rfl, rfl⟩ (entZ (by omega) (by unfold Sn.near; rw [if_neg (fun h => ne_of_beq_false hb h.1)]))
end
end Go.Proofs.YtlpfkbkpnljieaaGreat

set_option linter.unusedSimpArgs false
set_option linter.unusedVariables false
namespace Go.Proofs.YtlpfkbkpnljieaaGreat
open Go.RowKit Go.IntWalk

def Tw.set (Y : Tw) (i : Nat) (P : Pw) : Tw := match i with
  | 0 => ⟨Y.d, Y.u, Y.e, Y.v, P, Y.q, Y.r, Y.s⟩
  | 1 => ⟨Y.d, Y.u, Y.e, Y.v, Y.p, P, Y.r, Y.s⟩
  | 2 => ⟨Y.d, Y.u, Y.e, Y.v, Y.p, Y.q, P, Y.s⟩
  | _ => ⟨Y.d, Y.u, Y.e, Y.v, Y.p, Y.q, Y.r, P⟩
def Sn.set (S : Sn) (i : Nat) (x : Rat) : Sn := match i with
  | 0 => ⟨S.m, S.n, x, S.q, S.r, S.s⟩
  | 1 => ⟨S.m, S.n, S.p, x, S.r, S.s⟩
  | 2 => ⟨S.m, S.n, S.p, S.q, x, S.s⟩
  | _ => ⟨S.m, S.n, S.p, S.q, S.r, x⟩
theorem wf64 {a : Int} (h : (Lit.int .i64 a).wf = true) : -9223372036854775808 ≤ a ∧ a < 9223372036854775808 := by
  have : -9223372036854775808 ≤ a ∧ a ≤ 9223372036854775807 := by simpa [Lit.wf, IntKind.min, IntKind.max, IntKind.signed, IntKind.bits] using h
  omega
section
variable {fin : VS → List Fact → Prop} {Γ : List Fact} {L M K : Nat}
theorem PCalls.entH {f : FuncId} {args : List Value} {Γ : List Fact} {post post' : Value → List Fact → Prop} (h : PCalls tb Tryz.prog f args Γ post) (hp : ∀ v Δ, post v Δ → ∃ Δ', post' v Δ' ∧ ∀ I w, Holds Δ I w → Holds Δ' I w) : PCalls tb Tryz.prog f args Γ post' :=
  ⟨h.1, fun I w hd hh => (h.2 I w hd hh).mono fun _ _ ⟨v, Δ, h1, h2, h3, h4⟩ => by
    obtain ⟨Δ', g1, g2⟩ := hp v Δ h2
    exact ⟨v, Δ', h1, g1, h3, g2 _ _ h4⟩⟩
end
end Go.Proofs.YtlpfkbkpnljieaaGreat
