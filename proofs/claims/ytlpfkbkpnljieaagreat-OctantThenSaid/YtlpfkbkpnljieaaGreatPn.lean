/- Numbers as facts that last; the contracts of nat and of its reference, with facts. -/
import Derived.Test.YtlpfkbkpnljieaaGreatTb
import Derived.Test.YtlpfkbkpnljieaaGreatVm
import Derived.Test.YtlpfkbkpnljieaaGreatNatU
import Derived.Test.YtlpfkbkpnljieaaGreatNatV
import Derived.Test.YtlpfkbkpnljieaaGreatNatX
import Derived.Test.YtlpfkbkpnljieaaGreatRefU
import Derived.Test.YtlpfkbkpnljieaaGreatRefX
set_option linter.unusedSimpArgs false
set_option linter.unusedVariables false
namespace Go.Proofs.YtlpfkbkpnljieaaGreat
open Go.RowKit

/-- The blocks of a slice stand in the set. -/
def SlIn (I : Blk) (s : Sl) : Prop := 0 < s.n → ∀ b off sp, s.ao = some ⟨b, off, sp⟩ → I b

theorem IntsAt.blk {I I' : Blk} {w w' : World} {T : TypeId} {k : IntKind} {s : Sl} {l : List Nat} (h : IntsAt w T k s l) (hi : SlIn I s) (h1 : ∀ b, b < w.heap.size → I b → I' b) (h2 : ∀ b, b < w.heap.size → I b → w'.heap[b]? = w.heap[b]?) : IntsAt w' T k s l ∧ SlIn I' s := by
  obtain ⟨g1, g2, g3, g4⟩ := h
  refine ⟨⟨g1, g2, g3, fun hp => ?_⟩, fun hp b off sp ha => ?_⟩
  · obtain ⟨b, off, cur, ha, hb, hr⟩ := g4 hp
    exact ⟨b, off, cur, ha, by rw [h2 b (lt_of_some hb) (hi hp b off none ha)]; exact hb, hr⟩
  · obtain ⟨b', off', cur, ha', hb, hr⟩ := g4 hp
    have hI := hi hp b off sp ha
    rw [ha] at ha'
    injection ha' with ha'
    injection ha' with e1 _ _
    subst e1
    exact h1 b (lt_of_some hb) hI

theorem IntsAt.data {I : Blk} {w w' : World} {T : TypeId} {k : IntKind} {s : Sl} {l : List Nat} (h : IntsAt w' T k s l) (hT : tb.dat T = true) (hd : DataOK tb I w) (hb : Below w.heap.size w w') : SlIn (fun b => b < w.heap.size → I b) s := by
  intro hp b off sp ha hlt
  obtain ⟨_, _, _, g4⟩ := h
  obtain ⟨b', off', cur, ha', hb', hr⟩ := g4 hp
  rw [ha] at ha'
  injection ha' with ha'
  injection ha' with e1 _ _
  subst e1
  exact hd b cur T (0, 0) (by rw [← hb.block b hlt]; exact hb') hT

/-- A number of nat, of at most L limbs. -/
def NF (s : Sl) (a : Nat × Nat) : Fact where
  p I w := NatS w s a.2 ∧ SlIn I s ∧ s.n ≤ a.1
  up := by
    rintro I I' w w' ⟨⟨l, h, hr⟩, hi, hl⟩ h1 h2 _
    obtain ⟨g1, g2⟩ := h.blk hi h1 h2
    exact ⟨⟨l, g1, hr⟩, g2, hl⟩

/-- A number of the reference, of at most L digits. -/
def RF (s : Sl) (a : Nat × Nat) : Fact where
  p I w := RefS w s a.2 ∧ SlIn I s ∧ s.n ≤ a.1
  up := by
    rintro I I' w w' ⟨⟨l, h, hr⟩, hi, hl⟩ h1 h2 _
    obtain ⟨g1, g2⟩ := h.blk hi h1 h2
    exact ⟨⟨l, g1, hr⟩, g2, hl⟩

/-- A whole number of zed. -/
def ZF (s : Sl) (b : Bool) (a : Nat × Int) : Fact where
  p I w := (NF s (a.1, a.2.natAbs)).p I w ∧ b = decide (a.2 < 0)
  up h h1 h2 h3 := ⟨(NF s (_, _)).up h.1 h1 h2 h3, h.2⟩

/-- A whole number of the reference. -/
def YF (S : Int) (s : Sl) (a : Nat × Int) : Fact where
  p I w := (RF s (a.1, a.2.natAbs)).p I w ∧ S = a.2.sign
  up h h1 h2 h3 := ⟨(RF s (_, _)).up h.1 h1 h2 h3, h.2⟩

abbrev mv (s : Sl) : Value := .agg #[.slice s.ao s.n s.c]
abbrev zv (s : Sl) (b : Bool) : Value := .agg #[.slice s.ao s.n s.c, .bool b]
abbrev yv (S : Int) (s : Sl) : Value := .agg #[.int .i64 S, .slice s.ao s.n s.c]

def NPost (L x : Nat) (v : Value) (Δ : List Fact) : Prop := ∃ u : Sl, v = mv u ∧ Δ = [NF u (L, x)]
def RPost (L x : Nat) (v : Value) (Δ : List Fact) : Prop := ∃ u : Sl, v = mv u ∧ Δ = [RF u (L, x)]
def ZPost (L : Nat) (x : Int) (v : Value) (Δ : List Fact) : Prop := ∃ (u : Sl) (d : Bool), v = zv u d ∧ Δ = [ZF u d (L, x)]
def YPost (L : Nat) (x : Int) (v : Value) (Δ : List Fact) : Prop := ∃ (S : Int) (u : Sl), v = yv S u ∧ Δ = [YF S u (L, x)]
def IsV (x : Value) (v : Value) (Δ : List Fact) : Prop := v = x ∧ Δ = []

theorem datU : tb.dat 149 = true := by kernel_rfl
theorem datI : tb.dat 3 = true := by kernel_rfl

theorem NatS.fact {I : Blk} {w w' : World} {s : Sl} {x L : Nat} (h : NatS w' s x) (hd : DataOK tb I w) (hb : Below w.heap.size w w') (hl : s.n ≤ L) : (NF s (L, x)).p (fun b => b < w.heap.size → I b) w' := by
  obtain ⟨l, g, hr⟩ := h
  exact ⟨⟨l, g, hr⟩, g.data datU hd hb, hl⟩
theorem RefS.fact {I : Blk} {w w' : World} {s : Sl} {x L : Nat} (h : RefS w' s x) (hd : DataOK tb I w) (hb : Below w.heap.size w w') (hl : s.n ≤ L) : (RF s (L, x)).p (fun b => b < w.heap.size → I b) w' := by
  obtain ⟨l, g, hr⟩ := h
  exact ⟨⟨l, g, hr⟩, g.data datI hd hb, hl⟩

theorem Holds.h0' {F : Fact} {Γ : List Fact} {I : Blk} {w : World} (h : Holds (F :: Γ) I w) : F.p I w := h F (by simp)
theorem holds1 {F : Fact} {I : Blk} {w : World} (h : F.p I w) : Holds [F] I w := Holds.cons h (Holds.nil _ _)

section
variable {Γ : List Fact} {L M x y : Nat}

theorem entZ {s : Sl} {b : Bool} {L' : Nat} {x x' : Int} [h : Has (ZF s b) (L, x) Γ] (hL : L ≤ L') (hx : x = x') : ∀ (I : Blk) (w : World), DataOK tb I w → Holds Γ I w → Holds [ZF s b (L', x')] I w := fun I w _ hh => by
  subst hx
  obtain ⟨⟨h1, h2, h3⟩, h4⟩ := h.p hh
  exact holds1 ⟨⟨h1, h2, Nat.le_trans h3 hL⟩, h4⟩
theorem entY {s : Sl} {b : Int} {L' : Nat} {x x' : Int} [h : Has (YF b s) (L, x) Γ] (hL : L ≤ L') (hx : x = x') : ∀ (I : Blk) (w : World), DataOK tb I w → Holds Γ I w → Holds [YF b s (L', x')] I w := fun I w _ hh => by
  subst hx
  obtain ⟨⟨h1, h2, h3⟩, h4⟩ := h.p hh
  exact holds1 ⟨⟨h1, h2, Nat.le_trans h3 hL⟩, h4⟩
theorem NFnil (I : Blk) (w : World) : (NF ⟨none, 0, 0⟩ (0, 0)).p I w := ⟨NatS.nil w none 0 (by omega), fun h => absurd h (by simp), Nat.le_refl 0⟩
theorem RFnil (I : Blk) (w : World) : (RF ⟨none, 0, 0⟩ (0, 0)).p I w := ⟨RefS.nil w none 0 (by omega), fun h => absurd h (by simp), Nat.le_refl 0⟩

theorem p_add (s t : Sl) [ha : Has (NF s) (L, x) Γ] [hc : Has (NF t) (M, y) Γ] (hL : L ≤ 1000000000000 := by omega) (hM : M ≤ 1000000000000 := by omega) :
    PCalls tb Tryz.prog 124 [mv s, mv t] Γ (NPost (max L M + 1) (x + y)) :=
  ⟨⟨_, Tryz.func124, by kernel_rfl, by kernel_rfl⟩, fun I w hd hh => by
    obtain ⟨h1, h2, h3⟩ := ha.p hh
    obtain ⟨g1, g2, g3⟩ := hc.p hh
    refine (add_spec h1 g1 (Nat.le_trans h3 hL) (Nat.le_trans g3 hM)).mono ?_
    rintro e w' ⟨u, rfl, hu, hn, hb⟩
    exact ⟨_, _, rfl, ⟨u, rfl, rfl⟩, hb, holds1 (hu.fact hd hb (by simp only at h3 g3 ⊢; omega))⟩⟩

theorem p_mul (s t : Sl) [ha : Has (NF s) (L, x) Γ] [hc : Has (NF t) (M, y) Γ] (hL : L ≤ 1000000000000 := by omega) (hM : M ≤ 1000000000000 := by omega) :
    PCalls tb Tryz.prog 93 [mv s, mv t] Γ (NPost (L + M) (x * y)) :=
  ⟨⟨_, Tryz.func93, by kernel_rfl, by kernel_rfl⟩, fun I w hd hh => by
    obtain ⟨h1, h2, h3⟩ := ha.p hh
    obtain ⟨g1, g2, g3⟩ := hc.p hh
    refine (mul_spec h1 g1 (Nat.le_trans h3 hL) (Nat.le_trans g3 hM)).mono ?_
    rintro e w' ⟨u, rfl, hu, hn, hb⟩
    exact ⟨_, _, rfl, ⟨u, rfl, rfl⟩, hb, holds1 (hu.fact hd hb (by simp only at h3 g3 ⊢; omega))⟩⟩

theorem p_gcd (s t : Sl) [ha : Has (NF s) (L, x) Γ] [hc : Has (NF t) (M, y) Γ] (hL : L ≤ 100000000000 := by omega) (hM : M ≤ 100000000000 := by omega) :
    PCalls tb Tryz.prog 97 [mv s, mv t] Γ (NPost (max L M) (Nat.gcd x y)) :=
  ⟨⟨_, Tryz.func97, by kernel_rfl, by kernel_rfl⟩, fun I w hd hh => by
    obtain ⟨h1, h2, h3⟩ := ha.p hh
    obtain ⟨g1, g2, g3⟩ := hc.p hh
    refine (gcd_spec h1 g1 (Nat.le_trans h3 hL) (Nat.le_trans g3 hM)).mono ?_
    rintro e w' ⟨u, rfl, hu, hn, hb⟩
    exact ⟨_, _, rfl, ⟨u, rfl, rfl⟩, hb, holds1 (hu.fact hd hb (by simp only at h3 g3 ⊢; omega))⟩⟩

theorem p_cmp (s t : Sl) [ha : Has (NF s) (L, x) Γ] [hc : Has (NF t) (M, y) Γ] (hL : L ≤ 1000000000000 := by omega) (hM : M ≤ 1000000000000 := by omega) :
    PCalls tb Tryz.prog 94 [mv s, mv t] Γ (IsV (.int .i64 (cmpN x y))) :=
  ⟨⟨_, Tryz.func94, by kernel_rfl, by kernel_rfl⟩, fun I w hd hh => by
    obtain ⟨h1, h2, h3⟩ := ha.p hh
    obtain ⟨g1, g2, g3⟩ := hc.p hh
    refine (cmp_spec h1 g1 (Nat.le_trans h3 hL) (Nat.le_trans g3 hM)).mono ?_
    rintro e w' ⟨rfl, hb⟩
    exact ⟨_, _, rfl, ⟨rfl, rfl⟩, hb, Holds.nil _ _⟩⟩

theorem p_sub_ge (s t : Sl) [ha : Has (NF s) (L, x) Γ] [hc : Has (NF t) (M, y) Γ] (hxy : y ≤ x) (hL : L ≤ 1000000000000 := by omega) (hM : M ≤ 1000000000000 := by omega) :
    PCalls tb Tryz.prog 125 [mv s, mv t] Γ (fun v Δ => ∃ u : Sl, v = .tuple #[mv u, .int .i64 0] ∧ Δ = [NF u (L, x - y)]) :=
  ⟨⟨_, Tryz.func125, by kernel_rfl, by kernel_rfl⟩, fun I w hd hh => by
    obtain ⟨h1, h2, h3⟩ := ha.p hh
    obtain ⟨g1, g2, g3⟩ := hc.p hh
    refine (sub_ge h1 g1 (Nat.le_trans h3 hL) (Nat.le_trans g3 hM) hxy).mono ?_
    rintro e w' ⟨u, rfl, hu, hn, hb⟩
    exact ⟨_, _, rfl, ⟨u, rfl, rfl⟩, hb, holds1 (hu.fact hd hb (by simp only at h3 ⊢; omega))⟩⟩

theorem p_sub_lt (s t : Sl) [ha : Has (NF s) (L, x) Γ] [hc : Has (NF t) (M, y) Γ] (hxy : x < y) (hL : L ≤ 1000000000000 := by omega) (hM : M ≤ 1000000000000 := by omega) :
    PCalls tb Tryz.prog 125 [mv s, mv t] Γ (IsV (.tuple #[mv ⟨none, 0, 0⟩, .int .i64 4])) :=
  ⟨⟨_, Tryz.func125, by kernel_rfl, by kernel_rfl⟩, fun I w hd hh => by
    obtain ⟨h1, h2, h3⟩ := ha.p hh
    obtain ⟨g1, g2, g3⟩ := hc.p hh
    refine (sub_lt h1 g1 (Nat.le_trans h3 hL) (Nat.le_trans g3 hM) hxy).mono ?_
    rintro e w' ⟨rfl, hb⟩
    exact ⟨_, _, rfl, ⟨rfl, rfl⟩, hb, Holds.nil _ _⟩⟩

theorem p_div (s t : Sl) [ha : Has (NF s) (L, x) Γ] [hc : Has (NF t) (M, y) Γ] (hy : 0 < y) (hL : L ≤ 100000000000 := by omega) (hM : M ≤ 100000000000 := by omega) :
    PCalls tb Tryz.prog 111 [mv s, mv t] Γ (fun v Δ => ∃ u t : Sl, v = .tuple #[mv u, mv t, .int .i64 0] ∧ Δ = [NF u (L, x / y), NF t (min L M, x % y)]) :=
  ⟨⟨_, Tryz.func111, by kernel_rfl, by kernel_rfl⟩, fun I w hd hh => by
    obtain ⟨h1, h2, h3⟩ := ha.p hh
    obtain ⟨g1, g2, g3⟩ := hc.p hh
    refine (div_spec h1 g1 (Nat.le_trans h3 hL) (Nat.le_trans g3 hM) hy).mono ?_
    rintro e w' ⟨u, v, rfl, hu, hv, hn, hn1, hn2, hb⟩
    exact ⟨_, _, rfl, ⟨u, v, rfl, rfl⟩, hb, Holds.cons (hu.fact hd hb (by simp only at h3 ⊢; omega)) (holds1 (hv.fact hd hb (by simp only at h3 g3 ⊢; omega)))⟩⟩

theorem p_bits (s : Sl) [ha : Has (NF s) (L, x) Γ] (hL : L ≤ 1000000000000 := by omega) :
    PCalls tb Tryz.prog 80 [mv s] Γ (IsV (.int .i64 ((bl x : Nat) : Int))) :=
  ⟨⟨_, Tryz.func80, by kernel_rfl, by kernel_rfl⟩, fun I w hd hh => by
    obtain ⟨h1, h2, h3⟩ := ha.p hh
    refine (bits_spec h1 (Nat.le_trans h3 hL)).mono ?_
    rintro e w' ⟨rfl, hb⟩
    exact ⟨_, _, rfl, ⟨rfl, rfl⟩, hb, Holds.nil _ _⟩⟩

theorem p_text (s : Sl) [ha : Has (NF s) (L, x) Γ] (hL : L ≤ 1000000000000 := by omega) :
    PCalls tb Tryz.prog 101 [mv s] Γ (IsV (.string (txt (dec x)))) :=
  ⟨⟨_, Tryz.func101, by kernel_rfl, by kernel_rfl⟩, fun I w hd hh => by
    obtain ⟨h1, h2, h3⟩ := ha.p hh
    refine (text_spec h1 (Nat.le_trans h3 hL)).mono ?_
    rintro e w' ⟨rfl, hb⟩
    exact ⟨_, _, rfl, ⟨rfl, rfl⟩, hb, Holds.nil _ _⟩⟩

theorem p_word_big (s : Sl) [ha : Has (NF s) (L, x) Γ] (hx : 18446744073709551616 ≤ x) (hL : L ≤ 1000000000000 := by omega) :
    PCalls tb Tryz.prog 92 [mv s] Γ (IsV (.tuple #[.int .u64 0, .bool false])) :=
  ⟨⟨_, Tryz.func92, by kernel_rfl, by kernel_rfl⟩, fun I w hd hh => by
    obtain ⟨h1, h2, h3⟩ := ha.p hh
    refine (word_big h1 (Nat.le_trans h3 hL) hx).mono ?_
    rintro e w' ⟨rfl, hb⟩
    exact ⟨_, _, rfl, ⟨rfl, rfl⟩, hb, Holds.nil _ _⟩⟩

theorem p_word_small (s : Sl) [ha : Has (NF s) (L, x) Γ] (hx : x < 18446744073709551616) (hL : L ≤ 1000000000000 := by omega) :
    PCalls tb Tryz.prog 92 [mv s] Γ (IsV (.tuple #[.int .u64 (x : Int), .bool true])) :=
  ⟨⟨_, Tryz.func92, by kernel_rfl, by kernel_rfl⟩, fun I w hd hh => by
    obtain ⟨h1, h2, h3⟩ := ha.p hh
    refine (word_small h1 hx).mono ?_
    rintro e w' ⟨rfl, hb⟩
    exact ⟨_, _, rfl, ⟨rfl, rfl⟩, hb, Holds.nil _ _⟩⟩

theorem p_up (s : Sl) (k : Nat) [ha : Has (NF s) (L, x) Γ] (hk : k ≤ 65536) (hL : L ≤ 1000000000000 := by omega) :
    PCalls tb Tryz.prog 127 [mv s, .int .i64 (k : Int)] Γ (fun v Δ => ∃ u : Sl, v = .tuple #[mv u, .int .i64 0] ∧ Δ = [NF u (L + k / 32 + 1, x * 2 ^ k)]) :=
  ⟨⟨_, Tryz.func127, by kernel_rfl, by kernel_rfl⟩, fun I w hd hh => by
    obtain ⟨h1, h2, h3⟩ := ha.p hh
    refine (up_spec k h1 (Nat.le_trans h3 hL) hk).mono ?_
    rintro e w' ⟨u, rfl, hu, hn, hb⟩
    exact ⟨_, _, rfl, ⟨u, rfl, rfl⟩, hb, holds1 (hu.fact hd hb (by simp only at h3 ⊢; omega))⟩⟩

theorem p_of (x : Nat) (hx : x < 18446744073709551616) :
    PCalls tb Tryz.prog 57 [.int .u64 (x : Int)] Γ (NPost 2 x) :=
  ⟨⟨_, Tryz.func57, by kernel_rfl, by kernel_rfl⟩, fun I w hd hh => by
    refine (of_spec x w hx).mono ?_
    rintro e w' ⟨u, rfl, hu, hn, hb⟩
    exact ⟨_, _, rfl, ⟨u, rfl, rfl⟩, hb, holds1 (hu.fact hd hb (by omega))⟩⟩

theorem p_parse (s : ByteArray) (h : s.size ≤ 9223372036854775807) :
    PCalls tb Tryz.prog 49 [.string s] Γ (fun v Δ => ∃ u : Sl, v = .tuple #[mv u, .int .i64 (perr s)] ∧ Δ = [NF u (min s.size 4096, pval s)]) :=
  ⟨⟨_, Tryz.func49, by kernel_rfl, by kernel_rfl⟩, fun I w hd hh => by
    refine (parse_spec s w h).mono ?_
    rintro e w' ⟨u, rfl, hu, hn, hn2, hb⟩
    exact ⟨_, _, rfl, ⟨u, rfl, rfl⟩, hb, holds1 (hu.fact hd hb (by omega))⟩⟩

theorem r_add (s t : Sl) [ha : Has (RF s) (L, x) Γ] [hc : Has (RF t) (M, y) Γ] (hL : L ≤ 8000000000000 := by omega) (hM : M ≤ 8000000000000 := by omega) :
    PCalls tb Tryz.prog 45 [mv s, mv t] Γ (RPost (max L M + 1) (x + y)) :=
  ⟨⟨_, Tryz.func45, by kernel_rfl, by kernel_rfl⟩, fun I w hd hh => by
    obtain ⟨h1, h2, h3⟩ := ha.p hh
    obtain ⟨g1, g2, g3⟩ := hc.p hh
    refine (radd_spec h1 g1 (Nat.le_trans h3 hL) (Nat.le_trans g3 hM)).mono ?_
    rintro e w' ⟨u, rfl, hu, hn, hb⟩
    exact ⟨_, _, rfl, ⟨u, rfl, rfl⟩, hb, holds1 (hu.fact hd hb (by simp only at h3 g3 ⊢; omega))⟩⟩

theorem r_mul (s t : Sl) [ha : Has (RF s) (L, x) Γ] [hc : Has (RF t) (M, y) Γ] (hL : L ≤ 8000000000000 := by omega) (hM : M ≤ 8000000000000 := by omega) :
    PCalls tb Tryz.prog 104 [mv s, mv t] Γ (RPost (L + M) (x * y)) :=
  ⟨⟨_, Tryz.func104, by kernel_rfl, by kernel_rfl⟩, fun I w hd hh => by
    obtain ⟨h1, h2, h3⟩ := ha.p hh
    obtain ⟨g1, g2, g3⟩ := hc.p hh
    refine (rmul_spec h1 g1 (Nat.le_trans h3 hL) (Nat.le_trans g3 hM)).mono ?_
    rintro e w' ⟨u, rfl, hu, hn, hb⟩
    exact ⟨_, _, rfl, ⟨u, rfl, rfl⟩, hb, holds1 (hu.fact hd hb (by simp only at h3 g3 ⊢; omega))⟩⟩

theorem r_less (s t : Sl) [ha : Has (RF s) (L, x) Γ] [hc : Has (RF t) (M, y) Γ] (hxy : y ≤ x) (hL : L ≤ 8000000000000 := by omega) :
    PCalls tb Tryz.prog 118 [mv s, mv t] Γ (RPost L (x - y)) :=
  ⟨⟨_, Tryz.func118, by kernel_rfl, by kernel_rfl⟩, fun I w hd hh => by
    obtain ⟨h1, h2, h3⟩ := ha.p hh
    obtain ⟨g1, g2, g3⟩ := hc.p hh
    refine (rless_spec h1 g1 (Nat.le_trans h3 hL) hxy).mono ?_
    rintro e w' ⟨u, rfl, hu, hn, hb⟩
    exact ⟨_, _, rfl, ⟨u, rfl, rfl⟩, hb, holds1 (hu.fact hd hb (by simp only at h3 ⊢; omega))⟩⟩

theorem r_gcd (s t : Sl) [ha : Has (RF s) (L, x) Γ] [hc : Has (RF t) (M, y) Γ] (hL : L ≤ 7950000000000 := by omega) (hM : M ≤ 7950000000000 := by omega) :
    PCalls tb Tryz.prog 113 [mv s, mv t] Γ (RPost (max L M) (Nat.gcd x y)) :=
  ⟨⟨_, Tryz.func113, by kernel_rfl, by kernel_rfl⟩, fun I w hd hh => by
    obtain ⟨h1, h2, h3⟩ := ha.p hh
    obtain ⟨g1, g2, g3⟩ := hc.p hh
    refine (rgcd_spec h1 g1 (Nat.le_trans h3 hL) (Nat.le_trans g3 hM)).mono ?_
    rintro e w' ⟨u, rfl, hu, hn, hb⟩
    exact ⟨_, _, rfl, ⟨u, rfl, rfl⟩, hb, holds1 (hu.fact hd hb (by simp only at h3 g3 ⊢; omega))⟩⟩

theorem r_cmp (s t : Sl) [ha : Has (RF s) (L, x) Γ] [hc : Has (RF t) (M, y) Γ] (hL : L ≤ 8000000000000 := by omega) (hM : M ≤ 8000000000000 := by omega) :
    PCalls tb Tryz.prog 115 [mv s, mv t] Γ (IsV (.int .i64 (cmpN x y))) :=
  ⟨⟨_, Tryz.func115, by kernel_rfl, by kernel_rfl⟩, fun I w hd hh => by
    obtain ⟨h1, h2, h3⟩ := ha.p hh
    obtain ⟨g1, g2, g3⟩ := hc.p hh
    refine (rcmp_spec h1 g1 (Nat.le_trans h3 hL) (Nat.le_trans g3 hM)).mono ?_
    rintro e w' ⟨rfl, hb⟩
    exact ⟨_, _, rfl, ⟨rfl, rfl⟩, hb, Holds.nil _ _⟩⟩

theorem r_div (s t : Sl) [ha : Has (RF s) (L, x) Γ] [hc : Has (RF t) (M, y) Γ] (hy : 0 < y) (hL : L ≤ 7950000000000 := by omega) (hM : M ≤ 7950000000000 := by omega) :
    PCalls tb Tryz.prog 114 [mv s, mv t] Γ (fun v Δ => ∃ u t : Sl, v = .tuple #[mv u, mv t] ∧ Δ = [RF u (L, x / y), RF t (min L M, x % y)]) :=
  ⟨⟨_, Tryz.func114, by kernel_rfl, by kernel_rfl⟩, fun I w hd hh => by
    obtain ⟨h1, h2, h3⟩ := ha.p hh
    obtain ⟨g1, g2, g3⟩ := hc.p hh
    refine (rdiv_spec h1 g1 (Nat.le_trans h3 hL) (Nat.le_trans g3 hM) hy).mono ?_
    rintro e w' ⟨u, v, rfl, hu, hv, hn, hn1, hn2, hb⟩
    exact ⟨_, _, rfl, ⟨u, v, rfl, rfl⟩, hb, Holds.cons (hu.fact hd hb (by simp only at h3 ⊢; omega)) (holds1 (hv.fact hd hb (by simp only at h3 g3 ⊢; omega)))⟩⟩

theorem r_text (s : Sl) [ha : Has (RF s) (L, x) Γ] (hL : L ≤ 1000000000000 := by omega) :
    PCalls tb Tryz.prog 102 [mv s] Γ (IsV (.string (txt (dec x)))) :=
  ⟨⟨_, Tryz.func102, by kernel_rfl, by kernel_rfl⟩, fun I w hd hh => by
    obtain ⟨h1, h2, h3⟩ := ha.p hh
    refine (rtext_spec h1 (Nat.le_trans h3 hL)).mono ?_
    rintro e w' ⟨rfl, hb⟩
    exact ⟨_, _, rfl, ⟨rfl, rfl⟩, hb, Holds.nil _ _⟩⟩

theorem r_of (x : Nat) (hx : x < 18446744073709551616) :
    PCalls tb Tryz.prog 46 [.int .u64 (x : Int)] Γ (RPost 5 x) :=
  ⟨⟨_, Tryz.func46, by kernel_rfl, by kernel_rfl⟩, fun I w hd hh => by
    refine (rof_spec x w hx).mono ?_
    rintro e w' ⟨u, rfl, hu, hn, hb⟩
    exact ⟨_, _, rfl, ⟨u, rfl, rfl⟩, hb, holds1 (hu.fact hd hb (by omega))⟩⟩

theorem r_parse (s : ByteArray) (h : s.size ≤ 9223372036854775807) :
    PCalls tb Tryz.prog 54 [.string s] Γ (fun v Δ => ∃ u : Sl, v = .tuple #[mv u, .int .i64 (perr s)] ∧ Δ = [RF u (min s.size 4096, pval s)]) :=
  ⟨⟨_, Tryz.func54, by kernel_rfl, by kernel_rfl⟩, fun I w hd hh => by
    refine (rparse_spec s w h).mono ?_
    rintro e w' ⟨u, rfl, hu, hn, hn2, hb⟩
    exact ⟨_, _, rfl, ⟨u, rfl, rfl⟩, hb, holds1 (hu.fact hd hb (by omega))⟩⟩

end

end Go.Proofs.YtlpfkbkpnljieaaGreat
