/- The reference's numbers of root 2's field, its turns, with their bits. Printed by gen_ti.py. -/
import Derived.Test.YtlpfkbkpnljieaaGreatTh
set_option linter.unusedSimpArgs false
set_option linter.unusedVariables false
namespace Go.Proofs.YtlpfkbkpnljieaaGreat
open Go.RowKit Go.IntWalk

structure B4 where
  p : Nat
  q : Nat
  r : Nat
  s : Nat
structure PE3 where
  x : Pw
  q : Rat
  b : Nat
def PRB : Rowed PE3 where
  z := 4
  cells e := [.int .i64 e.x.n, .slice e.x.a.ao e.x.a.n e.x.a.c, .int .i64 e.x.m, .slice e.x.b.ao e.x.b.n e.x.b.c]
  len _ := rfl
  fact _ e := PBG e.x (e.b, e.q)
def qsum (l : List PE3) : Rat := (l.map (·.q)).foldl (· + ·) 0
def bsum : List PE3 → Nat
  | [] => 0
  | e :: r => e.b + 1 + bsum r
theorem qsum_snoc (l : List PE3) (e : PE3) : qsum (l ++ [e]) = qsum l + e.q := by unfold qsum; rw [List.map_append, List.foldl_append]; rfl
theorem bsum_app (l r : List PE3) : bsum (l ++ r) = bsum l + bsum r := by
  induction l with
  | nil => simp [bsum]
  | cons e l ih => simp only [List.cons_append, bsum, ih]; omega
theorem bsum_snoc (l : List PE3) (e : PE3) : bsum (l ++ [e]) = bsum l + (e.b + 1) := by rw [bsum_app]; rfl
theorem bsum_take (l : List PE3) (k : Nat) : bsum (l.take k) ≤ bsum l := by
  have h := bsum_app (l.take k) (l.drop k)
  rw [List.take_append_drop] at h
  omega
def TB (x : Tw) (a : B4 × Sn) : Fact where
  p I w := (a.2.m = 2 ∧ a.2.n = 0) ∧ (YF x.d x.u (6, a.2.m)).p I w ∧ (YF x.e x.v (6, a.2.n)).p I w ∧ (PBG x.p (a.1.p, a.2.p)).p I w ∧ (PBG x.q (a.1.q, a.2.q)).p I w ∧ (PBG x.r (a.1.r, a.2.r)).p I w ∧ (PBG x.s (a.1.s, a.2.s)).p I w
  up := by
    rintro I I' w w' ⟨g0, g1, g2, g3, g4, g5, g6⟩ h1 h2 h3
    exact ⟨g0, (YF x.d x.u _).up g1 h1 h2 h3, (YF x.e x.v _).up g2 h1 h2 h3, (PBG x.p _).up g3 h1 h2 h3, (PBG x.q _).up g4 h1 h2 h3, (PBG x.r _).up g5 h1 h2 h3, (PBG x.s _).up g6 h1 h2 h3⟩
def TBPost (b : B4) (S : Sn) (v : Value) (Δ : List Fact) : Prop := ∃ x : Tw, v = tv x ∧ Δ = [TB x (b, S)]
def B4.le (b c : B4) : Prop := b.p ≤ c.p ∧ b.q ≤ c.q ∧ b.r ≤ c.r ∧ b.s ≤ c.s
def B4.all (k : Nat) : B4 := ⟨k, k, k, k⟩
theorem TB.up2 {x : Tw} {S : Sn} {b b' : B4} {I : Blk} {w : World} (h : (TB x (b, S)).p I w) (hL : b.le b') : (TB x (b', S)).p I w := by
  obtain ⟨g0, g1, g2, g3, g4, g5, g6⟩ := h
  exact ⟨g0, g1, g2, PB.up2 g3 hL.1, PB.up2 g4 hL.2.1, PB.up2 g5 hL.2.2.1, PB.up2 g6 hL.2.2.2⟩
def B4.mul (b c : B4) : B4 := ⟨4 + (b.p + c.p) + (b.q + c.q) + (b.r + c.r) + (b.s + c.s) + 2, (b.p + c.q) + (b.q + c.p) + (b.r + c.s) + (b.s + c.r) + 5, (b.p + c.r) + (b.r + c.p) + (b.q + c.s) + (b.s + c.q) + 6, (b.p + c.s) + (b.s + c.p) + (b.q + c.r) + (b.r + c.q) + 4⟩
def B4.add (b c : B4) : B4 := ⟨b.p + c.p + 1, b.q + c.q + 1, b.r + c.r + 1, b.s + c.s + 1⟩

section
variable {fin : VS → List Fact → Prop} {Γ : List Fact} {L M K : Nat} {b c : B4}
theorem W.tB {P : Program} {cf : Cfg} (x : Tw) {S : Sn} [h : Has (TB x) (b, S) Γ] (hm : midOps cf.k = false)
    (hk : S.m = 2 → S.n = 0 → W tb P fin cf (YF x.d x.u (6, S.m) :: YF x.e x.v (6, S.n) :: PBG x.p (b.p, S.p) :: PBG x.q (b.q, S.q) :: PBG x.r (b.r, S.r) :: PBG x.s (b.s, S.s) :: Γ)) : W tb P fin cf Γ :=
  W.elim (α := Unit) (fun _ => S.m = 2 ∧ S.n = 0) (fun _ => [YF x.d x.u (6, S.m), YF x.e x.v (6, S.n), PBG x.p (b.p, S.p), PBG x.q (b.q, S.q), PBG x.r (b.r, S.r), PBG x.s (b.s, S.s)]) hm (fun I w _ hh => by
    obtain ⟨g0, g1, g2, g3, g4, g5, g6⟩ := h.p hh
    exact ⟨(), g0, Holds.cons g1 (Holds.cons g2 (Holds.cons g3 (Holds.cons g4 (Holds.cons g5 (holds1 g6)))))⟩) (fun _ hy => hk hy.1 hy.2)
theorem entTB' {x : Tw} {b' : B4} {S S' : Sn} [h : Has (TB x) (b, S) Γ] (hL : b.le b') (hS : S = S') : ∀ (I : Blk) (w : World), DataOK tb I w → Holds Γ I w → Holds [TB x (b', S')] I w := fun I w _ hh => by
  subst hS
  exact holds1 (TB.up2 (h.p hh) hL)
theorem entTBz {Z : Tw} {p q r s : Pw} {L1 L2 L3 L4 : Nat} {b' : B4} {T S : Sn} {u1 u2 u3 u4 : Rat} [h0 : Has (TB Z) (b, T) Γ] [h1 : Has (PBG p) (L1, u1) Γ] [h2 : Has (PBG q) (L2, u2) Γ] [h3 : Has (PBG r) (L3, u3) Γ] [h4 : Has (PBG s) (L4, u4) Γ]
    (em : T.m = S.m) (en : T.n = S.n) (ea : u1 = S.p) (eb : u2 = S.q) (ec : u3 = S.r) (ed : u4 = S.s) (hL : L1 ≤ b'.p ∧ L2 ≤ b'.q ∧ L3 ≤ b'.r ∧ L4 ≤ b'.s) : ∀ (I : Blk) (w : World), DataOK tb I w → Holds Γ I w → Holds [TB ⟨Z.d, Z.u, Z.e, Z.v, p, q, r, s⟩ (b', S)] I w := fun I w _ hh => by
  obtain ⟨g0, g1, g2, _⟩ := h0.p hh
  subst ea eb ec ed
  have g0 : T.m = 2 ∧ T.n = 0 := g0
  have g1 : (YF Z.d Z.u (6, T.m)).p I w := g1
  have g2 : (YF Z.e Z.v (6, T.n)).p I w := g2
  rw [em] at g1 g0
  rw [en] at g2 g0
  exact holds1 ⟨g0, g1, g2, PB.up2 (h1.p hh) hL.1, PB.up2 (h2.p hh) hL.2.1, PB.up2 (h3.p hh) hL.2.2.1, PB.up2 (h4.p hh) hL.2.2.2⟩
theorem u_sum (ao : Option Addr) (n c : Nat) {l : List PE3} [h : Has (OL PRB ao) (L, l) Γ] (hn : n = l.length) (hl : n ≤ 8) (hb : bsum l ≤ 100000000000000) :
    PCalls tb Tryz.prog 40 [.slice ao n c] Γ (BPost (bsum l) (qsum l)) := by
  refine PCalls.of_W tbOk Tryz.func40 rfl (by kernel_rfl) ?_
  refine W.cl [] (by kernel_rfl) (u_of 0 0 (Nat.zero_le _) (by omega) (by omega)) ?_
  rintro _ _ ⟨S1, s1, R1, t1, rfl, rfl⟩
  refine W.lp [] [4] (fun a : Nat × Int × Pw => [(4, .int .i64 a.2.1)]) (fun a => [(3, PRB.cells ⟨a.2.2, 0, 0⟩)]) (fun a => [PBG a.2.2 (bsum (l.take a.1), qsum (l.take a.1)), OL PRB ao (L, l)]) (fun a => a.2.1 = a.1 ∧ a.1 ≤ n) (fun a => n - a.1) (0, 0, ⟨S1, s1, R1, t1⟩) (by kernel_rfl) (by kernel_rfl) ⟨rfl, Nat.zero_le _⟩ (fun I w hd hh => Holds.cons (Has.p (k := PB S1 s1 R1 t1) inferInstance hh) (holds1 (Has.p (k := OL PRB ao) (a := (L, l)) inferInstance hh))) ?_
  rintro ⟨k, z, Y⟩ R ⟨hz, hk⟩ close
  simp only at hz hk
  subst hz
  by_cases hks : k < n
  · have hkl : k < l.length := by omega
    have e1 : bsum (l.take (k + 1)) = bsum (l.take k) + ((l[k]'hkl).b + 1) := by rw [List.take_succ_eq_append_getElem hkl, bsum_snoc]
    have e2 := bsum_take l (k + 1)
    refine W.el PRB ao k hkl rfl (by decide) ?_
    rintro B off rfl
    refine W.dt [] 9 (decide ((k : Int) < (n : Nat))) (by kernel_rfl) (by rw [decide_eq_true_iff]; omega) ?_
    refine W.ia [9] 4 B off n c .i64 k (k : Int) rfl tbOk (by kernel_rfl) hks ?_
    refine W.lds [] B (off + k * 4) (PRB.cells (l[k]'hkl)) tbOk (by kernel_rfl) (OL.told PRB B off k hkl) ?_
    have hF : ∀ Γ', Has (PB (l[k]'hkl).x.n (l[k]'hkl).x.a (l[k]'hkl).x.m (l[k]'hkl).x.b) ((l[k]'hkl).b, (l[k]'hkl).q) (PRB.fact L (l[k]'hkl) :: Γ') := fun _ => Has.head
    have hF0 := hF [PBG Y (bsum (l.take k), qsum (l.take k)), OL PRB (some ⟨B, off, none⟩) (L, l)]
    refine W.cl [] (by kernel_rfl) (u_add Y.n Y.a Y.m Y.b (l[k]'hkl).x.n (l[k]'hkl).x.a (l[k]'hkl).x.m (l[k]'hkl).x.b (hL := by show bsum (l.take k) + (l[k]'hkl).b ≤ 100000000000000; omega)) ?_
    rintro _ _ ⟨S5, s5, R5, t5, rfl, rfl⟩
    refine close [] _ _ (k + 1, IntKind.i64.wrap ((k : Int) + 1), ⟨S5, s5, R5, t5⟩) (by kernel_rfl) (by kernel_rfl) ⟨by simp only; rw [i64_in _ (by omega)]; rfl, by simp only; omega⟩ (by simp only; omega) (fun I w hd hh => ?_)
    have f1 := Has.p (k := PB S5 s5 R5 t5) (a := (bsum (l.take k) + (l[k]'hkl).b + 1, qsum (l.take k) + (l[k]'hkl).q)) inferInstance hh
    refine Holds.cons ?_ (holds1 (Has.p (k := OL PRB (some ⟨B, off, none⟩)) (a := (L, l)) inferInstance hh))
    have e : qsum (l.take (k + 1)) = qsum (l.take k) + (l[k]'hkl).q := by rw [List.take_succ_eq_append_getElem hkl, qsum_snoc]
    show (PB S5 s5 R5 t5 (bsum (l.take (k + 1)), qsum (l.take (k + 1)))).p I w
    rw [e, e1]
    exact f1
  · obtain rfl : k = n := by omega
    refine W.df [] 9 (decide (((k : Nat) : Int) < (k : Nat))) (by kernel_rfl) (by rw [decide_eq_false_iff_not]; omega) ?_
    exact W.r [9] (pv Y.n Y.a Y.m Y.b) (by kernel_rfl) ⟨_, _, _, _, rfl, rfl⟩ (entB (by rw [List.take_of_length_le (by omega)]; exact Nat.le_refl _) (by rw [List.take_of_length_le (by omega)]))
theorem u_sumB (bk : Nat) (l : List PE3) (n : Nat) [hr : Has (RowF bk) (l.flatMap PRB.cells) Γ] (hn : n = l.length) (hl : n ≤ 8) (hf : ∀ (I : Blk) (w : World), DataOK tb I w → Holds Γ I w → ∀ e ∈ l, (PBG e.x (e.b, e.q)).p I w) (hK : bsum l ≤ 100000000000000) :
    PCalls tb Tryz.prog 40 [.slice (some ⟨bk, 0, none⟩) n n] Γ (BPost (bsum l) (qsum l)) :=
  (u_sum (Γ := OL PRB (some ⟨bk, 0, none⟩) (0, l) :: Γ) (some ⟨bk, 0, none⟩) n n hn hl hK).weak (fun I w hd hh => Holds.cons ⟨hf I w hd hh, RA.of_row (hr.p hh) (fun _ _ h => h)⟩ hh) (fun _ _ h => h)
theorem u_whole (S : Int) (t : Sl) {m : Int} (k : Nat) [Has (YF S t) (L, m) Γ] (hk : m.natAbs ≤ 2 ^ k) :
    PCalls tb Tryz.prog 38 [yv S t] Γ (BPost k (m : Rat)) := by
  refine PCalls.of_W tbOk Tryz.func38 rfl (by kernel_rfl) ?_
  refine W.cl [] (by kernel_rfl) (p_yof 1 (by omega) (by omega)) ?_
  rintro _ _ ⟨S1, t1, rfl, rfl⟩   -- 1
  exact W.r [] (pv S t S1 t1) (by kernel_rfl) ⟨_, _, _, _, rfl, rfl⟩ (entYB hk (one_two k) (by omega) (q_divInt1 m).symm)
theorem u_zero (S : Int) (t : Sl) (R : Int) (r : Sl) {m n : Int} [h1 : Has (YF S t) (L, m) Γ] [h2 : Has (YF R r) (M, n) Γ] (hm : m = 2) (hn : n = 0) (hL : L ≤ 6 ∧ M ≤ 6) :
    PCalls tb Tryz.prog 39 [yv S t, yv R r] Γ (TBPost ⟨0, 0, 0, 0⟩ ⟨m, n, 0, 0, 0, 0⟩) := by
  refine PCalls.of_W tbOk Tryz.func39 rfl (by kernel_rfl) ?_
  refine W.cl [] (by kernel_rfl) (u_of 0 0 (Nat.zero_le _) (by omega) (by omega)) ?_
  rintro _ _ ⟨S1, s1, R1, t1, rfl, rfl⟩
  exact W.r [] (tv ⟨S, t, R, r, ⟨S1, s1, R1, t1⟩, ⟨S1, s1, R1, t1⟩, ⟨S1, s1, R1, t1⟩, ⟨S1, s1, R1, t1⟩⟩) (by kernel_rfl) ⟨_, rfl, rfl⟩ (fun I w hd hh => by
    have g := Has.p (k := PB S1 s1 R1 t1) (a := (0, ((0 : Int) : Rat))) inferInstance hh
    exact holds1 ⟨⟨hm, hn⟩, YF.up2 (Has.p (k := YF S t) (a := (L, m)) inferInstance hh) hL.1, YF.up2 (Has.p (k := YF R r) (a := (M, n)) inferInstance hh) hL.2, g, g, g, g⟩)

theorem u_xneg (x : Tw) {S : Sn} [Has (TB x) (b, S) Γ] :
    PCalls tb Tryz.prog 18 [tv x] Γ (TBPost b S.neg) := by
  refine PCalls.of_W tbOk Tryz.func18 rfl (by kernel_rfl) ?_
  refine W.tB x rfl ?_
  intro hm hn
  refine W.cl [] (by kernel_rfl) (u_zero x.d x.u x.e x.v hm hn (by omega)) ?_
  rintro _ _ ⟨Y1, rfl, rfl⟩   -- (Sn.mk S.m S.n 0 0 0 0)
  refine W.unr [] 6 (by kernel_rfl) ?_
  refine W.cl [11] (by kernel_rfl) (u_neg x.p.n x.p.a x.p.m x.p.b) ?_
  rintro _ _ ⟨S2, s2, R2, t2, rfl, rfl⟩   -- (-S.p)
  refine W.cl [11] (by kernel_rfl) (u_neg x.q.n x.q.a x.q.m x.q.b) ?_
  rintro _ _ ⟨S3, s3, R3, t3, rfl, rfl⟩   -- (-S.q)
  refine W.cl [11] (by kernel_rfl) (u_neg x.r.n x.r.a x.r.m x.r.b) ?_
  rintro _ _ ⟨S4, s4, R4, t4, rfl, rfl⟩   -- (-S.r)
  refine W.cl [11] (by kernel_rfl) (u_neg x.s.n x.s.a x.s.m x.s.b) ?_
  rintro _ _ ⟨S5, s5, R5, t5, rfl, rfl⟩   -- (-S.s)
  exact W.r [11] (tv ⟨Y1.d, Y1.u, Y1.e, Y1.v, ⟨S2, s2, R2, t2⟩, ⟨S3, s3, R3, t3⟩, ⟨S4, s4, R4, t4⟩, ⟨S5, s5, R5, t5⟩⟩) (by kernel_rfl) ⟨_, rfl, rfl⟩ (entTBz (p := ⟨S2, s2, R2, t2⟩) (q := ⟨S3, s3, R3, t3⟩) (r := ⟨S4, s4, R4, t4⟩) (s := ⟨S5, s5, R5, t5⟩) (by rfl) (by rfl) (by rfl) (by rfl) (by rfl) (by rfl) ⟨Nat.le_refl _, Nat.le_refl _, Nat.le_refl _, Nat.le_refl _⟩)

theorem u_xadd (x : Tw) {S : Sn} [Has (TB x) (b, S) Γ] (y : Tw) {T : Sn} [Has (TB y) (c, T) Γ] (hL : b.p + c.p ≤ 100000000000000 ∧ b.q + c.q ≤ 100000000000000 ∧ b.r + c.r ≤ 100000000000000 ∧ b.s + c.s ≤ 100000000000000) :
    PCalls tb Tryz.prog 36 [tv x, tv y] Γ (TBPost (b.add c) (S.add T)) := by
  refine PCalls.of_W tbOk Tryz.func36 rfl (by kernel_rfl) ?_
  refine W.tB x rfl ?_
  intro hm hn
  refine W.tB y rfl ?_
  intro hm' hn'
  refine W.cl [] (by kernel_rfl) (u_zero x.d x.u x.e x.v hm hn (by omega)) ?_
  rintro _ _ ⟨Y1, rfl, rfl⟩   -- (Sn.mk S.m S.n 0 0 0 0)
  refine W.unr [] 6 (by kernel_rfl) ?_
  refine W.cl [13] (by kernel_rfl) (u_add x.p.n x.p.a x.p.m x.p.b y.p.n y.p.a y.p.m y.p.b) ?_
  rintro _ _ ⟨S2, s2, R2, t2, rfl, rfl⟩   -- (S.p + T.p)
  refine W.cl [13] (by kernel_rfl) (u_add x.q.n x.q.a x.q.m x.q.b y.q.n y.q.a y.q.m y.q.b) ?_
  rintro _ _ ⟨S3, s3, R3, t3, rfl, rfl⟩   -- (S.q + T.q)
  refine W.cl [13] (by kernel_rfl) (u_add x.r.n x.r.a x.r.m x.r.b y.r.n y.r.a y.r.m y.r.b) ?_
  rintro _ _ ⟨S4, s4, R4, t4, rfl, rfl⟩   -- (S.r + T.r)
  refine W.cl [13] (by kernel_rfl) (u_add x.s.n x.s.a x.s.m x.s.b y.s.n y.s.a y.s.m y.s.b) ?_
  rintro _ _ ⟨S5, s5, R5, t5, rfl, rfl⟩   -- (S.s + T.s)
  exact W.r [13] (tv ⟨Y1.d, Y1.u, Y1.e, Y1.v, ⟨S2, s2, R2, t2⟩, ⟨S3, s3, R3, t3⟩, ⟨S4, s4, R4, t4⟩, ⟨S5, s5, R5, t5⟩⟩) (by kernel_rfl) ⟨_, rfl, rfl⟩ (entTBz (p := ⟨S2, s2, R2, t2⟩) (q := ⟨S3, s3, R3, t3⟩) (r := ⟨S4, s4, R4, t4⟩) (s := ⟨S5, s5, R5, t5⟩) (by rfl) (by rfl) (by rfl) (by rfl) (by rfl) (by rfl) ⟨Nat.le_refl _, Nat.le_refl _, Nat.le_refl _, Nat.le_refl _⟩)

set_option maxHeartbeats 16000000 in
theorem u_xmul (x : Tw) {S : Sn} [Has (TB x) (b, S) Γ] (y : Tw) {T : Sn} [Has (TB y) (c, T) Γ] (hL : b.p + b.q + b.r + b.s + c.p + c.q + c.r + c.s + 6 ≤ 100000000000000) :
    PCalls tb Tryz.prog 16 [tv x, tv y] Γ (TBPost (b.mul c) (S.mul T)) := by
  refine PCalls.of_W tbOk Tryz.func16 rfl (by kernel_rfl) ?_
  refine W.tB x rfl ?_
  intro hm hn
  refine W.tB y rfl ?_
  intro hm' hn'
  refine W.cl [] (by kernel_rfl) (u_whole x.d x.u 1 (by rw [hm]; decide)) ?_
  rintro _ _ ⟨Sm, sm, Rm, tm, rfl, rfl⟩   -- (S.m : Rat)
  refine W.cl [] (by kernel_rfl) (u_whole x.e x.v 0 (by rw [hn]; decide)) ?_
  rintro _ _ ⟨Sn', sn, Rn', tn, rfl, rfl⟩   -- (S.n : Rat)
  refine W.cl [] (by kernel_rfl) (u_zero x.d x.u x.e x.v hm hn (by omega)) ?_
  rintro _ _ ⟨Y0, rfl, rfl⟩   -- (Sn.mk S.m S.n 0 0 0 0)
  refine W.cl [] (by kernel_rfl) (u_mul x.p.n x.p.a x.p.m x.p.b y.p.n y.p.a y.p.m y.p.b) ?_
  rintro _ _ ⟨S1, s1, R1, t1, rfl, rfl⟩
  refine W.cl [] (by kernel_rfl) (u_mul x.q.n x.q.a x.q.m x.q.b y.q.n y.q.a y.q.m y.q.b) ?_
  rintro _ _ ⟨S2, s2, R2, t2, rfl, rfl⟩
  refine W.cl [] (by kernel_rfl) (u_mul Sm sm Rm tm S2 s2 R2 t2) ?_
  rintro _ _ ⟨S3, s3, R3, t3, rfl, rfl⟩
  refine W.cl [] (by kernel_rfl) (u_mul x.r.n x.r.a x.r.m x.r.b y.r.n y.r.a y.r.m y.r.b) ?_
  rintro _ _ ⟨S4, s4, R4, t4, rfl, rfl⟩
  refine W.cl [] (by kernel_rfl) (u_mul Sn' sn Rn' tn S4 s4 R4 t4) ?_
  rintro _ _ ⟨S5, s5, R5, t5, rfl, rfl⟩
  refine W.cl [] (by kernel_rfl) (u_mul Sm sm Rm tm Sn' sn Rn' tn) ?_
  rintro _ _ ⟨S6, s6, R6, t6, rfl, rfl⟩
  refine W.cl [] (by kernel_rfl) (u_mul x.s.n x.s.a x.s.m x.s.b y.s.n y.s.a y.s.m y.s.b) ?_
  rintro _ _ ⟨S7, s7, R7, t7, rfl, rfl⟩
  refine W.cl [] (by kernel_rfl) (u_mul S6 s6 R6 t6 S7 s7 R7 t7) ?_
  rintro _ _ ⟨S8, s8, R8, t8, rfl, rfl⟩
  refine W.bs [] 4 (([⟨⟨S1, s1, R1, t1⟩, (S.p * T.p), (b.p + c.p)⟩, ⟨⟨S3, s3, R3, t3⟩, ((S.m : Rat) * (S.q * T.q)), (1 + (b.q + c.q))⟩, ⟨⟨S5, s5, R5, t5⟩, ((S.n : Rat) * (S.r * T.r)), (0 + (b.r + c.r))⟩, ⟨⟨S8, s8, R8, t8⟩, (((S.m : Rat) * (S.n : Rat)) * (S.s * T.s)), ((1 + 0) + (b.s + c.s))⟩] : List PE3).flatMap PRB.cells) tbOk (by kernel_rfl) (fun b9 => ?_)
  refine W.cl [] (by kernel_rfl) (u_sumB b9 ([⟨⟨S1, s1, R1, t1⟩, (S.p * T.p), (b.p + c.p)⟩, ⟨⟨S3, s3, R3, t3⟩, ((S.m : Rat) * (S.q * T.q)), (1 + (b.q + c.q))⟩, ⟨⟨S5, s5, R5, t5⟩, ((S.n : Rat) * (S.r * T.r)), (0 + (b.r + c.r))⟩, ⟨⟨S8, s8, R8, t8⟩, (((S.m : Rat) * (S.n : Rat)) * (S.s * T.s)), ((1 + 0) + (b.s + c.s))⟩] : List PE3) 4 rfl (by omega) (fun I w hd hh e he => by
      simp only [List.mem_cons, List.not_mem_nil, or_false] at he
      rcases he with rfl | rfl | rfl | rfl <;> exact Has.p inferInstance hh) (by simp only [bsum]; omega)) ?_
  rintro _ _ ⟨S10, s10, R10, t10, rfl, rfl⟩
  refine W.cl [] (by kernel_rfl) (u_mul x.p.n x.p.a x.p.m x.p.b y.q.n y.q.a y.q.m y.q.b) ?_
  rintro _ _ ⟨S11, s11, R11, t11, rfl, rfl⟩
  refine W.cl [] (by kernel_rfl) (u_mul x.q.n x.q.a x.q.m x.q.b y.p.n y.p.a y.p.m y.p.b) ?_
  rintro _ _ ⟨S12, s12, R12, t12, rfl, rfl⟩
  refine W.cl [] (by kernel_rfl) (u_mul x.r.n x.r.a x.r.m x.r.b y.s.n y.s.a y.s.m y.s.b) ?_
  rintro _ _ ⟨S13, s13, R13, t13, rfl, rfl⟩
  refine W.cl [] (by kernel_rfl) (u_mul x.s.n x.s.a x.s.m x.s.b y.r.n y.r.a y.r.m y.r.b) ?_
  rintro _ _ ⟨S14, s14, R14, t14, rfl, rfl⟩
  refine W.bs [] 2 (([⟨⟨S13, s13, R13, t13⟩, (S.r * T.s), (b.r + c.s)⟩, ⟨⟨S14, s14, R14, t14⟩, (S.s * T.r), (b.s + c.r)⟩] : List PE3).flatMap PRB.cells) tbOk (by kernel_rfl) (fun b15 => ?_)
  refine W.cl [] (by kernel_rfl) (u_sumB b15 ([⟨⟨S13, s13, R13, t13⟩, (S.r * T.s), (b.r + c.s)⟩, ⟨⟨S14, s14, R14, t14⟩, (S.s * T.r), (b.s + c.r)⟩] : List PE3) 2 rfl (by omega) (fun I w hd hh e he => by
      simp only [List.mem_cons, List.not_mem_nil, or_false] at he
      rcases he with rfl | rfl <;> exact Has.p inferInstance hh) (by simp only [bsum]; omega)) ?_
  rintro _ _ ⟨S16, s16, R16, t16, rfl, rfl⟩
  refine W.cl [] (by kernel_rfl) (u_mul Sn' sn Rn' tn S16 s16 R16 t16 (hL := by simp only [bsum]; omega)) ?_
  rintro _ _ ⟨S17, s17, R17, t17, rfl, rfl⟩
  refine W.bs [] 3 (([⟨⟨S11, s11, R11, t11⟩, (S.p * T.q), (b.p + c.q)⟩, ⟨⟨S12, s12, R12, t12⟩, (S.q * T.p), (b.q + c.p)⟩, ⟨⟨S17, s17, R17, t17⟩, ((S.n : Rat) * (qsum ([⟨⟨S13, s13, R13, t13⟩, (S.r * T.s), (b.r + c.s)⟩, ⟨⟨S14, s14, R14, t14⟩, (S.s * T.r), (b.s + c.r)⟩] : List PE3))), (0 + (bsum ([⟨⟨S13, s13, R13, t13⟩, (S.r * T.s), (b.r + c.s)⟩, ⟨⟨S14, s14, R14, t14⟩, (S.s * T.r), (b.s + c.r)⟩] : List PE3)))⟩] : List PE3).flatMap PRB.cells) tbOk (by kernel_rfl) (fun b18 => ?_)
  refine W.cl [] (by kernel_rfl) (u_sumB b18 ([⟨⟨S11, s11, R11, t11⟩, (S.p * T.q), (b.p + c.q)⟩, ⟨⟨S12, s12, R12, t12⟩, (S.q * T.p), (b.q + c.p)⟩, ⟨⟨S17, s17, R17, t17⟩, ((S.n : Rat) * (qsum ([⟨⟨S13, s13, R13, t13⟩, (S.r * T.s), (b.r + c.s)⟩, ⟨⟨S14, s14, R14, t14⟩, (S.s * T.r), (b.s + c.r)⟩] : List PE3))), (0 + (bsum ([⟨⟨S13, s13, R13, t13⟩, (S.r * T.s), (b.r + c.s)⟩, ⟨⟨S14, s14, R14, t14⟩, (S.s * T.r), (b.s + c.r)⟩] : List PE3)))⟩] : List PE3) 3 rfl (by omega) (fun I w hd hh e he => by
      simp only [List.mem_cons, List.not_mem_nil, or_false] at he
      rcases he with rfl | rfl | rfl <;> exact Has.p inferInstance hh) (by simp only [bsum]; omega)) ?_
  rintro _ _ ⟨S19, s19, R19, t19, rfl, rfl⟩
  refine W.cl [] (by kernel_rfl) (u_mul x.p.n x.p.a x.p.m x.p.b y.r.n y.r.a y.r.m y.r.b) ?_
  rintro _ _ ⟨S20, s20, R20, t20, rfl, rfl⟩
  refine W.cl [] (by kernel_rfl) (u_mul x.r.n x.r.a x.r.m x.r.b y.p.n y.p.a y.p.m y.p.b) ?_
  rintro _ _ ⟨S21, s21, R21, t21, rfl, rfl⟩
  refine W.cl [] (by kernel_rfl) (u_mul x.q.n x.q.a x.q.m x.q.b y.s.n y.s.a y.s.m y.s.b) ?_
  rintro _ _ ⟨S22, s22, R22, t22, rfl, rfl⟩
  refine W.cl [] (by kernel_rfl) (u_mul x.s.n x.s.a x.s.m x.s.b y.q.n y.q.a y.q.m y.q.b) ?_
  rintro _ _ ⟨S23, s23, R23, t23, rfl, rfl⟩
  refine W.bs [] 2 (([⟨⟨S22, s22, R22, t22⟩, (S.q * T.s), (b.q + c.s)⟩, ⟨⟨S23, s23, R23, t23⟩, (S.s * T.q), (b.s + c.q)⟩] : List PE3).flatMap PRB.cells) tbOk (by kernel_rfl) (fun b24 => ?_)
  refine W.cl [] (by kernel_rfl) (u_sumB b24 ([⟨⟨S22, s22, R22, t22⟩, (S.q * T.s), (b.q + c.s)⟩, ⟨⟨S23, s23, R23, t23⟩, (S.s * T.q), (b.s + c.q)⟩] : List PE3) 2 rfl (by omega) (fun I w hd hh e he => by
      simp only [List.mem_cons, List.not_mem_nil, or_false] at he
      rcases he with rfl | rfl <;> exact Has.p inferInstance hh) (by simp only [bsum]; omega)) ?_
  rintro _ _ ⟨S25, s25, R25, t25, rfl, rfl⟩
  refine W.cl [] (by kernel_rfl) (u_mul Sm sm Rm tm S25 s25 R25 t25 (hL := by simp only [bsum]; omega)) ?_
  rintro _ _ ⟨S26, s26, R26, t26, rfl, rfl⟩
  refine W.bs [] 3 (([⟨⟨S20, s20, R20, t20⟩, (S.p * T.r), (b.p + c.r)⟩, ⟨⟨S21, s21, R21, t21⟩, (S.r * T.p), (b.r + c.p)⟩, ⟨⟨S26, s26, R26, t26⟩, ((S.m : Rat) * (qsum ([⟨⟨S22, s22, R22, t22⟩, (S.q * T.s), (b.q + c.s)⟩, ⟨⟨S23, s23, R23, t23⟩, (S.s * T.q), (b.s + c.q)⟩] : List PE3))), (1 + (bsum ([⟨⟨S22, s22, R22, t22⟩, (S.q * T.s), (b.q + c.s)⟩, ⟨⟨S23, s23, R23, t23⟩, (S.s * T.q), (b.s + c.q)⟩] : List PE3)))⟩] : List PE3).flatMap PRB.cells) tbOk (by kernel_rfl) (fun b27 => ?_)
  refine W.cl [] (by kernel_rfl) (u_sumB b27 ([⟨⟨S20, s20, R20, t20⟩, (S.p * T.r), (b.p + c.r)⟩, ⟨⟨S21, s21, R21, t21⟩, (S.r * T.p), (b.r + c.p)⟩, ⟨⟨S26, s26, R26, t26⟩, ((S.m : Rat) * (qsum ([⟨⟨S22, s22, R22, t22⟩, (S.q * T.s), (b.q + c.s)⟩, ⟨⟨S23, s23, R23, t23⟩, (S.s * T.q), (b.s + c.q)⟩] : List PE3))), (1 + (bsum ([⟨⟨S22, s22, R22, t22⟩, (S.q * T.s), (b.q + c.s)⟩, ⟨⟨S23, s23, R23, t23⟩, (S.s * T.q), (b.s + c.q)⟩] : List PE3)))⟩] : List PE3) 3 rfl (by omega) (fun I w hd hh e he => by
      simp only [List.mem_cons, List.not_mem_nil, or_false] at he
      rcases he with rfl | rfl | rfl <;> exact Has.p inferInstance hh) (by simp only [bsum]; omega)) ?_
  rintro _ _ ⟨S28, s28, R28, t28, rfl, rfl⟩
  refine W.cl [] (by kernel_rfl) (u_mul x.p.n x.p.a x.p.m x.p.b y.s.n y.s.a y.s.m y.s.b) ?_
  rintro _ _ ⟨S29, s29, R29, t29, rfl, rfl⟩
  refine W.cl [] (by kernel_rfl) (u_mul x.s.n x.s.a x.s.m x.s.b y.p.n y.p.a y.p.m y.p.b) ?_
  rintro _ _ ⟨S30, s30, R30, t30, rfl, rfl⟩
  refine W.cl [] (by kernel_rfl) (u_mul x.q.n x.q.a x.q.m x.q.b y.r.n y.r.a y.r.m y.r.b) ?_
  rintro _ _ ⟨S31, s31, R31, t31, rfl, rfl⟩
  refine W.cl [] (by kernel_rfl) (u_mul x.r.n x.r.a x.r.m x.r.b y.q.n y.q.a y.q.m y.q.b) ?_
  rintro _ _ ⟨S32, s32, R32, t32, rfl, rfl⟩
  refine W.bs [] 4 (([⟨⟨S29, s29, R29, t29⟩, (S.p * T.s), (b.p + c.s)⟩, ⟨⟨S30, s30, R30, t30⟩, (S.s * T.p), (b.s + c.p)⟩, ⟨⟨S31, s31, R31, t31⟩, (S.q * T.r), (b.q + c.r)⟩, ⟨⟨S32, s32, R32, t32⟩, (S.r * T.q), (b.r + c.q)⟩] : List PE3).flatMap PRB.cells) tbOk (by kernel_rfl) (fun b33 => ?_)
  refine W.cl [] (by kernel_rfl) (u_sumB b33 ([⟨⟨S29, s29, R29, t29⟩, (S.p * T.s), (b.p + c.s)⟩, ⟨⟨S30, s30, R30, t30⟩, (S.s * T.p), (b.s + c.p)⟩, ⟨⟨S31, s31, R31, t31⟩, (S.q * T.r), (b.q + c.r)⟩, ⟨⟨S32, s32, R32, t32⟩, (S.r * T.q), (b.r + c.q)⟩] : List PE3) 4 rfl (by omega) (fun I w hd hh e he => by
      simp only [List.mem_cons, List.not_mem_nil, or_false] at he
      rcases he with rfl | rfl | rfl | rfl <;> exact Has.p inferInstance hh) (by simp only [bsum]; omega)) ?_
  rintro _ _ ⟨S34, s34, R34, t34, rfl, rfl⟩
  exact W.r [] (tv ⟨Y0.d, Y0.u, Y0.e, Y0.v, ⟨S10, s10, R10, t10⟩, ⟨S19, s19, R19, t19⟩, ⟨S28, s28, R28, t28⟩, ⟨S34, s34, R34, t34⟩⟩) (by kernel_rfl) ⟨_, rfl, rfl⟩ (entTBz (p := ⟨S10, s10, R10, t10⟩) (q := ⟨S19, s19, R19, t19⟩) (r := ⟨S28, s28, R28, t28⟩) (s := ⟨S34, s34, R34, t34⟩) (by rfl) (by rfl) (by simp only [qsum, List.map_cons, List.map_nil, List.foldl_cons, List.foldl_nil, Sn.mul]; grind) (by simp only [qsum, List.map_cons, List.map_nil, List.foldl_cons, List.foldl_nil, Sn.mul]; grind) (by simp only [qsum, List.map_cons, List.map_nil, List.foldl_cons, List.foldl_nil, Sn.mul]; grind) (by simp only [qsum, List.map_cons, List.map_nil, List.foldl_cons, List.foldl_nil, Sn.mul]; grind) (by simp only [bsum, B4.mul]; omega))

theorem u_root (S : Int) (s : Sl) (R : Int) (t : Sl) (S' : Int) (s' : Sl) (R' : Int) (t' : Sl) {x y : Rat} [Has (PB S s R t) (L, x) Γ] [Has (PB S' s' R' t') (M, y) Γ] :
    PCalls tb Tryz.prog 37 [pv S s R t, pv S' s' R' t'] Γ (TBPost ⟨L, M, 0, 0⟩ (r2 x y)) := by
  refine PCalls.of_W tbOk Tryz.func37 rfl (by kernel_rfl) ?_
  refine W.cl [] (by kernel_rfl) (p_yof 2 (by omega) (by omega)) ?_
  rintro _ _ ⟨S1, t1, rfl, rfl⟩   -- 2
  refine W.cl [] (by kernel_rfl) (p_yof 0 (by omega) (by omega)) ?_
  rintro _ _ ⟨S2, t2, rfl, rfl⟩   -- 0
  refine W.cl [] (by kernel_rfl) (u_zero S1 t1 S2 t2 rfl rfl (by omega)) ?_
  rintro _ _ ⟨Y3, rfl, rfl⟩   -- (Sn.mk 2 0 0 0 0 0)
  exact W.r [] (tv ⟨Y3.d, Y3.u, Y3.e, Y3.v, ⟨S, s, R, t⟩, ⟨S', s', R', t'⟩, Y3.r, Y3.s⟩) (by kernel_rfl) ⟨_, rfl, rfl⟩ (fun I w hd hh => by
    obtain ⟨g0, g1, g2, g3, g4, g5, g6⟩ := Has.p (k := TB Y3) (a := (⟨0, 0, 0, 0⟩, ⟨2, 0, 0, 0, 0, 0⟩)) inferInstance hh
    exact holds1 ⟨g0, g1, g2, Has.p (k := PB S s R t) inferInstance hh, Has.p (k := PB S' s' R' t') inferInstance hh, g5, g6⟩)
theorem u_num (S : Int) (s : Sl) (R : Int) (t : Sl) {x : Rat} [Has (PB S s R t) (L, x) Γ] :
    PCalls tb Tryz.prog 15 [pv S s R t] Γ (TBPost ⟨L, 0, 0, 0⟩ (r2 x 0)) := by
  refine PCalls.of_W tbOk Tryz.func15 rfl (by kernel_rfl) ?_
  refine W.cl [] (by kernel_rfl) (u_of 0 0 (Nat.zero_le _) (by omega) (by omega)) ?_
  rintro _ _ ⟨S1, s1, R1, t1, rfl, rfl⟩   -- (0 : Rat)
  refine W.cl [] (by kernel_rfl) (u_root S s R t S1 s1 R1 t1) ?_
  rintro _ _ ⟨Y2, rfl, rfl⟩
  exact W.r [] (tv Y2) (by kernel_rfl) ⟨_, rfl, rfl⟩ (entTB' ⟨Nat.le_refl _, Nat.le_refl _, Nat.le_refl _, Nat.le_refl _⟩ rfl)

theorem u_eighth_m2 : PCalls tb Tryz.prog 17 [.int .i64 (-2)] Γ (TBPost (B4.all 1) (c8 (-2))) := by
  refine PCalls.of_W tbOk Tryz.func17 rfl (by kernel_rfl) ?_
  refine W.cl [] (by kernel_rfl) (u_of 0 0 (by decide) (by omega) (by omega)) ?_
  rintro _ _ ⟨S1, s1, R1, t1, rfl, rfl⟩
  refine W.cl [] (by kernel_rfl) (u_frac 1 2 1 (by decide) (by decide) (by omega) (by omega) (by omega) (by omega)) ?_
  rintro _ _ ⟨S2, s2, R2, t2, rfl, rfl⟩
  refine W.rem [] (-2) 8 (-2) (by kernel_rfl) (by decide) (by decide) ?_
  refine W.rem [] (6) 8 (6) (by kernel_rfl) (by decide) (by decide) ?_
  refine W.cl [11, 15, 16, 17, 18, 19, 20, 21, 22, 23, 24, 25, 26, 27, 28, 29, 30, 31, 32, 33, 34, 35, 36, 37, 38, 39, 40] (by kernel_rfl) (u_num S1 s1 R1 t1) ?_
  rintro _ _ ⟨Y4, rfl, rfl⟩
  exact W.r [] (tv Y4) (by kernel_rfl) ⟨Y4, rfl, rfl⟩ (entTB' (by refine ⟨?_, ?_, ?_, ?_⟩ <;> decide) (r2_ext (by decide +kernel) (by decide +kernel)))
theorem u_eighth_m1 : PCalls tb Tryz.prog 17 [.int .i64 (-1)] Γ (TBPost (B4.all 1) (c8 (-1))) := by
  refine PCalls.of_W tbOk Tryz.func17 rfl (by kernel_rfl) ?_
  refine W.cl [] (by kernel_rfl) (u_of 0 0 (by decide) (by omega) (by omega)) ?_
  rintro _ _ ⟨S1, s1, R1, t1, rfl, rfl⟩
  refine W.cl [] (by kernel_rfl) (u_frac 1 2 1 (by decide) (by decide) (by omega) (by omega) (by omega) (by omega)) ?_
  rintro _ _ ⟨S2, s2, R2, t2, rfl, rfl⟩
  refine W.rem [] (-1) 8 (-1) (by kernel_rfl) (by decide) (by decide) ?_
  refine W.rem [] (7) 8 (7) (by kernel_rfl) (by decide) (by decide) ?_
  refine W.cl [11, 15, 16, 17, 18, 19, 20, 21, 22, 23, 24, 25, 26, 27, 28, 29, 30, 31, 32, 33, 34, 35, 36, 37, 38, 39, 40] (by kernel_rfl) (u_root S1 s1 R1 t1 S2 s2 R2 t2) ?_
  rintro _ _ ⟨Y4, rfl, rfl⟩
  exact W.r [] (tv Y4) (by kernel_rfl) ⟨Y4, rfl, rfl⟩ (entTB' (by refine ⟨?_, ?_, ?_, ?_⟩ <;> decide) (r2_ext (by decide +kernel) (by decide +kernel)))
theorem u_eighth_0 : PCalls tb Tryz.prog 17 [.int .i64 (0)] Γ (TBPost (B4.all 1) (c8 (0))) := by
  refine PCalls.of_W tbOk Tryz.func17 rfl (by kernel_rfl) ?_
  refine W.cl [] (by kernel_rfl) (u_of 0 0 (by decide) (by omega) (by omega)) ?_
  rintro _ _ ⟨S1, s1, R1, t1, rfl, rfl⟩
  refine W.cl [] (by kernel_rfl) (u_frac 1 2 1 (by decide) (by decide) (by omega) (by omega) (by omega) (by omega)) ?_
  rintro _ _ ⟨S2, s2, R2, t2, rfl, rfl⟩
  refine W.rem [] (0) 8 (0) (by kernel_rfl) (by decide) (by decide) ?_
  refine W.rem [] (8) 8 (0) (by kernel_rfl) (by decide) (by decide) ?_
  refine W.cl [11, 15, 16, 17, 18, 19, 20, 21, 22, 23, 24, 25, 26, 27, 28, 29, 30, 31, 32, 33, 34, 35, 36, 37, 38, 39, 40] (by kernel_rfl) (u_of (1) 0 (by decide) (by omega) (by omega)) ?_
  rintro _ _ ⟨S3, s3, R3, t3, rfl, rfl⟩
  refine W.cl [] (by kernel_rfl) (u_num S3 s3 R3 t3) ?_
  rintro _ _ ⟨Y4, rfl, rfl⟩
  exact W.r [] (tv Y4) (by kernel_rfl) ⟨Y4, rfl, rfl⟩ (entTB' (by refine ⟨?_, ?_, ?_, ?_⟩ <;> decide) (r2_ext (by decide +kernel) (by decide +kernel)))
theorem u_eighth_1 : PCalls tb Tryz.prog 17 [.int .i64 (1)] Γ (TBPost (B4.all 1) (c8 (1))) := by
  refine PCalls.of_W tbOk Tryz.func17 rfl (by kernel_rfl) ?_
  refine W.cl [] (by kernel_rfl) (u_of 0 0 (by decide) (by omega) (by omega)) ?_
  rintro _ _ ⟨S1, s1, R1, t1, rfl, rfl⟩
  refine W.cl [] (by kernel_rfl) (u_frac 1 2 1 (by decide) (by decide) (by omega) (by omega) (by omega) (by omega)) ?_
  rintro _ _ ⟨S2, s2, R2, t2, rfl, rfl⟩
  refine W.rem [] (1) 8 (1) (by kernel_rfl) (by decide) (by decide) ?_
  refine W.rem [] (9) 8 (1) (by kernel_rfl) (by decide) (by decide) ?_
  refine W.cl [11, 15, 16, 17, 18, 19, 20, 21, 22, 23, 24, 25, 26, 27, 28, 29, 30, 31, 32, 33, 34, 35, 36, 37, 38, 39, 40] (by kernel_rfl) (u_root S1 s1 R1 t1 S2 s2 R2 t2) ?_
  rintro _ _ ⟨Y4, rfl, rfl⟩
  exact W.r [] (tv Y4) (by kernel_rfl) ⟨Y4, rfl, rfl⟩ (entTB' (by refine ⟨?_, ?_, ?_, ?_⟩ <;> decide) (r2_ext (by decide +kernel) (by decide +kernel)))
theorem u_eighth_2 : PCalls tb Tryz.prog 17 [.int .i64 (2)] Γ (TBPost (B4.all 1) (c8 (2))) := by
  refine PCalls.of_W tbOk Tryz.func17 rfl (by kernel_rfl) ?_
  refine W.cl [] (by kernel_rfl) (u_of 0 0 (by decide) (by omega) (by omega)) ?_
  rintro _ _ ⟨S1, s1, R1, t1, rfl, rfl⟩
  refine W.cl [] (by kernel_rfl) (u_frac 1 2 1 (by decide) (by decide) (by omega) (by omega) (by omega) (by omega)) ?_
  rintro _ _ ⟨S2, s2, R2, t2, rfl, rfl⟩
  refine W.rem [] (2) 8 (2) (by kernel_rfl) (by decide) (by decide) ?_
  refine W.rem [] (10) 8 (2) (by kernel_rfl) (by decide) (by decide) ?_
  refine W.cl [11, 15, 16, 17, 18, 19, 20, 21, 22, 23, 24, 25, 26, 27, 28, 29, 30, 31, 32, 33, 34, 35, 36, 37, 38, 39, 40] (by kernel_rfl) (u_num S1 s1 R1 t1) ?_
  rintro _ _ ⟨Y4, rfl, rfl⟩
  exact W.r [] (tv Y4) (by kernel_rfl) ⟨Y4, rfl, rfl⟩ (entTB' (by refine ⟨?_, ?_, ?_, ?_⟩ <;> decide) (r2_ext (by decide +kernel) (by decide +kernel)))
theorem u_eighth_3 : PCalls tb Tryz.prog 17 [.int .i64 (3)] Γ (TBPost (B4.all 1) (c8 (3))) := by
  refine PCalls.of_W tbOk Tryz.func17 rfl (by kernel_rfl) ?_
  refine W.cl [] (by kernel_rfl) (u_of 0 0 (by decide) (by omega) (by omega)) ?_
  rintro _ _ ⟨S1, s1, R1, t1, rfl, rfl⟩
  refine W.cl [] (by kernel_rfl) (u_frac 1 2 1 (by decide) (by decide) (by omega) (by omega) (by omega) (by omega)) ?_
  rintro _ _ ⟨S2, s2, R2, t2, rfl, rfl⟩
  refine W.rem [] (3) 8 (3) (by kernel_rfl) (by decide) (by decide) ?_
  refine W.rem [] (11) 8 (3) (by kernel_rfl) (by decide) (by decide) ?_
  refine W.cl [11, 15, 16, 17, 18, 19, 20, 21, 22, 23, 24, 25, 26, 27, 28, 29, 30, 31, 32, 33, 34, 35, 36, 37, 38, 39, 40] (by kernel_rfl) (u_neg S2 s2 R2 t2) ?_
  rintro _ _ ⟨S3, s3, R3, t3, rfl, rfl⟩
  refine W.cl [] (by kernel_rfl) (u_root S1 s1 R1 t1 S3 s3 R3 t3) ?_
  rintro _ _ ⟨Y4, rfl, rfl⟩
  exact W.r [] (tv Y4) (by kernel_rfl) ⟨Y4, rfl, rfl⟩ (entTB' (by refine ⟨?_, ?_, ?_, ?_⟩ <;> decide) (r2_ext (by decide +kernel) (by decide +kernel)))
theorem u_eighth_4 : PCalls tb Tryz.prog 17 [.int .i64 (4)] Γ (TBPost (B4.all 1) (c8 (4))) := by
  refine PCalls.of_W tbOk Tryz.func17 rfl (by kernel_rfl) ?_
  refine W.cl [] (by kernel_rfl) (u_of 0 0 (by decide) (by omega) (by omega)) ?_
  rintro _ _ ⟨S1, s1, R1, t1, rfl, rfl⟩
  refine W.cl [] (by kernel_rfl) (u_frac 1 2 1 (by decide) (by decide) (by omega) (by omega) (by omega) (by omega)) ?_
  rintro _ _ ⟨S2, s2, R2, t2, rfl, rfl⟩
  refine W.rem [] (4) 8 (4) (by kernel_rfl) (by decide) (by decide) ?_
  refine W.rem [] (12) 8 (4) (by kernel_rfl) (by decide) (by decide) ?_
  refine W.cl [11, 15, 16, 17, 18, 19, 20, 21, 22, 23, 24, 25, 26, 27, 28, 29, 30, 31, 32, 33, 34, 35, 36, 37, 38, 39, 40] (by kernel_rfl) (u_of (-1) 0 (by decide) (by omega) (by omega)) ?_
  rintro _ _ ⟨S3, s3, R3, t3, rfl, rfl⟩
  refine W.cl [] (by kernel_rfl) (u_num S3 s3 R3 t3) ?_
  rintro _ _ ⟨Y4, rfl, rfl⟩
  exact W.r [] (tv Y4) (by kernel_rfl) ⟨Y4, rfl, rfl⟩ (entTB' (by refine ⟨?_, ?_, ?_, ?_⟩ <;> decide) (r2_ext (by decide +kernel) (by decide +kernel)))
theorem u_eighth_5 : PCalls tb Tryz.prog 17 [.int .i64 (5)] Γ (TBPost (B4.all 1) (c8 (5))) := by
  refine PCalls.of_W tbOk Tryz.func17 rfl (by kernel_rfl) ?_
  refine W.cl [] (by kernel_rfl) (u_of 0 0 (by decide) (by omega) (by omega)) ?_
  rintro _ _ ⟨S1, s1, R1, t1, rfl, rfl⟩
  refine W.cl [] (by kernel_rfl) (u_frac 1 2 1 (by decide) (by decide) (by omega) (by omega) (by omega) (by omega)) ?_
  rintro _ _ ⟨S2, s2, R2, t2, rfl, rfl⟩
  refine W.rem [] (5) 8 (5) (by kernel_rfl) (by decide) (by decide) ?_
  refine W.rem [] (13) 8 (5) (by kernel_rfl) (by decide) (by decide) ?_
  refine W.cl [11, 15, 16, 17, 18, 19, 20, 21, 22, 23, 24, 25, 26, 27, 28, 29, 30, 31, 32, 33, 34, 35, 36, 37, 38, 39, 40] (by kernel_rfl) (u_neg S2 s2 R2 t2) ?_
  rintro _ _ ⟨S3, s3, R3, t3, rfl, rfl⟩
  refine W.cl [] (by kernel_rfl) (u_root S1 s1 R1 t1 S3 s3 R3 t3) ?_
  rintro _ _ ⟨Y4, rfl, rfl⟩
  exact W.r [] (tv Y4) (by kernel_rfl) ⟨Y4, rfl, rfl⟩ (entTB' (by refine ⟨?_, ?_, ?_, ?_⟩ <;> decide) (r2_ext (by decide +kernel) (by decide +kernel)))
theorem u_eighth_6 : PCalls tb Tryz.prog 17 [.int .i64 (6)] Γ (TBPost (B4.all 1) (c8 (6))) := by
  refine PCalls.of_W tbOk Tryz.func17 rfl (by kernel_rfl) ?_
  refine W.cl [] (by kernel_rfl) (u_of 0 0 (by decide) (by omega) (by omega)) ?_
  rintro _ _ ⟨S1, s1, R1, t1, rfl, rfl⟩
  refine W.cl [] (by kernel_rfl) (u_frac 1 2 1 (by decide) (by decide) (by omega) (by omega) (by omega) (by omega)) ?_
  rintro _ _ ⟨S2, s2, R2, t2, rfl, rfl⟩
  refine W.rem [] (6) 8 (6) (by kernel_rfl) (by decide) (by decide) ?_
  refine W.rem [] (14) 8 (6) (by kernel_rfl) (by decide) (by decide) ?_
  refine W.cl [11, 15, 16, 17, 18, 19, 20, 21, 22, 23, 24, 25, 26, 27, 28, 29, 30, 31, 32, 33, 34, 35, 36, 37, 38, 39, 40] (by kernel_rfl) (u_num S1 s1 R1 t1) ?_
  rintro _ _ ⟨Y4, rfl, rfl⟩
  exact W.r [] (tv Y4) (by kernel_rfl) ⟨Y4, rfl, rfl⟩ (entTB' (by refine ⟨?_, ?_, ?_, ?_⟩ <;> decide) (r2_ext (by decide +kernel) (by decide +kernel)))
theorem u_eighth_7 : PCalls tb Tryz.prog 17 [.int .i64 (7)] Γ (TBPost (B4.all 1) (c8 (7))) := by
  refine PCalls.of_W tbOk Tryz.func17 rfl (by kernel_rfl) ?_
  refine W.cl [] (by kernel_rfl) (u_of 0 0 (by decide) (by omega) (by omega)) ?_
  rintro _ _ ⟨S1, s1, R1, t1, rfl, rfl⟩
  refine W.cl [] (by kernel_rfl) (u_frac 1 2 1 (by decide) (by decide) (by omega) (by omega) (by omega) (by omega)) ?_
  rintro _ _ ⟨S2, s2, R2, t2, rfl, rfl⟩
  refine W.rem [] (7) 8 (7) (by kernel_rfl) (by decide) (by decide) ?_
  refine W.rem [] (15) 8 (7) (by kernel_rfl) (by decide) (by decide) ?_
  refine W.cl [11, 15, 16, 17, 18, 19, 20, 21, 22, 23, 24, 25, 26, 27, 28, 29, 30, 31, 32, 33, 34, 35, 36, 37, 38, 39, 40] (by kernel_rfl) (u_root S1 s1 R1 t1 S2 s2 R2 t2) ?_
  rintro _ _ ⟨Y4, rfl, rfl⟩
  exact W.r [] (tv Y4) (by kernel_rfl) ⟨Y4, rfl, rfl⟩ (entTB' (by refine ⟨?_, ?_, ?_, ?_⟩ <;> decide) (r2_ext (by decide +kernel) (by decide +kernel)))

theorem u_eighth (k : Int) (hk : -2 ≤ k ∧ k ≤ 7) : PCalls tb Tryz.prog 17 [.int .i64 k] Γ (TBPost (B4.all 1) (c8 k)) := by
  obtain rfl | rfl | rfl | rfl | rfl | rfl | rfl | rfl | rfl | rfl : k = -2 ∨ k = -1 ∨ k = 0 ∨ k = 1 ∨ k = 2 ∨ k = 3 ∨ k = 4 ∨ k = 5 ∨ k = 6 ∨ k = 7 := by omega
  · exact u_eighth_m2
  · exact u_eighth_m1
  · exact u_eighth_0
  · exact u_eighth_1
  · exact u_eighth_2
  · exact u_eighth_3
  · exact u_eighth_4
  · exact u_eighth_5
  · exact u_eighth_6
  · exact u_eighth_7

theorem u_eighthW (o : Int) (ho : 0 ≤ o ∧ o ≤ 7) : PCalls tb Tryz.prog 17 [.int .i64 (IntKind.i64.wrap (o - 2))] Γ (TBPost (B4.all 1) (c8 (o - 2))) := by
  rw [show IntKind.i64.wrap (o - 2) = o - 2 from i64_in _ (by omega)]
  exact u_eighth (o - 2) (by omega)

end
end Go.Proofs.YtlpfkbkpnljieaaGreat
