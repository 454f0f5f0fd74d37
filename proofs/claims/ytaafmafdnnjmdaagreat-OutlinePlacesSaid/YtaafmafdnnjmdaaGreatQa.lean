/- The reference of outline: directions, lines of places, ends, corners. -/
import Derived.Test.YtaafmafdnnjmdaaGreatPg
set_option linter.unusedSimpArgs false
set_option linter.unusedVariables false
namespace Go.Proofs.YtaafmafdnnjmdaaGreat
open Go.RowKit Go.IntWalk

/-- A line on which a place lies. -/
structure LnV where
  p : Dp
  d : Dp
  r : Rat
  m : Int
  sl : Bool
/-- A place's lines, its field. -/
structure TwV where
  a : LnV
  b : LnV
  m : Int
  n : Int
structure LnC where
  p : Dp
  d : Dp
  S : Int
  s : Sl
  R : Int
  t : Sl
  M : Int
  u : Sl
  sl : Bool
structure TwE where
  a : LnC
  b : LnC
  M : Int
  u : Sl
  N : Int
  v : Sl
  va : Rat
  ma : Int
  vb : Rat
  mb : Int
  m : Int
  n : Int
abbrev lnc (x : LnC) : List Value := [.int .i64 x.p.x, .int .i64 x.p.y, .int .i64 x.d.x, .int .i64 x.d.y, .int .i64 x.S, .slice x.s.ao x.s.n x.s.c, .int .i64 x.R, .slice x.t.ao x.t.n x.t.c, .int .i64 x.M, .slice x.u.ao x.u.n x.u.c, .bool x.sl]
abbrev twc (e : TwE) : List Value := lnc e.a ++ lnc e.b ++ [.int .i64 e.M, .slice e.u.ao e.u.n e.u.c, .int .i64 e.N, .slice e.v.ao e.v.n e.v.c]
def TwR : Rowed TwE where
  z := 26
  cells e := twc e
  len _ := rfl
  fact L e := And2 (And2 (PF e.a.S e.a.s e.a.R e.a.t (L, e.va)) (YF e.a.M e.a.u (L, e.ma))) (And2 (And2 (PF e.b.S e.b.s e.b.R e.b.t (L, e.vb)) (YF e.b.M e.b.u (L, e.mb))) (And2 (YF e.M e.u (L, e.m)) (YF e.N e.v (L, e.n))))
def TwE.num (e : TwE) : TwV := ⟨⟨e.a.p, e.a.d, e.va, e.ma, e.a.sl⟩, ⟨e.b.p, e.b.d, e.vb, e.mb, e.b.sl⟩, e.m, e.n⟩
theorem two_one (e : TwE) : ∀ u ∈ TwR.cells e, u.oneCell' = true := by
  intro u hu
  simp only [TwR, List.mem_append, List.mem_cons, List.not_mem_nil, or_false] at hu
  rcases hu with (hu | hu) | hu
  · rcases hu with rfl | rfl | rfl | rfl | rfl | rfl | rfl | rfl | rfl | rfl | rfl <;> rfl
  · rcases hu with rfl | rfl | rfl | rfl | rfl | rfl | rfl | rfl | rfl | rfl | rfl <;> rfl
  · rcases hu with rfl | rfl | rfl | rfl <;> rfl
def TwsQ (l0 : List TwV) (v : Value) (Δ : List Fact) : Prop := ∃ (b off c : Nat) (l : List TwE), v = .slice (some ⟨b, off, none⟩) l.length c ∧ l.length ≤ c ∧ l.map TwE.num = l0 ∧ Δ = [OL TwR (some ⟨b, off, none⟩) (20, l)]
/-- The lines of the places at an end. -/
def rtip (p d : Dp) (h b : Rat) (round : Bool) : List TwV :=
  let m := sqD d; let l := leftD d
  ⟨⟨p, d, b, m, false⟩, ⟨p, l, h, m, false⟩, m, 2⟩ :: ((if round then [⟨⟨p, d, h, m, true⟩, ⟨p, l, h, m, true⟩, m, 2⟩, ⟨⟨p, d, h, m, false⟩, ⟨p, l, ((0 : Int) : Rat), m, false⟩, m, 2⟩, ⟨⟨p, d, h, m, true⟩, ⟨p, l, -h, m, true⟩, m, 2⟩] else []) ++ [⟨⟨p, d, b, m, false⟩, ⟨p, l, -h, m, false⟩, m, 2⟩])
def rcorn (p d e : Dp) (h : Rat) : TwV := ⟨⟨p, leftD d, h, sqD d, false⟩, ⟨p, leftD e, h, sqD e, false⟩, sqD d, sqD e⟩
def rcorns (h : Rat) : List Dp → List Dp → List TwV
  | p :: c, d :: e :: w => rcorn p d e h :: rcorns h c (e :: w)
  | _, _ => []
def rplaces (c w : List Dp) (width kind bg en : Int) : List TwV :=
  let h := Rat.divInt width 2
  let back := rtip (c.getD 0 ⟨0, 0⟩) (negD (w.getD 0 ⟨0, 0⟩)) h (endsOf kind bg en h).1 (kind == 1)
  back.drop (back.length - 1) ++ rcorns h c.tail w ++ rtip (c.getD (c.length - 1) ⟨0, 0⟩) (w.getD (w.length - 1) ⟨0, 0⟩) h (endsOf kind bg en h).2 (kind == 1) ++ (rcorns (-h) c.tail w).reverse ++ back.take (back.length - 1)

section
variable {Γ : List Fact} {L M : Nat}
theorem two_fact (e : TwE) {L1 L2 L3 L4 L5 L6 : Nat} [h1 : Has (PF e.a.S e.a.s e.a.R e.a.t) (L1, e.va) Γ] [h2 : Has (YF e.a.M e.a.u) (L2, e.ma) Γ] [h3 : Has (PF e.b.S e.b.s e.b.R e.b.t) (L3, e.vb) Γ] [h4 : Has (YF e.b.M e.b.u) (L4, e.mb) Γ] [h5 : Has (YF e.M e.u) (L5, e.m) Γ] [h6 : Has (YF e.N e.v) (L6, e.n) Γ]
    (hL : (L1 ≤ 20 ∧ L2 ≤ 20) ∧ (L3 ≤ 20 ∧ L4 ≤ 20) ∧ L5 ≤ 20 ∧ L6 ≤ 20 := by omega) : ∀ (I : Blk) (w : World), DataOK tb I w → Holds Γ I w → (TwR.fact 20 e).p I w := fun I w _ hh =>
  ⟨⟨PF.up2 (h1.p hh) hL.1.1, YF.up2 (h2.p hh) hL.1.2⟩, ⟨PF.up2 (h3.p hh) hL.2.1.1, YF.up2 (h4.p hh) hL.2.1.2⟩, YF.up2 (h5.p hh) hL.2.2.1, YF.up2 (h6.p hh) hL.2.2.2⟩
theorem r_size (a : Int) (h : -9223372036854775807 ≤ a) : PCalls tb Tryz.prog 64 [.int .i64 a] Γ (IsV (.int .i64 (a.natAbs : Int))) := by
  refine PCalls.of_W tbOk Tryz.func64 rfl (by kernel_rfl) ?_
  by_cases ha : a < 0
  · refine W.dt [] 4 (decide (a < 0)) (by kernel_rfl) (decide_eq_true ha) ?_
    by_cases hb : a ≤ 9223372036854775807
    · exact W.r [4] (.int .i64 (IntKind.i64.wrap (0 - a))) (by kernel_rfl) ⟨by rw [show IntKind.i64.wrap (0 - a) = (a.natAbs : Int) by rw [IntKind.wrap_i64]; omega], rfl⟩ ent0
    · omega
  · refine W.df [] 4 (decide (a < 0)) (by kernel_rfl) (decide_eq_false ha) ?_
    exact W.r [4] (.int .i64 a) (by kernel_rfl) ⟨by rw [show (a.natAbs : Int) = a by omega], rfl⟩ ent0
theorem r_divides (a b : Nat) : PCalls tb Tryz.prog 63 [.int .i64 (a : Int), .int .i64 (b : Int)] Γ (IsV (.int .i64 ((Nat.gcd a b : Nat) : Int))) := by
  refine PCalls.of_W tbOk Tryz.func63 rfl (by kernel_rfl) ?_
  refine W.lp [] [0, 1] (fun q : Nat × Nat => [(0, .int .i64 (q.1 : Int)), (1, .int .i64 (q.2 : Int))]) (fun _ => []) (fun _ => []) (fun q => Nat.gcd q.1 q.2 = Nat.gcd a b) (fun q => q.2) (a, b) (by kernel_rfl) (by kernel_rfl) rfl ent0 ?_
  rintro ⟨x, y⟩ R hxy close
  simp only at hxy
  by_cases hy : 0 < y
  · refine W.dt [] 7 (decide ((y : Int) > 0)) (by kernel_rfl) (decide_eq_true (by omega)) ?_
    refine W.rem [7] (x : Int) (y : Int) ((x % y : Nat) : Int) (by kernel_rfl) (by omega) (by rw [Int.tmod_eq_emod_of_nonneg (by omega), Int.natCast_emod]) ?_
    exact close [] _ _ (y, x % y) (by kernel_rfl) (by kernel_rfl) (by rw [← hxy, Nat.gcd_comm x y, Nat.gcd_rec y x, Nat.gcd_comm]) (Nat.mod_lt _ hy) ent0
  · refine W.df [] 7 (decide ((y : Int) > 0)) (by kernel_rfl) (decide_eq_false (by omega)) ?_
    have hy0 : y = 0 := by omega
    subst hy0
    rw [Nat.gcd_zero_right] at hxy
    subst hxy
    exact W.r [7] (.int .i64 ((Nat.gcd a b : Nat) : Int)) (by kernel_rfl) ⟨rfl, rfl⟩ ent0
theorem r_way (p q : Dp) (hp : inD 2147483648 p) (hq : inD 2147483648 q) (hne : p ≠ q) : PCalls tb Tryz.prog 23 [dv p, dv q] Γ (IsV (dv (wayv p q))) := by
  have hv := ne_sub hne
  have hg := gcdD_pos hv
  have hdv := gcdD_dvd ⟨q.x - p.x, q.y - p.y⟩
  have hgd : gcdD ⟨q.x - p.x, q.y - p.y⟩ = ((Nat.gcd (q.x - p.x).natAbs (q.y - p.y).natAbs : Nat) : Int) := rfl
  have hwi := way_in hp hq hne
  simp only at hv hdv
  unfold inD at hp hq hwi
  have e1 : IntKind.i64.wrap (q.x - p.x) = q.x - p.x := by rw [IntKind.wrap_i64]; omega
  have e2 : IntKind.i64.wrap (q.y - p.y) = q.y - p.y := by rw [IntKind.wrap_i64]; omega
  have hgx : (q.x - p.x).tdiv (gcdD ⟨q.x - p.x, q.y - p.y⟩) = (wayv p q).x := Int.tdiv_eq_ediv_of_dvd hdv.1
  have hgy : (q.y - p.y).tdiv (gcdD ⟨q.x - p.x, q.y - p.y⟩) = (wayv p q).y := Int.tdiv_eq_ediv_of_dvd hdv.2
  refine PCalls.of_W tbOk Tryz.func23 rfl (by kernel_rfl) ?_
  refine W.cl [] (by kernel_rfl) (r_size (IntKind.i64.wrap (q.x - p.x)) (by rw [e1]; omega)) ?_
  rintro _ _ ⟨rfl, rfl⟩
  refine W.cl [] (by kernel_rfl) (r_size (IntKind.i64.wrap (q.y - p.y)) (by rw [e2]; omega)) ?_
  rintro _ _ ⟨rfl, rfl⟩
  refine W.cl [] (by kernel_rfl) (r_divides (IntKind.i64.wrap (q.x - p.x)).natAbs (IntKind.i64.wrap (q.y - p.y)).natAbs) ?_
  rintro _ _ ⟨rfl, rfl⟩
  refine W.quo [] (IntKind.i64.wrap (q.x - p.x)) ((Nat.gcd (IntKind.i64.wrap (q.x - p.x)).natAbs (IntKind.i64.wrap (q.y - p.y)).natAbs : Nat) : Int) (wayv p q).x (by kernel_rfl) (by rw [e1, e2, ← hgd]; omega) (by rw [e1, e2, ← hgd, hgx, IntKind.wrap_i64]; omega) ?_
  refine W.quo [] (IntKind.i64.wrap (q.y - p.y)) ((Nat.gcd (IntKind.i64.wrap (q.x - p.x)).natAbs (IntKind.i64.wrap (q.y - p.y)).natAbs : Nat) : Int) (wayv p q).y (by kernel_rfl) (by rw [e1, e2, ← hgd]; omega) (by rw [e1, e2, ← hgd, hgy, IntKind.wrap_i64]; omega) ?_
  exact W.r [] (dv (wayv p q)) (by kernel_rfl) ⟨rfl, rfl⟩ ent0
theorem r_sq9 (d : Dp) (hd : inD 4294967296 d) : PCalls tb Tryz.prog 66 [dv d] Γ (YPost 13 (sqD d)) := by
  unfold inD at hd
  refine PCalls.of_W tbOk Tryz.func66 rfl (by kernel_rfl) ?_
  refine W.cl [] (by kernel_rfl) (p_yof d.x (by omega) (by omega)) ?_
  rintro _ _ ⟨S1, t1, rfl, rfl⟩
  refine W.cl [] (by kernel_rfl) (p_yof d.y (by omega) (by omega)) ?_
  rintro _ _ ⟨S2, t2, rfl, rfl⟩
  refine W.cl [] (by kernel_rfl) (p_ymul S1 t1 S1 t1) ?_
  rintro _ _ ⟨S3, t3, rfl, rfl⟩
  refine W.cl [] (by kernel_rfl) (p_ymul S2 t2 S2 t2) ?_
  rintro _ _ ⟨S4, t4, rfl, rfl⟩
  refine W.cl [] (by kernel_rfl) (p_yadd S3 t3 S4 t4) ?_
  rintro _ _ ⟨S5, t5, rfl, rfl⟩
  exact W.r [] (yv S5 t5) (by kernel_rfl) ⟨S5, t5, rfl, rfl⟩ (entY (by omega) rfl)
theorem r_left (d : Dp) (hd : inD 4294967296 d) : PCalls tb Tryz.prog 67 [dv d] Γ (IsV (dv (leftD d))) := by
  unfold inD at hd
  refine PCalls.of_W tbOk Tryz.func67 rfl (by kernel_rfl) ?_
  refine W.r [] (.agg #[.int .i64 (IntKind.i64.wrap (0 - d.y)), .int .i64 d.x]) (by kernel_rfl) ⟨?_, rfl⟩ ent0
  rw [show IntKind.i64.wrap (0 - d.y) = -d.y by rw [IntKind.wrap_i64]; omega]
  rfl
theorem r_dneg (d : Dp) (hd : inD 4294967296 d) : PCalls tb Tryz.prog 24 [dv d] Γ (IsV (dv (negD d))) := by
  unfold inD at hd
  refine PCalls.of_W tbOk Tryz.func24 rfl (by kernel_rfl) ?_
  refine W.r [] (.agg #[.int .i64 (IntKind.i64.wrap (0 - d.x)), .int .i64 (IntKind.i64.wrap (0 - d.y))]) (by kernel_rfl) ⟨?_, rfl⟩ ent0
  rw [show IntKind.i64.wrap (0 - d.x) = -d.x by rw [IntKind.wrap_i64]; omega, show IntKind.i64.wrap (0 - d.y) = -d.y by rw [IntKind.wrap_i64]; omega]
  rfl
--<rtip
set_option maxHeartbeats 1000000 in
theorem r_tipF (p d : Dp) (S : Int) (s : Sl) (R : Int) (t : Sl) (S' : Int) (s' : Sl) (R' : Int) (t' : Sl) {h b : Rat} [Has (PF S s R t) (L, h) Γ] [Has (PF S' s' R' t') (M, b) Γ] (hd : inD 4294967296 d) (hL : L ≤ 20 ∧ M ≤ 20 := by omega) :
    PCalls tb Tryz.prog 27 [dv p, dv d, pv S s R t, pv S' s' R' t', .bool false] Γ (TwsQ (rtip p d h b false)) := by
  refine PCalls.of_W tbOk Tryz.func27 rfl (by kernel_rfl) ?_
  refine W.cl [] (by kernel_rfl) (r_sq9 d hd) ?_
  rintro _ _ ⟨S1, t1, rfl, rfl⟩
  refine W.cl [] (by kernel_rfl) (p_yof 2 (by omega) (by omega)) ?_
  rintro _ _ ⟨S2, t2, rfl, rfl⟩
  refine W.cl [] (by kernel_rfl) (r_left d hd) ?_
  rintro _ _ ⟨rfl, rfl⟩
  refine W.cl [] (by kernel_rfl) (s_of 0 (by omega) (by omega)) ?_
  rintro _ _ ⟨S4, s4, R4, t4, rfl, rfl⟩
  refine W.cl [] (by kernel_rfl) (s_neg S s R t) ?_
  rintro _ _ ⟨S5, s5, R5, t5, rfl, rfl⟩
  refine W.bs [] 1 (twc (⟨⟨p, d, S', s', R', t', S1, t1, false⟩, ⟨p, leftD d, S, s, R, t, S1, t1, false⟩, S1, t1, S2, t2, b, sqD d, h, sqD d, sqD d, 2⟩ : TwE)) tbOk (by kernel_rfl) (fun C0 => ?_)
  refine W.code 999 ?_
  refine W.more (by kernel_rfl) (entRA (b := C0) (xs := twc (⟨⟨p, d, S', s', R', t', S1, t1, false⟩, ⟨p, leftD d, S, s, R, t, S1, t1, false⟩, S1, t1, S2, t2, b, sqD d, h, sqD d, sqD d, 2⟩ : TwE)) (fun _ _ h => h)) ?_
  refine W.bs [39] 1 (twc (⟨⟨p, d, S', s', R', t', S1, t1, false⟩, ⟨p, leftD d, S5, s5, R5, t5, S1, t1, false⟩, S1, t1, S2, t2, b, sqD d, (-h), sqD d, sqD d, 2⟩ : TwE)) tbOk (by kernel_rfl) (fun C1 => ?_)
  refine W.apo [] [] 26 336 1 1 (some ⟨C0, 0, none⟩) (.slice (some ⟨C1, 0, none⟩) 1 1) (twc (⟨⟨p, d, S', s', R', t', S1, t1, false⟩, ⟨p, leftD d, S, s, R, t, S1, t1, false⟩, S1, t1, S2, t2, b, sqD d, h, sqD d, sqD d, 2⟩ : TwE)) (twc (⟨⟨p, d, S', s', R', t', S1, t1, false⟩, ⟨p, leftD d, S5, s5, R5, t5, S1, t1, false⟩, S1, t1, S2, t2, b, sqD d, (-h), sqD d, sqD d, 2⟩ : TwE)) tbOk (by kernel_rfl) rfl (by decide) (by decide) (reads_row C1 [] 1 26 rfl 1) (by decide) (by decide) (fun g0 cap0 cur0 h1 h2 h3 h4 => ?_)
  have hg0 : Grow 26 [(g0, cur0)] (.slice (some ⟨g0, 0, none⟩) (1 + 1) cap0) (1 + 1) (twc (⟨⟨p, d, S', s', R', t', S1, t1, false⟩, ⟨p, leftD d, S, s, R, t, S1, t1, false⟩, S1, t1, S2, t2, b, sqD d, h, sqD d, sqD d, 2⟩ : TwE) ++ twc (⟨⟨p, d, S', s', R', t', S1, t1, false⟩, ⟨p, leftD d, S5, s5, R5, t5, S1, t1, false⟩, S1, t1, S2, t2, b, sqD d, (-h), sqD d, sqD d, 2⟩ : TwE)) := ⟨rfl, .inr ⟨g0, cap0, cur0, rfl, rfl, h1, h2, h3, h4⟩⟩
  clear h1 h2 h3 h4
  refine W.pubgr (by first | kernel_rfl | (simp only [List.nil_append, List.append_nil]; kernel_rfl)) hg0 (by kernel_rfl) (fun ao c' hv hc' => ?_)
  injection hv with hv1 _ hv3
  subst hv1 hv3
  refine W.r [] (.slice (some ⟨g0, 0, none⟩) (1 + 1) cap0) (by kernel_rfl) ⟨g0, 0, cap0, [(⟨⟨p, d, S', s', R', t', S1, t1, false⟩, ⟨p, leftD d, S, s, R, t, S1, t1, false⟩, S1, t1, S2, t2, b, sqD d, h, sqD d, sqD d, 2⟩ : TwE), (⟨⟨p, d, S', s', R', t', S1, t1, false⟩, ⟨p, leftD d, S5, s5, R5, t5, S1, t1, false⟩, S1, t1, S2, t2, b, sqD d, (-h), sqD d, sqD d, 2⟩ : TwE)], rfl, hc', rfl, rfl⟩ (fun I w hI hh => holds1 ⟨fun e he => ?_, Has.p (k := RA (some ⟨g0, 0, none⟩)) (a := twc (⟨⟨p, d, S', s', R', t', S1, t1, false⟩, ⟨p, leftD d, S, s, R, t, S1, t1, false⟩, S1, t1, S2, t2, b, sqD d, h, sqD d, sqD d, 2⟩ : TwE) ++ twc (⟨⟨p, d, S', s', R', t', S1, t1, false⟩, ⟨p, leftD d, S5, s5, R5, t5, S1, t1, false⟩, S1, t1, S2, t2, b, sqD d, (-h), sqD d, sqD d, 2⟩ : TwE)) inferInstance hh⟩)
  simp only [List.mem_cons, List.not_mem_nil, or_false] at he
  rcases he with rfl | rfl
  · exact two_fact (⟨⟨p, d, S', s', R', t', S1, t1, false⟩, ⟨p, leftD d, S, s, R, t, S1, t1, false⟩, S1, t1, S2, t2, b, sqD d, h, sqD d, sqD d, 2⟩ : TwE) (by omega) I w hI hh
  · exact two_fact (⟨⟨p, d, S', s', R', t', S1, t1, false⟩, ⟨p, leftD d, S5, s5, R5, t5, S1, t1, false⟩, S1, t1, S2, t2, b, sqD d, (-h), sqD d, sqD d, 2⟩ : TwE) (by omega) I w hI hh
set_option maxHeartbeats 1000000 in
theorem r_tipT (p d : Dp) (S : Int) (s : Sl) (R : Int) (t : Sl) (S' : Int) (s' : Sl) (R' : Int) (t' : Sl) {h b : Rat} [Has (PF S s R t) (L, h) Γ] [Has (PF S' s' R' t') (M, b) Γ] (hd : inD 4294967296 d) (hL : L ≤ 20 ∧ M ≤ 20 := by omega) :
    PCalls tb Tryz.prog 27 [dv p, dv d, pv S s R t, pv S' s' R' t', .bool true] Γ (TwsQ (rtip p d h b true)) := by
  refine PCalls.of_W tbOk Tryz.func27 rfl (by kernel_rfl) ?_
  refine W.cl [] (by kernel_rfl) (r_sq9 d hd) ?_
  rintro _ _ ⟨S1, t1, rfl, rfl⟩
  refine W.cl [] (by kernel_rfl) (p_yof 2 (by omega) (by omega)) ?_
  rintro _ _ ⟨S2, t2, rfl, rfl⟩
  refine W.cl [] (by kernel_rfl) (r_left d hd) ?_
  rintro _ _ ⟨rfl, rfl⟩
  refine W.cl [] (by kernel_rfl) (s_of 0 (by omega) (by omega)) ?_
  rintro _ _ ⟨S4, s4, R4, t4, rfl, rfl⟩
  refine W.cl [] (by kernel_rfl) (s_neg S s R t) ?_
  rintro _ _ ⟨S5, s5, R5, t5, rfl, rfl⟩
  refine W.bs [] 1 (twc (⟨⟨p, d, S', s', R', t', S1, t1, false⟩, ⟨p, leftD d, S, s, R, t, S1, t1, false⟩, S1, t1, S2, t2, b, sqD d, h, sqD d, sqD d, 2⟩ : TwE)) tbOk (by kernel_rfl) (fun C0 => ?_)
  refine W.code 999 ?_
  refine W.more (by kernel_rfl) (entRA (b := C0) (xs := twc (⟨⟨p, d, S', s', R', t', S1, t1, false⟩, ⟨p, leftD d, S, s, R, t, S1, t1, false⟩, S1, t1, S2, t2, b, sqD d, h, sqD d, sqD d, 2⟩ : TwE)) (fun _ _ h => h)) ?_
  refine W.bs [39] 1 (twc (⟨⟨p, d, S, s, R, t, S1, t1, true⟩, ⟨p, leftD d, S, s, R, t, S1, t1, true⟩, S1, t1, S2, t2, h, sqD d, h, sqD d, sqD d, 2⟩ : TwE)) tbOk (by kernel_rfl) (fun C1 => ?_)
  refine W.apo [] [] 26 336 1 1 (some ⟨C0, 0, none⟩) (.slice (some ⟨C1, 0, none⟩) 1 1) (twc (⟨⟨p, d, S', s', R', t', S1, t1, false⟩, ⟨p, leftD d, S, s, R, t, S1, t1, false⟩, S1, t1, S2, t2, b, sqD d, h, sqD d, sqD d, 2⟩ : TwE)) (twc (⟨⟨p, d, S, s, R, t, S1, t1, true⟩, ⟨p, leftD d, S, s, R, t, S1, t1, true⟩, S1, t1, S2, t2, h, sqD d, h, sqD d, sqD d, 2⟩ : TwE)) tbOk (by kernel_rfl) rfl (by decide) (by decide) (reads_row C1 [] 1 26 rfl 1) (by decide) (by decide) (fun g0 cap0 cur0 h1 h2 h3 h4 => ?_)
  have hg0 : Grow 26 [(g0, cur0)] (.slice (some ⟨g0, 0, none⟩) (1 + 1) cap0) (1 + 1) (twc (⟨⟨p, d, S', s', R', t', S1, t1, false⟩, ⟨p, leftD d, S, s, R, t, S1, t1, false⟩, S1, t1, S2, t2, b, sqD d, h, sqD d, sqD d, 2⟩ : TwE) ++ twc (⟨⟨p, d, S, s, R, t, S1, t1, true⟩, ⟨p, leftD d, S, s, R, t, S1, t1, true⟩, S1, t1, S2, t2, h, sqD d, h, sqD d, sqD d, 2⟩ : TwE)) := ⟨rfl, .inr ⟨g0, cap0, cur0, rfl, rfl, h1, h2, h3, h4⟩⟩
  clear h1 h2 h3 h4
  refine W.bs [] 1 (twc (⟨⟨p, d, S, s, R, t, S1, t1, false⟩, ⟨p, leftD d, S4, s4, R4, t4, S1, t1, false⟩, S1, t1, S2, t2, h, sqD d, ((0 : Int) : Rat), sqD d, sqD d, 2⟩ : TwE)) tbOk (by kernel_rfl) (fun C2 => ?_)
  refine W.app [] [(g0, cur0)] [] [(g0, cur0)] [] 26 336 (1 + 1) 1 (.slice (some ⟨g0, 0, none⟩) (1 + 1) cap0) (.slice (some ⟨C2, 0, none⟩) 1 1) (twc (⟨⟨p, d, S', s', R', t', S1, t1, false⟩, ⟨p, leftD d, S, s, R, t, S1, t1, false⟩, S1, t1, S2, t2, b, sqD d, h, sqD d, sqD d, 2⟩ : TwE) ++ twc (⟨⟨p, d, S, s, R, t, S1, t1, true⟩, ⟨p, leftD d, S, s, R, t, S1, t1, true⟩, S1, t1, S2, t2, h, sqD d, h, sqD d, sqD d, 2⟩ : TwE)) (twc (⟨⟨p, d, S, s, R, t, S1, t1, false⟩, ⟨p, leftD d, S4, s4, R4, t4, S1, t1, false⟩, S1, t1, S2, t2, h, sqD d, ((0 : Int) : Rat), sqD d, sqD d, 2⟩ : TwE)) tbOk (by kernel_rfl) rfl hg0 (reads_row C2 [(g0, cur0)] 1 26 rfl 1) (two_one (⟨⟨p, d, S, s, R, t, S1, t1, false⟩, ⟨p, leftD d, S4, s4, R4, t4, S1, t1, false⟩, S1, t1, S2, t2, h, sqD d, ((0 : Int) : Rat), sqD d, sqD d, 2⟩ : TwE)) (by decide) (by decide) (fun v1 O1 hg1 => ?_)
  obtain ⟨g1, cap1, cur1, hv, hO, _⟩ := id hg1.own (by decide)
  subst hv hO
  refine W.bs [] 1 (twc (⟨⟨p, d, S, s, R, t, S1, t1, true⟩, ⟨p, leftD d, S5, s5, R5, t5, S1, t1, true⟩, S1, t1, S2, t2, h, sqD d, (-h), sqD d, sqD d, 2⟩ : TwE)) tbOk (by kernel_rfl) (fun C3 => ?_)
  refine W.app [] [(g1, cur1)] [] [(g1, cur1)] [] 26 336 (1 + 1 + 1) 1 (.slice (some ⟨g1, 0, none⟩) (1 + 1 + 1) cap1) (.slice (some ⟨C3, 0, none⟩) 1 1) (twc (⟨⟨p, d, S', s', R', t', S1, t1, false⟩, ⟨p, leftD d, S, s, R, t, S1, t1, false⟩, S1, t1, S2, t2, b, sqD d, h, sqD d, sqD d, 2⟩ : TwE) ++ twc (⟨⟨p, d, S, s, R, t, S1, t1, true⟩, ⟨p, leftD d, S, s, R, t, S1, t1, true⟩, S1, t1, S2, t2, h, sqD d, h, sqD d, sqD d, 2⟩ : TwE) ++ twc (⟨⟨p, d, S, s, R, t, S1, t1, false⟩, ⟨p, leftD d, S4, s4, R4, t4, S1, t1, false⟩, S1, t1, S2, t2, h, sqD d, ((0 : Int) : Rat), sqD d, sqD d, 2⟩ : TwE)) (twc (⟨⟨p, d, S, s, R, t, S1, t1, true⟩, ⟨p, leftD d, S5, s5, R5, t5, S1, t1, true⟩, S1, t1, S2, t2, h, sqD d, (-h), sqD d, sqD d, 2⟩ : TwE)) tbOk (by kernel_rfl) rfl hg1 (reads_row C3 [(g1, cur1)] 1 26 rfl 1) (two_one (⟨⟨p, d, S, s, R, t, S1, t1, true⟩, ⟨p, leftD d, S5, s5, R5, t5, S1, t1, true⟩, S1, t1, S2, t2, h, sqD d, (-h), sqD d, sqD d, 2⟩ : TwE)) (by decide) (by decide) (fun v2 O2 hg2 => ?_)
  obtain ⟨g2, cap2, cur2, hv, hO, _⟩ := id hg2.own (by decide)
  subst hv hO
  refine W.bs [] 1 (twc (⟨⟨p, d, S', s', R', t', S1, t1, false⟩, ⟨p, leftD d, S5, s5, R5, t5, S1, t1, false⟩, S1, t1, S2, t2, b, sqD d, (-h), sqD d, sqD d, 2⟩ : TwE)) tbOk (by kernel_rfl) (fun C4 => ?_)
  refine W.app [] [(g2, cur2)] [] [(g2, cur2)] [] 26 336 (1 + 1 + 1 + 1) 1 (.slice (some ⟨g2, 0, none⟩) (1 + 1 + 1 + 1) cap2) (.slice (some ⟨C4, 0, none⟩) 1 1) (twc (⟨⟨p, d, S', s', R', t', S1, t1, false⟩, ⟨p, leftD d, S, s, R, t, S1, t1, false⟩, S1, t1, S2, t2, b, sqD d, h, sqD d, sqD d, 2⟩ : TwE) ++ twc (⟨⟨p, d, S, s, R, t, S1, t1, true⟩, ⟨p, leftD d, S, s, R, t, S1, t1, true⟩, S1, t1, S2, t2, h, sqD d, h, sqD d, sqD d, 2⟩ : TwE) ++ twc (⟨⟨p, d, S, s, R, t, S1, t1, false⟩, ⟨p, leftD d, S4, s4, R4, t4, S1, t1, false⟩, S1, t1, S2, t2, h, sqD d, ((0 : Int) : Rat), sqD d, sqD d, 2⟩ : TwE) ++ twc (⟨⟨p, d, S, s, R, t, S1, t1, true⟩, ⟨p, leftD d, S5, s5, R5, t5, S1, t1, true⟩, S1, t1, S2, t2, h, sqD d, (-h), sqD d, sqD d, 2⟩ : TwE)) (twc (⟨⟨p, d, S', s', R', t', S1, t1, false⟩, ⟨p, leftD d, S5, s5, R5, t5, S1, t1, false⟩, S1, t1, S2, t2, b, sqD d, (-h), sqD d, sqD d, 2⟩ : TwE)) tbOk (by kernel_rfl) rfl hg2 (reads_row C4 [(g2, cur2)] 1 26 rfl 1) (two_one (⟨⟨p, d, S', s', R', t', S1, t1, false⟩, ⟨p, leftD d, S5, s5, R5, t5, S1, t1, false⟩, S1, t1, S2, t2, b, sqD d, (-h), sqD d, sqD d, 2⟩ : TwE)) (by decide) (by decide) (fun v3 O3 hg3 => ?_)
  obtain ⟨g3, cap3, cur3, hv, hO, _⟩ := id hg3.own (by decide)
  subst hv hO
  refine W.pubgr (by first | kernel_rfl | (simp only [List.nil_append, List.append_nil]; kernel_rfl)) hg3 (by kernel_rfl) (fun ao c' hv hc' => ?_)
  injection hv with hv1 _ hv3
  subst hv1 hv3
  refine W.r [] (.slice (some ⟨g3, 0, none⟩) (1 + 1 + 1 + 1 + 1) cap3) (by kernel_rfl) ⟨g3, 0, cap3, [(⟨⟨p, d, S', s', R', t', S1, t1, false⟩, ⟨p, leftD d, S, s, R, t, S1, t1, false⟩, S1, t1, S2, t2, b, sqD d, h, sqD d, sqD d, 2⟩ : TwE), (⟨⟨p, d, S, s, R, t, S1, t1, true⟩, ⟨p, leftD d, S, s, R, t, S1, t1, true⟩, S1, t1, S2, t2, h, sqD d, h, sqD d, sqD d, 2⟩ : TwE), (⟨⟨p, d, S, s, R, t, S1, t1, false⟩, ⟨p, leftD d, S4, s4, R4, t4, S1, t1, false⟩, S1, t1, S2, t2, h, sqD d, ((0 : Int) : Rat), sqD d, sqD d, 2⟩ : TwE), (⟨⟨p, d, S, s, R, t, S1, t1, true⟩, ⟨p, leftD d, S5, s5, R5, t5, S1, t1, true⟩, S1, t1, S2, t2, h, sqD d, (-h), sqD d, sqD d, 2⟩ : TwE), (⟨⟨p, d, S', s', R', t', S1, t1, false⟩, ⟨p, leftD d, S5, s5, R5, t5, S1, t1, false⟩, S1, t1, S2, t2, b, sqD d, (-h), sqD d, sqD d, 2⟩ : TwE)], rfl, hc', rfl, rfl⟩ (fun I w hI hh => holds1 ⟨fun e he => ?_, Has.p (k := RA (some ⟨g3, 0, none⟩)) (a := twc (⟨⟨p, d, S', s', R', t', S1, t1, false⟩, ⟨p, leftD d, S, s, R, t, S1, t1, false⟩, S1, t1, S2, t2, b, sqD d, h, sqD d, sqD d, 2⟩ : TwE) ++ twc (⟨⟨p, d, S, s, R, t, S1, t1, true⟩, ⟨p, leftD d, S, s, R, t, S1, t1, true⟩, S1, t1, S2, t2, h, sqD d, h, sqD d, sqD d, 2⟩ : TwE) ++ twc (⟨⟨p, d, S, s, R, t, S1, t1, false⟩, ⟨p, leftD d, S4, s4, R4, t4, S1, t1, false⟩, S1, t1, S2, t2, h, sqD d, ((0 : Int) : Rat), sqD d, sqD d, 2⟩ : TwE) ++ twc (⟨⟨p, d, S, s, R, t, S1, t1, true⟩, ⟨p, leftD d, S5, s5, R5, t5, S1, t1, true⟩, S1, t1, S2, t2, h, sqD d, (-h), sqD d, sqD d, 2⟩ : TwE) ++ twc (⟨⟨p, d, S', s', R', t', S1, t1, false⟩, ⟨p, leftD d, S5, s5, R5, t5, S1, t1, false⟩, S1, t1, S2, t2, b, sqD d, (-h), sqD d, sqD d, 2⟩ : TwE)) inferInstance hh⟩)
  simp only [List.mem_cons, List.not_mem_nil, or_false] at he
  rcases he with rfl | rfl | rfl | rfl | rfl
  · exact two_fact (⟨⟨p, d, S', s', R', t', S1, t1, false⟩, ⟨p, leftD d, S, s, R, t, S1, t1, false⟩, S1, t1, S2, t2, b, sqD d, h, sqD d, sqD d, 2⟩ : TwE) (by omega) I w hI hh
  · exact two_fact (⟨⟨p, d, S, s, R, t, S1, t1, true⟩, ⟨p, leftD d, S, s, R, t, S1, t1, true⟩, S1, t1, S2, t2, h, sqD d, h, sqD d, sqD d, 2⟩ : TwE) (by omega) I w hI hh
  · exact two_fact (⟨⟨p, d, S, s, R, t, S1, t1, false⟩, ⟨p, leftD d, S4, s4, R4, t4, S1, t1, false⟩, S1, t1, S2, t2, h, sqD d, ((0 : Int) : Rat), sqD d, sqD d, 2⟩ : TwE) (by omega) I w hI hh
  · exact two_fact (⟨⟨p, d, S, s, R, t, S1, t1, true⟩, ⟨p, leftD d, S5, s5, R5, t5, S1, t1, true⟩, S1, t1, S2, t2, h, sqD d, (-h), sqD d, sqD d, 2⟩ : TwE) (by omega) I w hI hh
  · exact two_fact (⟨⟨p, d, S', s', R', t', S1, t1, false⟩, ⟨p, leftD d, S5, s5, R5, t5, S1, t1, false⟩, S1, t1, S2, t2, b, sqD d, (-h), sqD d, sqD d, 2⟩ : TwE) (by omega) I w hI hh
-->rtip
end
end Go.Proofs.YtaafmafdnnjmdaaGreat
