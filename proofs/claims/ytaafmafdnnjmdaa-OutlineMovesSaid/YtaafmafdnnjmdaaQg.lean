/- How great the numbers of places are. -/
import Derived.Test.YtaafmafdnnjmdaaQe
import Derived.Test.YtaafmafdnnjmdaaRk
set_option linter.unusedSimpArgs false
set_option linter.unusedVariables false
namespace Go.Proofs.Ytaafmafdnnjmdaa
open Go.RowKit Go.IntWalk

/-- So many bits, in threes. -/
def pbits : Nat := 198
structure PaB (q : Pa) : Prop where
  x : q.d.x.natAbs < 2 ^ 34
  y : q.d.y.natAbs < 2 ^ 34
  a : bq 235 q.a
  b : bq 235 q.b
  c : bq 235 q.c
  e : bq 235 q.e
theorem al_bits {m n : Int} {p : Dp} {u v : Pa} (hm : m.natAbs < 2 ^ 67) (hn : n.natAbs < 2 ^ 67) (hp : inD 2147483648 p) (hu : PaB u) (hv : PaB v) : bS (3 * pbits) (al m n p [u, v]).1 ∧ bS (3 * pbits) (al m n p [u, v]).2 := by
  unfold inD at hp
  have m1 : ∀ {z : Int}, z.natAbs < 2 ^ 67 → z.natAbs < 2 ^ (3 * pbits) := fun h => Nat.lt_of_lt_of_le h (pow_mono2 (by decide))
  have px : bq 32 (p.x : Rat) := bq.int (by omega) (by decide)
  have py : bq 32 (p.y : Rat) := bq.int (by omega) (by decide)
  have z0 : bq 1 (0 : Rat) := bq.zero 1 (by decide)
  have key : ∀ {q r s : Rat} {d e : Int} {k : Nat}, bq k q → k ≤ 32 → bq 235 r → bq 235 s → d.natAbs < 2 ^ 34 → e.natAbs < 2 ^ 34 → bq (3 * pbits) (q + r * (d : Rat) + s * (e : Rat)) := @fun q r s d e k h1 hk h2 h3 h4 h5 =>
    ((h1.add (h2.mul (bq.int h4 (by decide)))).add (h3.mul (bq.int h5 (by decide)))).mono (Nat.le_trans (show k + (235 + 34) + 1 + (235 + 34) + 1 ≤ 594 by omega) (by decide))
  refine ⟨⟨m1 hm, m1 hn, key px (by decide) hu.a hv.a hu.x hv.x, key z0 (by decide) hu.b hv.b hu.x hv.x, key z0 (by decide) hu.c hv.c hu.x hv.x, key z0 (by decide) hu.e hv.e hu.x hv.x⟩,
    ⟨m1 hm, m1 hn, key py (by decide) hu.a hv.a hu.y hv.y, key z0 (by decide) hu.b hv.b hu.y hv.y, key z0 (by decide) hu.c hv.c hu.y hv.y, key z0 (by decide) hu.e hv.e hu.y hv.y⟩⟩
theorem al_bits1 {m n : Int} {p : Dp} {u : Pa} (hm : m.natAbs < 2 ^ 67) (hn : n.natAbs < 2 ^ 67) (hp : inD 2147483648 p) (hu : PaB u) : bS (3 * pbits) (al m n p [u]).1 ∧ bS (3 * pbits) (al m n p [u]).2 := by
  unfold inD at hp
  have m1 : ∀ {z : Int}, z.natAbs < 2 ^ 67 → z.natAbs < 2 ^ (3 * pbits) := fun h => Nat.lt_of_lt_of_le h (pow_mono2 (by decide))
  have px : bq 32 (p.x : Rat) := bq.int (by omega) (by decide)
  have py : bq 32 (p.y : Rat) := bq.int (by omega) (by decide)
  have z0 : bq 1 (0 : Rat) := bq.zero 1 (by decide)
  have key : ∀ {q r : Rat} {d : Int} {k : Nat}, bq k q → k ≤ 32 → bq 235 r → d.natAbs < 2 ^ 34 → bq (3 * pbits) (q + r * (d : Rat)) := @fun q r d k h1 hk h2 h4 =>
    (h1.add (h2.mul (bq.int h4 (by decide)))).mono (Nat.le_trans (show k + (235 + 34) + 1 ≤ 594 by omega) (by decide))
  refine ⟨⟨m1 hm, m1 hn, key px (by decide) hu.a hu.x, key z0 (by decide) hu.b hu.x, key z0 (by decide) hu.c hu.x, key z0 (by decide) hu.e hu.x⟩,
    ⟨m1 hm, m1 hn, key py (by decide) hu.a hu.y, key z0 (by decide) hu.b hu.y, key z0 (by decide) hu.c hu.y, key z0 (by decide) hu.e hu.y⟩⟩
theorem sqd_bits {d : Dp} (h : inD 4294967296 d) : (sqD d).natAbs < 2 ^ 67 := by
  unfold inD at h
  have h1 : d.x.natAbs * d.x.natAbs ≤ 4294967296 * 4294967296 := Nat.mul_le_mul (by omega) (by omega)
  have h2 : d.y.natAbs * d.y.natAbs ≤ 4294967296 * 4294967296 := Nat.mul_le_mul (by omega) (by omega)
  have e : (sqD d).natAbs ≤ d.x.natAbs * d.x.natAbs + d.y.natAbs * d.y.natAbs := by
    unfold sqD
    rw [← Int.natAbs_mul, ← Int.natAbs_mul]
    exact Int.natAbs_add_le _ _
  exact Nat.lt_of_le_of_lt e (Nat.lt_of_le_of_lt (Nat.add_le_add h1 h2) (by decide))
theorem dotd_bits {d e : Dp} (h : inD 4294967296 d) (g : inD 4294967296 e) : (dotD d e).natAbs < 2 ^ 67 := by
  unfold inD at h g
  have h1 : d.x.natAbs * e.x.natAbs ≤ 4294967296 * 4294967296 := Nat.mul_le_mul (by omega) (by omega)
  have h2 : d.y.natAbs * e.y.natAbs ≤ 4294967296 * 4294967296 := Nat.mul_le_mul (by omega) (by omega)
  have e : (dotD d e).natAbs ≤ d.x.natAbs * e.x.natAbs + d.y.natAbs * e.y.natAbs := by
    unfold dotD
    rw [← Int.natAbs_mul, ← Int.natAbs_mul]
    exact Int.natAbs_add_le _ _
  exact Nat.lt_of_le_of_lt e (Nat.lt_of_le_of_lt (Nat.add_le_add h1 h2) (by decide))
theorem dird_bits {d : Dp} (h : inD 4294967296 d) : d.x.natAbs < 2 ^ 34 ∧ d.y.natAbs < 2 ^ 34 := by
  unfold inD at h
  omega
theorem turn_in {d : Dp} (h : inD 4294967296 d) : inD 4294967296 (leftD d) ∧ inD 4294967296 (rightD d) ∧ inD 4294967296 (negD d) := by
  unfold inD leftD rightD negD at *
  simp only
  omega
theorem invd_bits {z : Int} {k : Nat} (h0 : 0 < z) (h : z.natAbs < 2 ^ k) (hk : 1 ≤ k) : bq k (Rat.divInt 1 z) := bq.of h0 rfl (by
  show 1 < 2 ^ k
  exact Nat.one_lt_two_pow (by omega)) h
theorem unit_pb {d : Dp} {q : Rat} (hd : inD 4294967296 d) (h0 : 0 < sqD d) (hq : bq 34 q) : PaB (unitP d q) :=
  ⟨(dird_bits hd).1, (dird_bits hd).2, bq.zero _ (by decide), (hq.mul (invd_bits h0 (sqd_bits hd) (by decide))).mono (by decide), bq.zero _ (by decide), bq.zero _ (by decide)⟩
theorem slant_pb {d : Dp} {q : Rat} (hd : inD 4294967296 d) (h0 : 0 < sqD d) (hq : bq 34 q) : PaB (slantP d q) :=
  ⟨(dird_bits hd).1, (dird_bits hd).2, bq.zero _ (by decide), bq.zero _ (by decide), bq.zero _ (by decide), (hq.mul (invd_bits (k := 68) (by omega) (by have := sqd_bits hd; rw [Int.natAbs_mul]; show _ * 2 < 2 ^ 68; omega) (by decide))).mono (by decide)⟩
def AllB (l : List (Sn × Sn)) : Prop := ∀ P ∈ l, bS (3 * pbits) P.1 ∧ bS (3 * pbits) P.2
theorem tip_pb {p d : Dp} (hp : inD 2147483648 p) (hd : inD 4294967296 d) (h0 : sqD d ≠ 0) {h b : Rat} (hh : bq 34 h) (hb : bq 34 b) (r : Bool) : AllB (tipL p d h b r) := by
  have hm := sqd_bits hd
  have hp0 : 0 < sqD d := by have := sqD_nn d; omega
  have t1 := turn_in hd
  obtain ⟨s1, s2⟩ := sq_turn d
  have h2 : (2 : Int).natAbs < 2 ^ 67 := by decide
  have ud := unit_pb hd hp0 hb
  have uh := unit_pb hd hp0 hh
  have ul := unit_pb t1.1 (by rw [s1]; exact hp0) hh
  have ur := unit_pb t1.2.1 (by rw [s2]; exact hp0) hh
  have sd := slant_pb hd hp0 hh
  have sl := slant_pb t1.1 (by rw [s1]; exact hp0) hh
  have sr := slant_pb t1.2.1 (by rw [s2]; exact hp0) hh
  intro P hP
  unfold tipL at hP
  cases r with
  | false =>
    simp only [List.mem_cons, Bool.false_eq_true, if_false, List.nil_append, List.not_mem_nil, or_false] at hP
    rcases hP with rfl | rfl
    · exact al_bits hm h2 hp ud ul
    · exact al_bits hm h2 hp ud ur
  | true =>
    simp only [List.mem_cons, if_true, List.mem_append, List.not_mem_nil, or_false] at hP
    rcases hP with rfl | (rfl | rfl | rfl) | rfl
    · exact al_bits hm h2 hp ud ul
    · exact al_bits hm h2 hp sd sl
    · exact al_bits1 hm h2 hp uh
    · exact al_bits hm h2 hp sd sr
    · exact al_bits hm h2 hp ud ur
theorem miter_pb {p d e : Dp} (hp : inD 2147483648 p) (hd : inD 4294967296 d) (he : inD 4294967296 e) (h0 : dotD (leftD d) e ≠ 0) {h : Rat} (hh : bq 34 h) : bS (3 * pbits) (miterP p d e h).1 ∧ bS (3 * pbits) (miterP p d e h).2 := by
  have hm := sqd_bits hd
  have hn := sqd_bits he
  have ht := dotd_bits hd he
  have tl := turn_in hd
  have te := turn_in he
  have hc := dotd_bits tl.1 he
  have hcc : bq 134 (Rat.divInt 1 (dotD (leftD d) e * dotD (leftD d) e)) := by
    refine invd_bits ?_ ?_ (by decide)
    · rcases Int.lt_or_gt_of_ne h0 with h | h
      · exact Int.mul_pos_of_neg_of_neg h h
      · exact Int.mul_pos h h
    · rw [Int.natAbs_mul, show (134 : Nat) = 67 + 67 by decide, Nat.pow_add]
      exact Nat.mul_lt_mul'' hc hc
  have hk : bq 168 (h / ((dotD (leftD d) e * dotD (leftD d) e : Int) : Rat)) := by
    have e1 : h / ((dotD (leftD d) e * dotD (leftD d) e : Int) : Rat) = h * Rat.divInt 1 (dotD (leftD d) e * dotD (leftD d) e) := by
      rw [Rat.divInt_eq_div, Rat.div_def, Rat.div_def, show ((1 : Int) : Rat) = 1 from rfl, Rat.one_mul]
    rw [e1]
    exact (hh.mul hcc).mono (by decide)
  have i1 : ∀ {z : Int}, z.natAbs < 2 ^ 67 → bq 235 (h / ((dotD (leftD d) e * dotD (leftD d) e : Int) : Rat) * (z : Rat)) := fun hz => (hk.mul (bq.int hz (by decide))).mono (by decide)
  have ht' : (-(dotD d e)).natAbs < 2 ^ 67 := by rw [Int.natAbs_neg]; exact ht
  exact al_bits hm hn hp ⟨(dird_bits tl.1).1, (dird_bits tl.1).2, bq.zero _ (by decide), i1 hn, i1 ht', bq.zero _ (by decide)⟩ ⟨(dird_bits te.1).1, (dird_bits te.1).2, bq.zero _ (by decide), i1 ht', i1 hm, bq.zero _ (by decide)⟩
theorem miters_bits {h : Rat} (hh : bq 34 h) : ∀ (c w : List Dp), (∀ p ∈ c, inD 2147483648 p) → (∀ d ∈ w, inD 4294967296 d) → (∀ (i : Nat) (d e : Dp), w[i]? = some d → w[i + 1]? = some e → dotD (leftD d) e ≠ 0) → AllB (miters h c w)
  | p :: c, d :: e :: w, hc, hw, hx => fun P hP => by
    simp only [miters, List.mem_cons] at hP
    rcases hP with rfl | hP
    · exact miter_pb (hc p (by simp)) (hw d (by simp)) (hw e (by simp)) (hx 0 d e rfl rfl) hh
    · exact miters_bits hh c (e :: w) (fun q hq => hc q (List.mem_cons_of_mem _ hq)) (fun q hq => hw q (List.mem_cons_of_mem _ hq)) (fun i a b ha hb => hx (i + 1) a b ha hb) P hP
  | [], _, _, _, _ => fun P hP => by simp [miters] at hP
  | _ :: _, [], _, _, _ => fun P hP => by simp [miters] at hP
  | _ :: _, [_], _, _, _ => fun P hP => by simp [miters] at hP
theorem places_bits {c w : List Dp} (hf : FwOk c w) (hw : 0 < w.length) (hb : ¬ ∃ (i : Nat) (d e : Dp), w[i]? = some d ∧ w[i + 1]? = some e ∧ e = negD d) (hc : ∀ p ∈ c, inD 2147483648 p) {width kind bg en : Int} (h1 : 1 ≤ width) (h2 : width ≤ 2147483647) (h3 : -2147483647 ≤ bg ∧ bg ≤ 2147483647) (h4 : -2147483647 ≤ en ∧ en ≤ 2147483647) : AllB (places c w width kind bg en) := by
  have hl := hf.len
  have hway : ∀ (i : Nat) (d : Dp), w[i]? = some d → ∃ a b, a ∈ c ∧ b ∈ c ∧ a ≠ b ∧ d = wayv a b := fun i d hd => by
    have hi := (List.getElem?_eq_some_iff.1 hd).1
    obtain ⟨n1, e1⟩ := hf.way i _ _ d (List.getElem?_eq_getElem (by omega)) (List.getElem?_eq_getElem (by omega)) hd
    exact ⟨_, _, List.getElem_mem _, List.getElem_mem _, n1, e1⟩
  have hprim : ∀ (i : Nat) (d : Dp), w[i]? = some d → gcdD d = 1 := fun i d hd => by
    obtain ⟨a, b, _, _, h, e⟩ := hway i d hd
    rw [e]
    exact prim_way h
  have hin : ∀ d ∈ w, inD 4294967296 d := fun d hd => by
    obtain ⟨i, hi⟩ := List.getElem?_of_mem hd
    obtain ⟨a, b, ha, hb, h, e⟩ := hway i d hi
    rw [e]
    exact way_in (hc a ha) (hc b hb) h
  have hcr : ∀ (i : Nat) (d e : Dp), w[i]? = some d → w[i + 1]? = some e → dotD (leftD d) e ≠ 0 := fun i d e hd he =>
    cross_ne (hprim i d hd) (hprim (i + 1) e he) (hf.turn i d e hd he) (fun h => hb ⟨i, d, e, hd, he, h⟩)
  have hh : bq 34 (Rat.divInt width 2) := bq.of (by decide) rfl (by omega) (by decide)
  have e1 : bq 34 (endsOf kind bg en (Rat.divInt width 2)).1 ∧ bq 34 (endsOf kind bg en (Rat.divInt width 2)).2 := by
    unfold endsOf
    split
    · exact ⟨hh, hh⟩
    · split
      · exact ⟨bq.int (by omega) (by decide), bq.int (by omega) (by decide)⟩
      · exact ⟨bq.zero _ (by decide), bq.zero _ (by decide)⟩
  have g0 : ∀ k, k < c.length → inD 2147483648 (c.getD k ⟨0, 0⟩) := fun k hk => by
    rw [List.getD_eq_getElem?_getD, List.getElem?_eq_getElem hk]
    exact hc _ (List.getElem_mem _)
  have g1 : ∀ k, k < w.length → inD 4294967296 (w.getD k ⟨0, 0⟩) ∧ sqD (w.getD k ⟨0, 0⟩) ≠ 0 := fun k hk => by
    rw [List.getD_eq_getElem?_getD, List.getElem?_eq_getElem hk]
    exact ⟨hin _ (List.getElem_mem _), sqD_ne (nz_prim (hprim k _ (List.getElem?_eq_getElem hk)))⟩
  have s0 : sqD (negD (w.getD 0 ⟨0, 0⟩)) ≠ 0 := by
    have := (g1 0 hw).2
    unfold sqD negD at *
    simp only [Int.neg_mul_neg]
    exact this
  have t0 := tip_pb (g0 0 (by omega)) (turn_in (g1 0 hw).1).2.2 s0 hh e1.1 (kind == 1)
  have t1 := tip_pb (g0 (c.length - 1) (by omega)) (g1 (w.length - 1) (by omega)).1 (g1 (w.length - 1) (by omega)).2 hh e1.2 (kind == 1)
  have ht : ∀ p ∈ c.tail, inD 2147483648 p := fun p hp => hc p (List.mem_of_mem_tail hp)
  intro P hP
  unfold places at hP
  simp only [List.mem_append, List.mem_reverse] at hP
  rcases hP with (((hP | hP) | hP) | hP) | hP
  · exact t0 P (List.mem_of_mem_drop hP)
  · exact miters_bits hh _ _ ht hin hcr P hP
  · exact t1 P hP
  · exact miters_bits hh.neg _ _ ht hin hcr P hP
  · exact t0 P (List.mem_of_mem_take hP)
end Go.Proofs.Ytaafmafdnnjmdaa
