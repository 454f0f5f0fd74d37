/- A path that is turned by quarters and moved has places that are so. -/
import Derived.Test.YtaafmafdnnjmdaaRows
import Derived.Test.YtaafmafdnnjmdaaQm
import Derived.Test.YtaafmafdnnjmdaaJn
import Derived.Test.YtaafmafdnnjmdaaLawZ
import Derived.Test.YtaafmafdnnjmdaaVs
set_option linter.unusedSimpArgs false
set_option linter.unusedVariables false
namespace Go.Proofs.Ytaafmafdnnjmdaa
open Go.RowKit Go.IntWalk
/-- No place is of a second radicand of 0. -/
def AllN (l : List (Sn × Sn)) : Prop := ∀ P ∈ l, P.1.n ≠ 0
theorem miters_n (h : Rat) : ∀ (c w : List Dp), (∀ d ∈ w, sqD d ≠ 0) → AllN (miters h c w)
  | p :: c, d :: e :: w, hw => fun P hP => by
    simp only [miters, List.mem_cons] at hP
    rcases hP with rfl | hP
    · exact hw e (by simp)
    · exact miters_n h c (e :: w) (fun q hq => hw q (List.mem_cons_of_mem _ hq)) P hP
  | [], _, _ => fun P hP => by simp [miters] at hP
  | _ :: _, [], _ => fun P hP => by simp [miters] at hP
  | _ :: _, [_], _ => fun P hP => by simp [miters] at hP
theorem tip_n (p d : Dp) (h b : Rat) (r : Bool) : AllN (tipL p d h b r) := fun P hP => by
  unfold tipL at hP
  cases r with
  | false =>
    simp only [List.mem_cons, Bool.false_eq_true, if_false, List.nil_append, List.not_mem_nil, or_false] at hP
    rcases hP with rfl | rfl <;> exact (show (2 : Int) ≠ 0 by decide)
  | true =>
    simp only [List.mem_cons, if_true, List.mem_append, List.not_mem_nil, or_false] at hP
    rcases hP with rfl | (rfl | rfl | rfl) | rfl <;> exact (show (2 : Int) ≠ 0 by decide)
theorem places_n {c w : List Dp} (hw : ∀ d ∈ w, sqD d ≠ 0) (width kind bg en : Int) : AllN (places c w width kind bg en) := fun P hP => by
  unfold places at hP
  simp only [List.mem_append, List.mem_reverse] at hP
  rcases hP with (((hP | hP) | hP) | hP) | hP
  · exact tip_n _ _ _ _ _ P (List.mem_of_mem_drop hP)
  · exact miters_n _ _ _ hw P hP
  · exact tip_n _ _ _ _ _ P hP
  · exact miters_n _ _ _ hw P hP
  · exact tip_n _ _ _ _ _ P (List.mem_of_mem_take hP)
theorem corn_in : ∀ (pts : List Dp) (s : List Dp × List Dp), (∀ p ∈ pts, inD 2147483648 p) → (∀ p ∈ s.1, inD 2147483648 p) → ∀ p ∈ (pts.foldl push s).1, inD 2147483648 p
  | [], _, _, h => h
  | q :: r, s, hq, h => corn_in r (push s q) (fun p hp => hq p (List.mem_cons_of_mem _ hp)) (fun p hp => by
    obtain ⟨R, w⟩ := s
    match R, h with
    | [], h =>
      simp [push] at hp
      subst hp
      exact hq _ List.mem_cons_self
    | l :: R', h =>
      simp only [push] at hp
      split at hp
      · exact h p hp
      · split at hp
        · rcases List.mem_cons.1 hp with rfl | hp
          · exact hq _ List.mem_cons_self
          · exact h p (List.mem_cons_of_mem _ hp)
        · rcases List.mem_cons.1 hp with rfl | hp
          · exact hq _ List.mem_cons_self
          · exact h p hp)
/-- A place's field, and how great its numbers are. -/
structure PlOk (P : Sn × Sn) : Prop where
  m : P.2.m = P.1.m
  n : P.2.n = P.1.n
  m0 : 0 ≤ P.1.m
  n0 : 0 < P.1.n
  b1 : bS (3 * pbits) P.1
  b2 : bS (3 * pbits) P.2
theorem all_ok {ps : List Dp} {width kind bg en : Int} (h0 : oerr ps width kind bg en = 0) : ∀ P ∈ places (corn ps).1.reverse (corn ps).2.reverse width kind bg en, PlOk P := by
  obtain ⟨_, hb, ho, hc2, hbk⟩ := oerr_zero h0
  have hok : CornOk (corn ps).1 (corn ps).2 := corn_ok ps ([], []) rfl
  have hne : (corn ps).1 ≠ [] := fun e => by rw [e] at hc2; simp at hc2
  have hf := fw_ok hok hne
  have hl := hf.len
  have hw : 0 < (corn ps).2.reverse.length := by
    rw [List.length_reverse] at hl
    omega
  have hin : ∀ p ∈ (corn ps).1.reverse, inD 2147483648 p := fun p hp => corn_in ps ([], []) (in_of ho) (by simp) p (List.mem_reverse.1 hp)
  have hnb : ¬ ∃ (i : Nat) (d e : Dp), (corn ps).2.reverse[i]? = some d ∧ (corn ps).2.reverse[i + 1]? = some e ∧ e = negD d := fun h => by
    rw [(back_fw _).2 h] at hbk
    simp at hbk
  obtain ⟨_, w1, w2, w3, w4, w5, w6⟩ := argBad_good.1 hb
  have hsq : ∀ d ∈ (corn ps).2.reverse, sqD d ≠ 0 := fun d hd => by
    obtain ⟨i, hi⟩ := List.getElem?_of_mem hd
    have hi' := (List.getElem?_eq_some_iff.1 hi).1
    obtain ⟨n1, e1⟩ := hf.way i _ _ d (List.getElem?_eq_getElem (by omega)) (List.getElem?_eq_getElem (by omega)) hi
    rw [e1]
    exact sqD_ne (nz_prim (prim_way n1))
  have hL := places_lies hf hw hnb width kind bg en
  have hB := places_bits (kind := kind) hf hw hnb hin w1 w2 ⟨w3, w4⟩ ⟨w5, w6⟩
  intro P hP
  obtain ⟨i, hi⟩ := List.getElem?_of_mem hP
  have hi' := (List.getElem?_eq_some_iff.1 hi).1
  have l := hL.2 i P _ hi (List.getElem?_eq_getElem (by rw [← hL.1]; exact hi'))
  have hn := places_n hsq width kind bg en P hP
  have n1 := l.xn
  have n2 := l.n0
  exact ⟨by rw [l.ym, l.xm], by rw [l.yn, l.xn], by rw [l.xm]; exact l.m0, by omega, (hB P hP).1, (hB P hP).2⟩
section
variable {P : Program} {fin : VS → List Fact → Prop} {c : Cfg} {Γ : List Fact} {L M : Nat}
theorem p_zofE (y a : Int) (hy : y = a) (h1 : -9223372036854775808 ≤ a) (h2 : a < 9223372036854775808) : PCalls tb Try.prog 17 [.int .i64 y] Γ (ZPost 2 a) := by
  subst hy
  exact p_zof y h1 h2
theorem p_omakeE (y o : Int) (hy : y = o) (g : Qw) (a c : Qw) {X Y Z : Rat} {L1 L2 L3 : Nat} [Has (QG g) (L1, X) Γ] [Has (QG a) (L2, Y) Γ] [Has (QG c) (L3, Z) Γ] (ho : 0 ≤ o ∧ o ≤ 7) (hX : 0 < X.num.sign) (hL : L1 ≤ 1000000 := by omega) :
    PCalls tb Try.prog 15 [.bool false, qv g.n g.a g.m g.b, .int .i64 y, qv a.n a.a a.m a.b, qv c.n c.a c.m c.b] Γ (fun v Δ => v = .tuple #[ttv false y g a nilQ c nilQ, .int .i64 0] ∧ Δ = [OF ⟨g, a, nilQ, c, nilQ⟩ (max L1 (max L2 L3), ⟨false, o, X, Y, 0, Z, 0⟩)]) := by
  subst hy
  exact p_omake false g y a c ho hX hL
theorem p_oatY (V : On) (y : Int) (hy : y = V.o) (hf : V.f = false) (x : Q5) (a b : Int) {k : Nat} {X Y : Sn} [Has (OF x) (L, V) Γ] (hk : bO k V) (ho : 0 ≤ V.o ∧ V.o ≤ 7) (ha : -9223372036854775808 ≤ a ∧ a < 9223372036854775808) (hb : -9223372036854775808 ≤ b ∧ b < 9223372036854775808) (hX : V.X a b = X) (hY : V.Y a b = Y) (hL : L ≤ 10000 := by omega) :
    PCalls tb Try.prog 19 [ttv false y x.g x.a x.b x.c x.d, .agg #[.int .i64 a, .int .i64 b]] Γ (PlPost ((5 * k + 266) / 32 + 1) X Y) := by
  subst hy
  have h := p_oatE (Γ := Γ) V x a b hk ho ha hb hX hY hL
  unfold otv at h
  rw [hf] at h
  exact h
theorem p_ogrE (x y : Sw) (a b : Int) {X Y : Sn} [Has (SF x) (L, X) Γ] [Has (SF y) (M, Y) Γ] (hm : 0 ≤ X.m) (hn : 0 ≤ X.n) (hm' : 0 ≤ Y.m) (hn' : 0 ≤ Y.n) (ea : X.nr = a) (eb : Y.nr = b) (ha : inG a) (hb : inG b) (hL : L ≤ 280 := by omega) (hM : M ≤ 280 := by omega) :
    PCalls tb Try.prog 18 [plv x y] Γ (IsV (.tuple #[.agg #[.int .i64 a, .int .i64 b], .int .i64 0])) := by
  subst ea eb
  exact p_ogrT x y hm hn hm' hn' ha hb hL hM
theorem p_ofarB (V : On) (z : Int) (hz : z = V.o) (hf : V.f = false) (t : Q5) (x y : Sw) {X Y X' Y' : Sn} {L1 : Nat} [Has (OF t) (L1, V) Γ] [Has (SF x) (L, X) Γ] [Has (SF y) (M, Y) Γ] (ho : 0 ≤ V.o ∧ V.o ≤ 7) (h2 : V.o % 2 = 0) (hb : V.b = 0) (hd : V.d = 0) (h0 : 0 ≤ X.m ∧ 0 ≤ X.n) (hmn : 2 < X.m ∨ 2 < X.n) (em : X.m = Y.m) (en : X.n = Y.n)
    (hX : V.farX X Y = X') (hY : V.farY X Y = Y') (hL : L ≤ 40 ∧ M ≤ 40 ∧ L1 ≤ 100 := by omega) :
    PCalls tb Try.prog 20 [ttv false z t.g t.a t.b t.c t.d, plv x y] Γ (FarPost 2000 X' Y') := by
  subst hz
  have h := p_ofarG (Γ := Γ) V t x y ho h2 hb hd h0 hmn em en hX hY hL
  unfold otv at h
  rw [hf] at h
  exact h
theorem p_ofarT (V : On) (z : Int) (hz : z = V.o) (hf : V.f = false) (t : Q5) (x y : Sw) {X Y X' Y' : Sn} {L1 : Nat} [Has (OF t) (L1, V) Γ] [Has (SF x) (L, X) Γ] [Has (SF y) (M, Y) Γ] (ho : 0 ≤ V.o ∧ V.o ≤ 7) (em : X.m = Y.m) (en : X.n = Y.n) (hm : 0 ≤ X.m ∧ X.m ≤ 2) (hn : 0 ≤ X.n ∧ X.n ≤ 2)
    (hX : r2 (V.u0 X.n0 X.n1 Y.n0 Y.n1) (V.u1 X.n0 X.n1 Y.n0 Y.n1) = X') (hY : r2 (V.v0 X.n0 X.n1 Y.n0 Y.n1) (V.v1 X.n0 X.n1 Y.n0 Y.n1) = Y') (K : Nat) (hK : 5 * L1 + 16 * max L M + 1100 = K) (hL : L ≤ 100 ∧ M ≤ 100 ∧ L1 ≤ 100 := by omega) :
    PCalls tb Try.prog 20 [ttv false z t.g t.a t.b t.c t.d, plv x y] Γ (FarPost K X' Y') := by
  subst hz hK
  have h := p_ofarE (Γ := Γ) V t x y ho em en hm hn hX hY (by omega)
  unfold otv at h
  rw [hf] at h
  exact h
theorem entSt (x : Sw) {S : Sn} {k L' : Nat} [h : Has (SF x) (L, S) Γ] (hq : bS k S) (hL : k / 32 + 1 = L') : ∀ (I : Blk) (w : World), DataOK tb I w → Holds Γ I w → Holds [SF x (L', S)] I w := fun I w _ hh => by
  subst hL
  exact holds1 (SF.tight (h.p hh) hq)
theorem entOtV (x : Q5) {V V' : On} {k L' : Nat} [h : Has (OF x) (L, V') Γ] (e : V' = V) (hq : bO k V) (hL : k / 32 + 1 = L') : ∀ (I : Blk) (w : World), DataOK tb I w → Holds Γ I w → (OF x (L', V)).p I w := fun I w _ hh => by
  subst hL e
  exact OF.tight (h.p hh) hq
end
theorem vq_bits {q : Nat} {a c : Int} (ha : -1000 ≤ a ∧ a ≤ 1000) (hc : -1000 ≤ c ∧ c ≤ 1000) : bO 11 (vq q a c) :=
  ⟨bq.int (by decide) (by decide), bq.int (by omega) (by decide), bq.zero _ (by decide), bq.int (by omega) (by decide), bq.zero _ (by decide)⟩
structure MvSt where
  i : Nat
  z : Int
  v : Value
  O : List (Nat × List Value)
structure FvSt where
  i : Nat
  z : Int
set_option maxHeartbeats 8000000 in
theorem p_outlineMoves (ao : Option Addr) (n c : Nat) (pts : List Dp) (hn : n = pts.length) (hc : n ≤ c) (hpw : ∀ p ∈ pts, (Lit.int .i64 p.x).wf = true ∧ (Lit.int .i64 p.y).wf = true) (width kind bg en : Int) (ww : (Lit.int .i64 width).wf = true) (wk : (Lit.int .i64 kind).wf = true) (wb : (Lit.int .i64 bg).wf = true) (we : (Lit.int .i64 en).wf = true)
    (qq : Int) (wq : (Lit.int .i64 qq).wf = true) (dx : Int) (wx : (Lit.int .i64 dx).wf = true) (dy : Int) (wy : (Lit.int .i64 dy).wf = true) :
    PCalls tb Try.prog 6 [.agg #[.slice ao n c, .int .i64 width, .int .i64 kind, .int .i64 bg, .int .i64 en], .int .i64 qq, .int .i64 dx, .int .i64 dy] [RA ao (pts.flatMap dpc)] (IsV (.bool true)) := by
  obtain ⟨ps, hps⟩ : ∃ ps, ps = pts.take 12 := ⟨_, rfl⟩
  have hpl : ps.length ≤ 12 := by rw [hps, List.length_take]; omega
  have hmod : ∀ (z k : Int), 0 < k → 0 ≤ (IntKind.u64.wrap z).tmod k ∧ (IntKind.u64.wrap z).tmod k < k := fun z k hk => by
    have hu : 0 ≤ IntKind.u64.wrap z := by rw [IntKind.wrap_u64]; omega
    exact ⟨Int.tmod_nonneg k hu, Int.tmod_lt_of_pos _ hk⟩
  obtain ⟨z5, hz5⟩ : ∃ z5, (IntKind.u64.wrap qq).tmod 4 = z5 := ⟨_, rfl⟩
  obtain ⟨z6, hz6⟩ : ∃ z6, (IntKind.u64.wrap dx).tmod 2000 = z6 := ⟨_, rfl⟩
  obtain ⟨z7, hz7⟩ : ∃ z7, (IntKind.u64.wrap dy).tmod 2000 = z7 := ⟨_, rfl⟩
  have b5 := hmod qq 4 (by decide)
  have b6 := hmod dx 2000 (by decide)
  have b7 := hmod dy 2000 (by decide)
  rw [hz5] at b5
  rw [hz6] at b6
  rw [hz7] at b7
  obtain ⟨q, hq⟩ : ∃ q : Nat, z5 = q := ⟨z5.toNat, by omega⟩
  have hq4 : q < 4 := by omega
  obtain ⟨a, hza⟩ : ∃ a, IntKind.i64.wrap (IntKind.i64.wrap z6 - 1000) = a := ⟨_, rfl⟩
  obtain ⟨e, hze⟩ : ∃ e, IntKind.i64.wrap (IntKind.i64.wrap z7 - 1000) = e := ⟨_, rfl⟩
  have ha : -1000 ≤ a ∧ a ≤ 1000 := by rw [← hza, IntKind.wrap_i64, IntKind.wrap_i64]; omega
  have he : -1000 ≤ e ∧ e ≤ 1000 := by rw [← hze, IntKind.wrap_i64, IntKind.wrap_i64]; omega
  have hw5 : IntKind.i64.wrap z5 = z5 := by rw [IntKind.wrap_i64]; omega
  have hw52 : IntKind.i64.wrap (2 * z5) = 2 * z5 := by rw [IntKind.wrap_i64]; omega
  have hzq0 : IntKind.i64.wrap (2 * IntKind.i64.wrap z5) = ((2 * q : Nat) : Int) := by
    rw [hw5, hw52, hq, Int.natCast_mul]
    rfl
  obtain ⟨V, hVe, hzq, hVf, hVo, hV2, hVb0, hVd0, hVb, hVat, hVs, hVr⟩ : ∃ V : On, (⟨false, ((2 * q : Nat) : Int), ((1 : Int) : Rat), (a : Rat), 0, (e : Rat), 0⟩ : On) = V ∧ IntKind.i64.wrap (2 * IntKind.i64.wrap z5) = V.o ∧ V.f = false ∧ (0 ≤ V.o ∧ V.o ≤ 7) ∧ V.o % 2 = 0 ∧ V.b = 0 ∧ V.d = 0 ∧ bO 11 V ∧
      (∀ p : Dp, V.X (p.x : Rat) (p.y : Rat) = r2 ((movD q a e p).x : Rat) 0 ∧ V.Y (p.x : Rat) (p.y : Rat) = r2 ((movD q a e p).y : Rat) 0) ∧
      (∀ P : Sn × Sn, V.u0 P.1.n0 P.1.n1 P.2.n0 P.2.n1 = (movP q a e P).1.n0 ∧ V.u1 P.1.n0 P.1.n1 P.2.n0 P.2.n1 = (movP q a e P).1.n1 ∧ V.v0 P.1.n0 P.1.n1 P.2.n0 P.2.n1 = (movP q a e P).2.n0 ∧ V.v1 P.1.n0 P.1.n1 P.2.n0 P.2.n1 = (movP q a e P).2.n1) ∧
      (∀ P : Sn × Sn, V.farX P.1 P.2 = (movP q a e P).1 ∧ V.farY P.1 P.2 = (movP q a e P).2) :=
    ⟨vq q a e, rfl, hzq0, rfl, ⟨Int.natCast_nonneg _, Int.ofNat_le.2 (show 2 * q ≤ 7 by omega)⟩, (show ((2 * q : Nat) : Int) % 2 = 0 by omega), rfl, rfl, vq_bits ha he, vq_at hq4 a e, vq_small hq4 a e, vq_far q a e⟩
  have ho7 : (0 : Int) ≤ ((2 * q : Nat) : Int) ∧ ((2 * q : Nat) : Int) ≤ 7 := by omega
  refine PCalls.of_W tbOk Try.func6 rfl (by kernel_rfl) ?_
  refine W.ad ao rfl (fun had => ?_)
  have hadn : 0 < ps.length → ∃ b off, ao = some ⟨b, off, none⟩ := fun h => had (dpc_ne (by rw [hps, List.length_take] at h; omega))
  clear had
  refine W.cl [] (by kernel_rfl) (p_olfewP ao n c pts ps width kind bg en hn hc hps) ?_
  rintro _ _ ⟨n1, c1, rfl, hn1, hc1, rfl⟩
  refine W.cl [] (by kernel_rfl) (p_olof ao n1 c1 ps width kind bg en hn1 (by omega) (fun h => hadn (by omega))) ?_
  rintro _ _ (⟨h0, rfl, rfl⟩ | ⟨h0, bl, ol, cl, l, rfl, hlc, hl, rfl⟩)
  · refine W.cl [] (by kernel_rfl) p_olknown ?_
    rintro _ _ ⟨rfl, rfl⟩
    refine W.dt [39] 43 (oerr ps width kind bg en != 0) (by kernel_rfl) (by simpa using h0) ?_
    refine W.cl [47, 43] (by kernel_rfl) p_olknown ?_
    rintro _ _ ⟨rfl, rfl⟩
    exact W.r [] (.bool true) (by kernel_rfl) ⟨rfl, rfl⟩ ent0
  refine W.cl [] (by kernel_rfl) p_olknown ?_
  rintro _ _ ⟨rfl, rfl⟩
  refine W.cl [43, 39] (by kernel_rfl) (p_olsmall ao n1 c1 ps width kind bg en 1000000 hn1 (by omega) (by omega)) ?_
  rintro _ _ ⟨rfl, rfl⟩
  by_cases hsm : ps.all (smallD 1000000) = true
  rotate_left
  · refine W.dt [43] 47 (!(ps.all (smallD 1000000))) (by kernel_rfl) (by simpa using hsm) ?_
    refine W.cl [47] (by kernel_rfl) p_olknown ?_
    rintro _ _ ⟨rfl, rfl⟩
    exact W.r [] (.bool true) (by kernel_rfl) ⟨rfl, rfl⟩ ent0
  have hsmall : ∀ p ∈ ps, inD 1000000 p := fun p hp => smallD_spec (List.all_eq_true.1 hsm p hp)
  have hOk := all_ok h0
  have hz2 := oerr_mov h0 hsmall (q := q) ha he
  have hOk2 := all_ok hz2
  have hC : 0 < (corn ps).1.reverse.length := by
    have := (oerr_zero h0).2.2.2.1
    rw [List.length_reverse]
    omega
  have hpm := places_mov q a e hC (corn ps).2.reverse width kind bg en
  rw [corn_mov, ← List.map_reverse, ← List.map_reverse, hpm] at hOk2
  refine W.df [43] 47 (!(ps.all (smallD 1000000))) (by kernel_rfl) (by rw [hsm]; rfl) ?_
  refine W.remk [47] .u64 (IntKind.u64.wrap qq) 4 z5 (by kernel_rfl) (by decide) hz5 ?_
  refine W.remk [] .u64 (IntKind.u64.wrap dx) 2000 z6 (by kernel_rfl) (by decide) hz6 ?_
  refine W.remk [] .u64 (IntKind.u64.wrap dy) 2000 z7 (by kernel_rfl) (by decide) hz7 ?_
  refine W.cl [] (by kernel_rfl) (p_zof 1 (by omega) (by omega)) ?_
  rintro _ _ ⟨u8, d8, rfl, rfl⟩
  refine W.cl [] (by kernel_rfl) (p_qwhole u8 d8) ?_
  rintro _ _ ⟨n9, a9, m9, b9, rfl, rfl⟩
  refine W.cl [] (by kernel_rfl) (p_zofE (IntKind.i64.wrap (IntKind.i64.wrap z6 - 1000)) a hza (by omega) (by omega)) ?_
  rintro _ _ ⟨u10, d10, rfl, rfl⟩
  refine W.cl [] (by kernel_rfl) (p_qwhole u10 d10) ?_
  rintro _ _ ⟨n11, a11, m11, b11, rfl, rfl⟩
  refine W.cl [] (by kernel_rfl) (p_zofE (IntKind.i64.wrap (IntKind.i64.wrap z7 - 1000)) e hze (by omega) (by omega)) ?_
  rintro _ _ ⟨u12, d12, rfl, rfl⟩
  refine W.cl [] (by kernel_rfl) (p_qwhole u12 d12) ?_
  rintro _ _ ⟨n13, a13, m13, b13, rfl, rfl⟩
  refine W.cl [] (by kernel_rfl) (p_omakeE (IntKind.i64.wrap (2 * IntKind.i64.wrap z5)) ((2 * q : Nat) : Int) hzq0 ⟨n9, a9, m9, b9⟩ ⟨n11, a11, m11, b11⟩ ⟨n13, a13, m13, b13⟩ (X := ((1 : Int) : Rat)) (Y := (a : Rat)) (Z := (e : Rat)) ho7 (by decide +kernel)) ?_
  rintro _ _ ⟨rfl, rfl⟩
  obtain ⟨t, ht⟩ : ∃ t : Q5, t = ⟨⟨n9, a9, m9, b9⟩, ⟨n11, a11, m11, b11⟩, nilQ, ⟨n13, a13, m13, b13⟩, nilQ⟩ := ⟨_, rfl⟩
  refine W.lpo [] [8, 14] (fun s : MvSt => [(8, .bool false), (14, .int .i64 s.z)]) (fun s => [(13, [s.v, .int .i64 width, .int .i64 kind, .int .i64 bg, .int .i64 en])]) (fun s => s.O) (fun _ => [RA ao (ps.flatMap dpc), OL PlR (some ⟨bl, ol, none⟩) (130, l), OF ⟨⟨n9, a9, m9, b9⟩, ⟨n11, a11, m11, b11⟩, nilQ, ⟨n13, a13, m13, b13⟩, nilQ⟩ (1, V)]) (fun s => s.z = s.i ∧ s.i ≤ n1 ∧ Grow 2 s.O s.v s.i (((ps.take s.i).map (movD q a e)).flatMap dpc)) (fun s => n1 - s.i) ⟨0, 0, .slice none 0 0, []⟩ (by kernel_rfl) (by kernel_rfl) ⟨rfl, Nat.zero_le _, Grow.nil 2⟩ (entC entK (entC entK (entC (entOtV ⟨⟨n9, a9, m9, b9⟩, ⟨n11, a11, m11, b11⟩, nilQ, ⟨n13, a13, m13, b13⟩, nilQ⟩ hVe hVb (by decide)) entE))) ?_
  rintro ⟨i, z, v, O⟩ K ⟨hz, hi, hg⟩ close
  simp only at hz hi hg
  by_cases hlt : i < n1
  · obtain ⟨p, hp⟩ : ∃ p, ps[i]? = some p := ⟨_, List.getElem?_eq_getElem (by omega)⟩
    have hpb := hsmall p (by obtain ⟨_, rfl⟩ := List.getElem?_eq_some_iff.1 hp; exact List.getElem_mem _)
    have hmb := movD_in (q := q) (a := a) (c := e) hpb ha he
    have hat := hVat p
    obtain ⟨ba, oa, e1⟩ := hadn (by omega)
    subst e1
    unfold inD at hpb hmb
    refine W.dt [] 83 (decide (z < (n1 : Int))) (by kernel_rfl) (decide_eq_true (by omega)) ?_
    refine W.ia [83] 2 ba oa n1 c1 .i64 i z hz tbOk (by kernel_rfl) hlt ?_
    refine W.lds [] ba (oa + i * 2) (dpc p) tbOk (by kernel_rfl) (RA.rdn ba oa (i * 2) (dp_atq hp)) ?_
    refine W.cl [] (by kernel_rfl) (p_oatY V (IntKind.i64.wrap (2 * IntKind.i64.wrap z5)) hzq hVf ⟨⟨n9, a9, m9, b9⟩, ⟨n11, a11, m11, b11⟩, nilQ, ⟨n13, a13, m13, b13⟩, nilQ⟩ p.x p.y hVb hVo (by omega) (by omega) hat.1 hat.2) ?_
    rintro _ _ ⟨X1, Y1, rfl, rfl⟩
    refine W.cl [] (by kernel_rfl) (p_ogrE X1 Y1 (movD q a e p).x (movD q a e p).y (X := r2 ((movD q a e p).x : Rat) 0) (Y := r2 ((movD q a e p).y : Rat) 0) (show (0 : Int) ≤ 2 by decide) (show (0 : Int) ≤ 0 by decide) (show (0 : Int) ≤ 2 by decide) (show (0 : Int) ≤ 0 by decide) (nr_int _) (nr_int _) (by unfold inG; omega) (by unfold inG; omega)) ?_
    rintro _ _ ⟨rfl, rfl⟩
    refine W.bs [98] 1 (dpc (movD q a e p)) tbOk (by kernel_rfl) (fun B => ?_)
    refine W.app [] O [] O [] 2 16 i 1 v (.slice (some ⟨B, 0, none⟩) 1 1) (((ps.take i).map (movD q a e)).flatMap dpc) (dpc (movD q a e p)) tbOk (by kernel_rfl) (by simp) hg (reads_row B O 1 2 rfl 1) (dp_one _) (by omega) (by decide) (fun v' O' hg' => ?_)
    obtain ⟨g, cap, cur, hv, hO, _⟩ := hg'.own (by omega)
    subst hv hO
    exact close [] _ _ ⟨i + 1, IntKind.i64.wrap (z + 1), .slice (some ⟨g, 0, none⟩) (i + 1) cap, [(g, cur)]⟩ (by kernel_rfl) (by simp only [List.nil_append, List.append_nil]; kernel_rfl) ⟨by simp only [IntKind.wrap_i64]; omega, hlt, Grow.cast (by rw [take_dp hp (movD q a e)]) rfl hg'⟩ (by simp only; omega) (entC entK (entC entK (entC entK entE)))
  obtain rfl : i = n1 := by omega
  have hall : ps.take i = ps := List.take_of_length_le (by omega)
  rw [hall] at hg
  have ha1 : ∀ a1 c1', v = .slice a1 i c1' → 0 < i → ∃ b off, a1 = some ⟨b, off, none⟩ := fun a1 c1' hv h => by
    obtain ⟨g, cap, cur, hv2, _⟩ := hg.own h
    rw [hv] at hv2
    injection hv2 with h1 _ _
    exact ⟨g, 0, h1⟩
  refine W.pubgs (O1 := O) (O2 := []) (List.append_nil _).symm hg rfl (fun a1 c1' h1 => ?_)
  have ha2 := ha1 a1 c1' h1
  clear ha1
  subst h1
  refine W.df [] 83 (decide (z < (i : Int))) (by kernel_rfl) (decide_eq_false (by omega)) ?_
  refine W.cl [83] (by kernel_rfl) (p_olof a1 i c1' (ps.map (movD q a e)) width kind bg en (by rw [List.length_map]; exact hn1) (by omega) ha2) ?_
  rintro _ _ (⟨h0', rfl, rfl⟩ | ⟨h0', bm, om, cm, l2, rfl, hlc2, hl2, rfl⟩)
  · exact absurd hz2 h0'
  rw [corn_mov, ← List.map_reverse, ← List.map_reverse, hpm, ← hl] at hl2
  have hlen2 : l2.length = l.length := by
    have := num_len hl2
    simpa using this
  have hle : l.length ≤ 1000 := by
    have h3 := places_le (corn ps).1.reverse (corn ps).2.reverse width kind bg en
    have h8 := corn_le ps
    rw [← hl, List.length_map] at h3
    simp only [List.length_reverse] at h3
    omega
  refine W.df [112, 116] 122 ((l2.length : Int) != (l.length : Int)) (by kernel_rfl) (by rw [hlen2]; simp) ?_
  refine W.lp [122] [8, 19] (fun s : FvSt => [(8, .bool false), (19, .int .i64 s.z)]) (fun _ => []) (fun _ => [OL PlR (some ⟨bl, ol, none⟩) (130, l), OL PlR (some ⟨bm, om, none⟩) (130, l2), OF ⟨⟨n9, a9, m9, b9⟩, ⟨n11, a11, m11, b11⟩, nilQ, ⟨n13, a13, m13, b13⟩, nilQ⟩ (1, V)]) (fun s => s.z = s.i ∧ s.i ≤ l.length) (fun s => l.length - s.i) ⟨0, 0⟩ (by kernel_rfl) (by kernel_rfl) ⟨rfl, Nat.zero_le _⟩ (entC entK (entC entK (entC entK entE))) ?_
  rintro ⟨k, y⟩ K2 ⟨hy, hk⟩ close2
  simp only at hy hk
  by_cases hlt2 : k < l.length
  rotate_left
  · refine W.df [] 126 (decide (y < (l.length : Int))) (by kernel_rfl) (decide_eq_false (by omega)) ?_
    exact W.r [126] (.bool true) (by kernel_rfl) ⟨rfl, rfl⟩ ent0
  obtain ⟨x, hx⟩ : ∃ x, l[k]? = some x := ⟨_, List.getElem?_eq_getElem hlt2⟩
  obtain ⟨r, hr⟩ : ∃ r, l2[k]? = some r := ⟨_, List.getElem?_eq_getElem (by omega)⟩
  have hxn : x.num ∈ places (corn ps).1.reverse (corn ps).2.reverse width kind bg en := by
    rw [← hl]
    exact List.mem_map_of_mem (List.mem_of_getElem? hx)
  have hrx : r.num = movP q a e x.num := by
    have e1 : (l2.map PlE.num)[k]? = some r.num := by rw [List.getElem?_map, hr]; rfl
    rw [hl2, List.getElem?_map, List.getElem?_map, hx] at e1
    simpa using e1.symm
  have kx := hOk x.num hxn
  have kr : PlOk r.num := by
    rw [hrx]
    exact hOk2 _ (List.mem_map_of_mem hxn)
  have xm : x.Y.m = x.X.m := kx.m
  have xn : x.Y.n = x.X.n := kx.n
  have rm : r.Y.m = r.X.m := kr.m
  have rn : r.Y.n = r.X.n := kr.n
  have xm0 : 0 ≤ x.X.m := kx.m0
  have xn0 : 0 < x.X.n := kx.n0
  have hXX : (movP q a e x.num).1 = r.X := (congrArg Prod.fst hrx).symm
  have hYY : (movP q a e x.num).2 = r.Y := (congrArg Prod.snd hrx).symm
  have hmn := rot_mn' q (X := x.X) (Y := x.Y) (m := x.X.m) (n := x.X.n) rfl rfl xm xn
  have rxm : r.X.m = x.X.m := by rw [← hXX]; exact hmn.1
  have rxn : r.X.n = x.X.n := by rw [← hXX]; exact hmn.2.1
  refine W.elp (some ⟨bl, ol, none⟩) hx rfl (fun _ _ _ => ?_)
  refine W.elp (some ⟨bm, om, none⟩) hr rfl (fun _ _ _ => ?_)
  refine W.more rfl (entSt x.x (S := x.X) kx.b1 (L' := 19) (by decide)) ?_
  refine W.more rfl (entSt x.y (S := x.Y) kx.b2 (L' := 19) (by decide)) ?_
  refine W.more rfl (entSt r.x (S := r.X) kr.b1 (L' := 19) (by decide)) ?_
  refine W.more rfl (entSt r.y (S := r.Y) kr.b2 (L' := 19) (by decide)) ?_
  refine W.more rfl (entQ0 (L' := 0)) ?_
  refine W.sf r.x rfl ?_
  refine W.dt [] 126 (decide (y < (l.length : Int))) (by kernel_rfl) (decide_eq_true (by omega)) ?_
  refine W.ia [126] 40 bl ol l.length cl .i64 k y hy tbOk (by kernel_rfl) hlt2 ?_
  refine W.lds [] bl (ol + k * 40) (PlR.cells x) tbOk (by kernel_rfl) (OL.toldq hx) ?_
  by_cases hbig : 2 < x.X.m ∨ 2 < x.X.n
  · have hf := hVr x.num
    refine W.cl [] (by kernel_rfl) (p_ofarB V (IntKind.i64.wrap (2 * IntKind.i64.wrap z5)) hzq hVf ⟨⟨n9, a9, m9, b9⟩, ⟨n11, a11, m11, b11⟩, nilQ, ⟨n13, a13, m13, b13⟩, nilQ⟩ x.x x.y (X := x.X) (Y := x.Y) hVo hV2 hVb0 hVd0 ⟨xm0, by omega⟩ hbig xm.symm xn.symm (hf.1.trans hXX) (hf.2.trans hYY)) ?_
    rintro _ _ ⟨X1, Y1, rfl, rfl⟩
    refine W.code 999 ?_
    refine W.sf X1 (by kernel_rfl) ?_
    refine W.ia [139] 40 bm om l2.length cm .i64 k y hy tbOk (by kernel_rfl) (by omega) ?_
    refine W.lds [] bm (om + k * 40) (PlR.cells r) tbOk (by kernel_rfl) (OL.toldq hr) ?_
    refine W.cl [] (by kernel_rfl) (p_xfield r.x) ?_
    rintro _ _ ⟨rfl, rfl⟩
    refine W.cl [] (by kernel_rfl) (p_xfield X1) ?_
    rintro _ _ ⟨rfl, rfl⟩
    refine W.cl [] (by kernel_rfl) (p_zcmp X1.u X1.d r.x.u r.x.d) ?_
    rintro _ _ ⟨rfl, rfl⟩
    refine W.df [] 165 (cmpZ r.X.m r.X.m != 0) (by kernel_rfl) (by rw [cmpZ_eq.2 rfl]; rfl) ?_
    refine W.cl [165] (by kernel_rfl) (p_zcmp X1.v X1.e r.x.v r.x.e) ?_
    rintro _ _ ⟨rfl, rfl⟩
    refine W.df [165] 170 (cmpZ r.X.n r.X.n != 0) (by kernel_rfl) (by rw [cmpZ_eq.2 rfl]; rfl) ?_
    refine W.bs [187, 170] 1 (svc X1 ++ svc Y1) tbOk (by kernel_rfl) (fun B1 => ?_)
    refine W.bs [187] 1 (svc r.x ++ svc r.y) tbOk (by kernel_rfl) (fun B2 => ?_)
    refine W.cx [187] (by kernel_rfl) (entC (entO2 (B := B1) (x := X1) (y := Y1) (X := r.X) (Y := r.Y) (L' := 2000) ⟨by omega, by omega⟩) (entC (entO2 (B := B2) (x := r.x) (y := r.y) (X := r.X) (Y := r.Y) (L' := 2000) ⟨by omega, by omega⟩) entE)) (p_olsame (some ⟨B1, 0, none⟩) 1 1 [⟨X1, Y1, r.X, r.Y⟩] (some ⟨B2, 0, none⟩) 1 1 [⟨r.x, r.y, r.X, r.Y⟩] rfl rfl rfl (by omega) (fun j a' b' ha' hb' => ?_)) ?_
    · cases j with
      | zero =>
        simp at ha' hb'
        subst ha' hb'
        exact ⟨Alike.rfl' rfl, Alike.rfl' rfl⟩
      | succ j => simp at ha'
    rintro _ _ ⟨rfl, rfl⟩
    exact close2 [187, 194] _ _ ⟨k + 1, IntKind.i64.wrap (y + 1)⟩ (by kernel_rfl) (by kernel_rfl) ⟨by simp only [IntKind.wrap_i64]; omega, hlt2⟩ (by simp only; omega) (entC entK (entC entK (entC entK entE)))
  have hs := hVs x.num
  rw [hXX, hYY] at hs
  refine W.cl [] (by kernel_rfl) (p_ofarT V (IntKind.i64.wrap (2 * IntKind.i64.wrap z5)) hzq hVf ⟨⟨n9, a9, m9, b9⟩, ⟨n11, a11, m11, b11⟩, nilQ, ⟨n13, a13, m13, b13⟩, nilQ⟩ x.x x.y (X := x.X) (Y := x.Y) (X' := r2 r.X.n0 r.X.n1) (Y' := r2 r.Y.n0 r.Y.n1) hVo xm.symm xn.symm ⟨xm0, by omega⟩ ⟨by omega, by omega⟩ (congr (congrArg r2 hs.1) hs.2.1) (congr (congrArg r2 hs.2.2.1) hs.2.2.2) 1409 (by decide)) ?_
  rintro _ _ ⟨X1, Y1, rfl, rfl⟩
  refine W.code 999 ?_
  refine W.sf X1 (by kernel_rfl) ?_
  refine W.ia [139] 40 bm om l2.length cm .i64 k y hy tbOk (by kernel_rfl) (by omega) ?_
  refine W.lds [] bm (om + k * 40) (PlR.cells r) tbOk (by kernel_rfl) (OL.toldq hr) ?_
  refine W.cl [] (by kernel_rfl) (p_xfield r.x) ?_
  rintro _ _ ⟨rfl, rfl⟩
  refine W.cl [] (by kernel_rfl) (p_xfield X1) ?_
  rintro _ _ ⟨rfl, rfl⟩
  refine W.cl [] (by kernel_rfl) (p_zcmp X1.u X1.d r.x.u r.x.d) ?_
  rintro _ _ ⟨rfl, rfl⟩
  have hv := vid_small r.X.n0 r.X.n1 r.Y.n0 r.Y.n1
  have hn0 : cmpZ 0 r.X.n ≠ 0 := fun h => by
    have := cmpZ_eq.1 h
    omega
  by_cases hm2 : cmpZ 2 r.X.m = 0
  · refine W.df [] 165 (cmpZ 2 r.X.m != 0) (by kernel_rfl) (by rw [hm2]; rfl) ?_
    refine W.cl [165] (by kernel_rfl) (p_zcmp X1.v X1.e r.x.v r.x.e) ?_
    rintro _ _ ⟨rfl, rfl⟩
    refine W.dt [165] 170 (cmpZ 0 r.X.n != 0) (by kernel_rfl) (by simpa using hn0) ?_
    refine W.cl [170] (by kernel_rfl) (p_zof 1 (by omega) (by omega)) ?_
    rintro _ _ ⟨u20, d20, rfl, rfl⟩
    refine W.cl [] (by kernel_rfl) (p_qwhole u20 d20) ?_
    rintro _ _ ⟨n21, a21, m21, b21, rfl, rfl⟩
    refine W.cl [] (by kernel_rfl) (p_omakeE 0 0 rfl ⟨n21, a21, m21, b21⟩ nilQ nilQ (X := ((1 : Int) : Rat)) (Y := 0) (Z := 0) ⟨by omega, by omega⟩ (by decide +kernel)) ?_
    rintro _ _ ⟨rfl, rfl⟩
    refine W.cl [] (by kernel_rfl) (p_ofarT vid 0 rfl rfl ⟨⟨n21, a21, m21, b21⟩, nilQ, nilQ, nilQ, nilQ⟩ r.x r.y (X := r.X) (Y := r.Y) (X' := r2 r.X.n0 r.X.n1) (Y' := r2 r.Y.n0 r.Y.n1) ⟨by decide, by decide⟩ rm.symm rn.symm ⟨by omega, by omega⟩ ⟨by omega, by omega⟩ (congr (congrArg r2 hv.1) hv.2.1) (congr (congrArg r2 hv.2.2.1) hv.2.2.2) 1414 (by decide)) ?_
    rintro _ _ ⟨X3, Y3, rfl, rfl⟩
    refine W.bs [187] 1 (svc X1 ++ svc Y1) tbOk (by kernel_rfl) (fun B1 => ?_)
    refine W.bs [187] 1 (svc X3 ++ svc Y3) tbOk (by kernel_rfl) (fun B2 => ?_)
    refine W.cx [187] (by kernel_rfl) (entC (entO2 (B := B1) (x := X1) (y := Y1) (X := r2 r.X.n0 r.X.n1) (Y := r2 r.Y.n0 r.Y.n1) (L' := 2000) ⟨by omega, by omega⟩) (entC (entO2 (B := B2) (x := X3) (y := Y3) (X := r2 r.X.n0 r.X.n1) (Y := r2 r.Y.n0 r.Y.n1) (L' := 2000) ⟨by omega, by omega⟩) entE)) (p_olsame (some ⟨B1, 0, none⟩) 1 1 [⟨X1, Y1, r2 r.X.n0 r.X.n1, r2 r.Y.n0 r.Y.n1⟩] (some ⟨B2, 0, none⟩) 1 1 [⟨X3, Y3, r2 r.X.n0 r.X.n1, r2 r.Y.n0 r.Y.n1⟩] rfl rfl rfl (by omega) (fun j a' b' ha' hb' => ?_)) ?_
    · cases j with
      | zero =>
        simp at ha' hb'
        subst ha' hb'
        exact ⟨Alike.rfl' rfl, Alike.rfl' rfl⟩
      | succ j => simp at ha'
    rintro _ _ ⟨rfl, rfl⟩
    exact close2 [187, 194] _ _ ⟨k + 1, IntKind.i64.wrap (y + 1)⟩ (by kernel_rfl) (by kernel_rfl) ⟨by simp only [IntKind.wrap_i64]; omega, hlt2⟩ (by simp only; omega) (entC entK (entC entK (entC entK entE)))
  · refine W.dt [] 165 (cmpZ 2 r.X.m != 0) (by kernel_rfl) (by simpa using hm2) ?_
    refine W.cl [170, 165] (by kernel_rfl) (p_zof 1 (by omega) (by omega)) ?_
    rintro _ _ ⟨u20, d20, rfl, rfl⟩
    refine W.cl [] (by kernel_rfl) (p_qwhole u20 d20) ?_
    rintro _ _ ⟨n21, a21, m21, b21, rfl, rfl⟩
    refine W.cl [] (by kernel_rfl) (p_omakeE 0 0 rfl ⟨n21, a21, m21, b21⟩ nilQ nilQ (X := ((1 : Int) : Rat)) (Y := 0) (Z := 0) ⟨by omega, by omega⟩ (by decide +kernel)) ?_
    rintro _ _ ⟨rfl, rfl⟩
    refine W.cl [] (by kernel_rfl) (p_ofarT vid 0 rfl rfl ⟨⟨n21, a21, m21, b21⟩, nilQ, nilQ, nilQ, nilQ⟩ r.x r.y (X := r.X) (Y := r.Y) (X' := r2 r.X.n0 r.X.n1) (Y' := r2 r.Y.n0 r.Y.n1) ⟨by decide, by decide⟩ rm.symm rn.symm ⟨by omega, by omega⟩ ⟨by omega, by omega⟩ (congr (congrArg r2 hv.1) hv.2.1) (congr (congrArg r2 hv.2.2.1) hv.2.2.2) 1414 (by decide)) ?_
    rintro _ _ ⟨X3, Y3, rfl, rfl⟩
    refine W.bs [187] 1 (svc X1 ++ svc Y1) tbOk (by kernel_rfl) (fun B1 => ?_)
    refine W.bs [187] 1 (svc X3 ++ svc Y3) tbOk (by kernel_rfl) (fun B2 => ?_)
    refine W.cx [187] (by kernel_rfl) (entC (entO2 (B := B1) (x := X1) (y := Y1) (X := r2 r.X.n0 r.X.n1) (Y := r2 r.Y.n0 r.Y.n1) (L' := 2000) ⟨by omega, by omega⟩) (entC (entO2 (B := B2) (x := X3) (y := Y3) (X := r2 r.X.n0 r.X.n1) (Y := r2 r.Y.n0 r.Y.n1) (L' := 2000) ⟨by omega, by omega⟩) entE)) (p_olsame (some ⟨B1, 0, none⟩) 1 1 [⟨X1, Y1, r2 r.X.n0 r.X.n1, r2 r.Y.n0 r.Y.n1⟩] (some ⟨B2, 0, none⟩) 1 1 [⟨X3, Y3, r2 r.X.n0 r.X.n1, r2 r.Y.n0 r.Y.n1⟩] rfl rfl rfl (by omega) (fun j a' b' ha' hb' => ?_)) ?_
    · cases j with
      | zero =>
        simp at ha' hb'
        subst ha' hb'
        exact ⟨Alike.rfl' rfl, Alike.rfl' rfl⟩
      | succ j => simp at ha'
    rintro _ _ ⟨rfl, rfl⟩
    exact close2 [187, 194] _ _ ⟨k + 1, IntKind.i64.wrap (y + 1)⟩ (by kernel_rfl) (by kernel_rfl) ⟨by simp only [IntKind.wrap_i64]; omega, hlt2⟩ (by simp only; omega) (entC entK (entC entK (entC entK entE)))

end Go.Proofs.Ytaafmafdnnjmdaa
namespace Go.Proofs.Ytaafmafdnnjmdaa.outlineMoves
open Go.ChangeShapes Go.WideShapes Go.ChangeAt Go.RowKit
open Go.ChangeMaps (open_string shut_string)

theorem closed : joinedFacts Try.pinned.checked.prog 6 Try.f6 Rows.outlineMovesSpec Rows.outlineMovesRow = true := by
  unfold joinedFacts
  rw [show Try.pinned.checked.prog.mayEnter = true from jn_enter, show (Rows.outlineMovesRow.lifted == Try.pinned.checked.prog.liftsFinal) = true from jn_lift, show (Try.pinned.checked.prog.make == some Rows.outlineMovesRow.make) = true from jn_make,
    show laidOutB Try.pinned.checked.prog = true from jn_laid, show mapsRowed Try.pinned.checked.prog = true from jn_maps]
  kernel_rfl

set_option maxRecDepth 100000 in
set_option maxHeartbeats 2000000 in
theorem lifted (os : Os) (started : os.Started) (H : Type) (enc : TypeId × Value → H) :
    ReturnsInHanded {} Try.checked os 6 .any (Rows.outlineMovesSpec.pre6 enc Try.prog Try.f6 Rows.outlineMovesRow.domain false) (Rows.outlineMovesSpec.post enc Try.prog Try.f6 false true false false) := by
  refine returnsInHanded_of_change (C := Try.checked) jn_own started (by kernel_rfl) Try.func6
    (ChangeSpec.witness6 (enc := enc) (C := Try.checked) false ⟨#[], #[.agg #[.slice none 0 0, .int .i64 0, .int .i64 0, .int .i64 0, .int .i64 0], .int .i64 0, .int .i64 0, .int .i64 0], []⟩ 8 (by kernel_rfl) (by kernel_rfl) (by kernel_rfl) (by kernel_rfl)) ?_
  intro W base args ds gs before hval0 hW hcnd _
  have hval : ∀ (j : Nat) t v, Try.f6.params[j]? = some t → args[j]? = some v → Value.okWide Try.prog W .any base t v := hval0
  have hW' := hW
  obtain ⟨p, q, hA0, hV, rfl, hfz, hnd⟩ := hW
  have hA : DataW.TrodAll enc Try.prog W 0 (fun _ => true) true Try.f6.params.toList args.toList ds p := hA0
  have hK := hA
  rw [Try.params6] at hA hval hK
  obtain ⟨v0, vs0, d0, ds0, p0, q0, hargs, rfl, rfl, h0, r0⟩ := trodAll_cons hA
  obtain ⟨v1, vs1, d1, ds1, p1, q1, rfl, rfl, rfl, h1, r1⟩ := trodAll_cons r0
  obtain ⟨v2, vs2, d2, ds2, p2, q2, rfl, rfl, rfl, h2, r2⟩ := trodAll_cons r1
  obtain ⟨v3, vs3, d3, ds3, p3, q3, rfl, rfl, rfl, h3, r3⟩ := trodAll_cons r2
  obtain ⟨rfl, rfl, rfl⟩ := trodAll_nil r3
  obtain rfl : args = #[v0, v1, v2, v3] := by cases args; simp_all
  obtain ⟨rfl, rfl⟩ := trodVars_none hV
  obtain ⟨ao0, n0, c0, a0, M0, N0, B0, E0, rfl, e0, hc0, hp0, wM0, wN0, wB0, wE0, g0⟩ := open_path Try.underlying36 (by kernel_rfl) ⟨rfl, rfl⟩ ⟨rfl, rfl⟩ ⟨rfl, rfl⟩ ⟨rfl, rfl⟩ ⟨rfl, rfl⟩ Try.underlying23 (by kernel_rfl) Try.underlying3 (by kernel_rfl) Try.underlying25 (by kernel_rfl) ⟨rfl, rfl⟩ ⟨rfl, rfl⟩ (hval 0 36 v0 rfl rfl) h0
  obtain ⟨a1, rfl, rfl, rfl, w1⟩ := open_int Try.underlying3 (hval 1 3 v1 rfl rfl) h1
  obtain ⟨a2, rfl, rfl, rfl, w2⟩ := open_int Try.underlying3 (hval 2 3 v2 rfl rfl) h2
  obtain ⟨a3, rfl, rfl, rfl, w3⟩ := open_int Try.underlying3 (hval 3 3 v3 rfl rfl) h3
  clear hA0 hval0
  simp only [List.append_nil] at hW' hK
  refine (law_calls' (p_outlineMoves ao0 n0 c0 a0 e0 hc0 hp0 M0 N0 B0 E0 wM0 wN0 wB0 wE0 a1 w1 a2 w2 a3 w3) W (Holds.cons g0 (Holds.nil _ _))).mono fun e W' ⟨he, hg⟩ => ?_
  subst he
  exact ⟨_, rfl, law_post hW' rfl (fun _ _ _ => (trodAll_cons_mk (shut_bool Try.underlying4 _) trodAll_mk0)) (fun sp hsp => trodAll_stays jn_laid hg (by kernel_rfl) hK (fun x hx => hW'.lt x (by first | exact hx | simpa using hx)) (fun x hx => hsp x (by first | exact hx | simpa using hx))) rfl hg⟩

theorem over : Rows.outlineMovesRow.holds Try.pinned (OpenSpec.ofChange Rows.outlineMovesSpec) :=
  OpenClaim.holds_of_wide 6 Try.f6 rfl rfl rfl rfl rfl rfl rfl ⟨rfl, rfl, rfl, rfl, rfl⟩ rfl rfl rfl rfl rfl (by kernel_rfl) Try.func6 closed
    (of_decide_eq_true (by kernel_rfl)) (by unfold Func.isWrapper; first | (rw [if_pos (by decide +kernel)]; kernel_rfl) | (rw [if_neg (by decide +kernel)]; exact ⟨rfl, rfl⟩))
    (fun os started H enc _ => lifted os started H enc)
end Go.Proofs.Ytaafmafdnnjmdaa.outlineMoves
namespace Go.Proofs.Ytaafmafdnnjmdaa

/-- The statement. -/
theorem outlineMoves_holds : Rows.OutlineMovesSaid := outlineMoves.over
end Go.Proofs.Ytaafmafdnnjmdaa
