
/- Places of other fields: the numbers of which they are made. -/
import Derived.Test.YtabpaiboodllbaaGreatOq
import Derived.Test.YtabpaiboodllbaaGreatRk
set_option linter.unusedSimpArgs false
set_option linter.unusedVariables false
namespace Go.Proofs.YtabpaiboodllbaaGreat
open Go.RowKit Go.IntWalk

def ngood (s : ByteArray) : Bool := decide (s.size ≤ 20) && qerr s == 0
/-- May a number be made of this? -/
def numOk (M N : Int) (ss : List ByteArray) : Bool := decide (ss.length ≤ 4) && (ss.all ngood && (decide (0 ≤ M) && decide (0 ≤ N)))
/-- A number that was made. -/
def XF (X : Sw) (a : Nat × Bool × Sn) : Fact where
  p I w := a.2.1 = true → (SF X (a.1, a.2.2)).p I w
  up := by
    rintro I I' w w' h h1 h2 h3 ha
    exact (SF X _).up (h ha) h1 h2 h3
structure NSt where
  i : Nat
  z : Int
  v : Value
  O : List (Nat × List Value)
  l : List QE

section
variable {fin : VS → List Fact → Prop} {Γ : List Fact} {L M K : Nat}
theorem W.xf {P : Program} {c : Cfg} (X : Sw) {ok : Bool} {S : Sn} [h : Has (XF X) (L, ok, S) Γ] (hm : midOps c.k = false) (hok : ok = true) (hk : W tb P fin c (SF X (L, S) :: Γ)) : W tb P fin c Γ :=
  W.more (Δ := [SF X (L, S)]) hm (fun I w _ hh => holds1 ((h.p hh) hok)) hk
theorem entXF0 {X : Sw} {L' : Nat} {ok : Bool} {S : Sn} (h : ok = false) : ∀ (I : Blk) (w : World), DataOK tb I w → Holds Γ I w → Holds [XF X (L', ok, S)] I w := fun I w _ _ => holds1 (fun ha => by simp only at ha; rw [h] at ha; simp at ha)

set_option maxHeartbeats 8000000 in
theorem p_onum (M N : Int) (hM : (Lit.int .i64 M).wf = true) (hN : (Lit.int .i64 N).wf = true) (ao : Option Addr) (n c : Nat) (ss : List ByteArray) [hra : Has (RA ao) (ss.map Value.string) Γ] (hn : n = ss.length) (hs : ∀ s ∈ ss, s.size ≤ 9223372036854775807) :
    PCalls tb Tryz.prog 51 [.int .i64 M, .int .i64 N, .slice ao n c] Γ (fun v Δ => ∃ X, v = .tuple #[sv X, .bool (numOk M N ss)] ∧ Δ = [XF X (30, numOk M N ss, snOf M N ss)]) := by
  have w1 := wf64 hM
  have w2 := wf64 hN
  refine PCalls.of_W tbOk Tryz.func51 rfl (by kernel_rfl) ?_
  refine W.lpo [] [7, 8, 9] (fun a : NSt => [(7, .bool false), (8, a.v), (9, .int .i64 a.z)]) (fun a => [(6, (sv nilS).cells.toList)]) (fun a => a.O)
    (fun a => [OS QR (30, a.l), RA ao (ss.map Value.string)])
    (fun a => a.z = a.i ∧ a.i ≤ n ∧ a.i ≤ 4 ∧ a.l.length = a.i ∧ a.l.map (·.q) = (ss.take a.i).map qval ∧ (∀ s ∈ ss.take a.i, ngood s = true) ∧ Grow 4 a.O a.v a.i (a.l.flatMap QR.cells)) (fun a => 5 - a.i)
    ⟨0, 0, .slice none 0 0, [], []⟩ (by kernel_rfl) (by kernel_rfl) ⟨rfl, Nat.zero_le _, Nat.zero_le _, rfl, rfl, by simp, Grow.nil 4⟩ ?_ ?_
  · intro I w hd hh
    exact Holds.cons (fun e he => by simp at he) (holds1 (Has.p (k := RA ao) (a := ss.map Value.string) inferInstance hh))
  rintro ⟨i, z, v, O, l⟩ R ⟨hz, hin, hi4, hli, hlq, hgood, hg⟩ close
  simp only at hz hin hi4 hli hlq hgood hg ⊢
  subst hz
  by_cases hgo : i < n
  · have hsi : i < ss.length := by omega
    have hcell : (ss.map Value.string)[i]? = some (.string (ss[i]'hsi)) := by rw [List.getElem?_map, List.getElem?_eq_getElem hsi]; rfl
    refine W.ra ao (xs := ss.map Value.string) (by kernel_rfl) (by intro e; rw [e] at hcell; simp at hcell) ?_
    rintro B off rfl
    have told : ∀ {Γ' : List Fact} [Has (RA (some ⟨B, off, none⟩)) (ss.map Value.string) Γ'], ∀ I w, DataOK tb I w → Holds Γ' I w → w.cell? ⟨B, off + i * 1, none⟩ = some (.string (ss[i]'hsi)) := fun {Γ'} _ I w _ hh => by
      have := RA.cell (Has.p (k := RA (some ⟨B, off, none⟩)) (a := ss.map Value.string) (Γ := Γ') inferInstance hh) hcell
      rw [Nat.mul_one]
      exact this
    refine W.dt [] 17 (decide ((i : Int) < (n : Nat))) (by kernel_rfl) (by rw [decide_eq_true_iff]; omega) ?_
    by_cases h4 : i = 4
    · refine W.dt [17] 22 (decide ((i : Int) > 3)) (by kernel_rfl) (by rw [decide_eq_true_iff]; omega) ?_
      exact W.r [29, 22] (.tuple #[sv nilS, .bool false]) (by kernel_rfl) ⟨nilS, by rw [show numOk M N ss = false by unfold numOk; rw [decide_eq_false (by omega)]; rfl], rfl⟩ (entXF0 (by unfold numOk; rw [decide_eq_false (by omega)]; rfl))
    refine W.df [17] 22 (decide ((i : Int) > 3)) (by kernel_rfl) (by rw [decide_eq_false_iff_not]; omega) ?_
    have bad : ngood (ss[i]'hsi) = false → numOk M N ss = false := fun h => by
      unfold numOk
      have : ss.all ngood = false := by
        rw [List.all_eq_false]
        exact ⟨_, List.getElem_mem hsi, by rw [h]; simp⟩
      rw [this]
      simp
    refine W.ia [22] 1 B off n c .i64 i (i : Int) rfl tbOk (by kernel_rfl) hgo ?_
    refine W.ld [22] 1 B (off + i * 1) (.string (ss[i]'hsi)) tbOk (by kernel_rfl) told ?_
    by_cases h20 : 20 < (ss[i]'hsi).size
    · have hf := bad (by unfold ngood; rw [decide_eq_false (by omega)]; rfl)
      refine W.dt [22] 29 (decide (((ss[i]'hsi).size : Int) > 20)) (by kernel_rfl) (by rw [decide_eq_true_iff]; omega) ?_
      exact W.r [29] (.tuple #[sv nilS, .bool false]) (by kernel_rfl) ⟨nilS, by rw [hf], rfl⟩ (entXF0 hf)
    refine W.df [22] 29 (decide (((ss[i]'hsi).size : Int) > 20)) (by kernel_rfl) (by rw [decide_eq_false_iff_not]; omega) ?_
    refine W.ia [29] 1 B off n c .i64 i (i : Int) rfl tbOk (by kernel_rfl) hgo ?_
    refine W.ld [] 1 B (off + i * 1) (.string (ss[i]'hsi)) tbOk (by kernel_rfl) told ?_
    refine W.cl [] (by kernel_rfl) (p_qparse (ss[i]'hsi) (by omega)) ?_
    rintro _ _ ⟨n9, a9, m9, b9, rfl, rfl⟩
    by_cases he : qerr (ss[i]'hsi) = 0
    · have hgd : ngood (ss[i]'hsi) = true := by unfold ngood; rw [decide_eq_true (by omega), he]; rfl
      have hgood' : ∀ s ∈ ss.take (i + 1), ngood s = true := fun s hs => by
        rw [List.take_succ_eq_append_getElem hsi] at hs
        rcases List.mem_append.1 hs with hs | hs
        · exact hgood s hs
        · rw [List.mem_singleton.1 hs]; exact hgd
      have hlq' : (l ++ [(⟨n9, a9, m9, b9, qval (ss[i]'hsi)⟩ : QE)]).map (·.q) = (ss.take (i + 1)).map qval := by
        rw [List.take_succ_eq_append_getElem hsi, List.map_append, List.map_append, hlq]
        rfl
      rw [he]
      refine W.df [] 40 ((0 : Int) != 0) (by kernel_rfl) rfl ?_
      refine W.bs [40] 1 (QR.cells ⟨n9, a9, m9, b9, qval (ss[i]'hsi)⟩) tbOk (by kernel_rfl) (fun B5 => ?_)
      refine W.app [] O [] O [] 4 64 i 1 v (.slice (some ⟨B5, 0, none⟩) 1 1) (l.flatMap QR.cells) (QR.cells ⟨n9, a9, m9, b9, qval (ss[i]'hsi)⟩) tbOk (by kernel_rfl) (by simp) hg (reads_row B5 _ 1 4 rfl 1) (by simp [QR, Value.oneCell']) (by omega) (by omega) (fun v' O' hg' => ?_)
      generalize qval (ss[i]'hsi) = qx at *
      have hfacts : ∀ I w, DataOK tb I w → Holds (RowF B5 (QR.cells ⟨n9, a9, m9, b9, qx⟩) :: ([QF n9 a9 m9 b9 (max 2 (min (ss[i]'hsi).size 4096), qx)] ++ [OS QR (30, l), RA (some ⟨B, off, none⟩) (ss.map Value.string)])) I w →
          Holds [OS QR (30, l ++ [⟨n9, a9, m9, b9, qx⟩]), RA (some ⟨B, off, none⟩) (ss.map Value.string)] I w := fun I w hd hh => by
        have f3 := Has.p (k := QF n9 a9 m9 b9) (a := (max 2 (min (ss[i]'hsi).size 4096), qx)) inferInstance hh
        refine Holds.cons (fun e he => ?_) (holds1 (Has.p (k := RA (some ⟨B, off, none⟩)) (a := ss.map Value.string) inferInstance hh))
        · rcases List.mem_append.1 he with he | he
          · exact (Has.p (k := OS QR) (a := (30, l)) inferInstance hh) e he
          · rw [List.mem_singleton.1 he]
            exact QF.up2 f3 (by omega)
      have hgr : Grow 4 O' v' (i + 1) ((l ++ [(⟨n9, a9, m9, b9, qx⟩ : QE)]).flatMap QR.cells) := by
        simp only [List.flatMap_append, List.flatMap_cons, List.flatMap_nil, List.append_nil]
        exact hg'
      have hll : (l ++ [(⟨n9, a9, m9, b9, qx⟩ : QE)]).length = i + 1 := by rw [List.length_append, hli]; rfl
      obtain rfl | rfl | rfl | rfl : i = 0 ∨ i = 1 ∨ i = 2 ∨ i = 3 := by omega
      · refine close [] _ _ ⟨0 + 1, ((0 + 1 : Nat) : Int), v', O', l ++ [⟨n9, a9, m9, b9, qx⟩]⟩ (by kernel_rfl) ?_ ⟨rfl, hgo, by simp only; omega, hll, hlq', hgood', hgr⟩ (by simp only; omega) hfacts
        simp only [List.nil_append, List.append_nil]
        kernel_rfl
      · refine close [] _ _ ⟨1 + 1, ((1 + 1 : Nat) : Int), v', O', l ++ [⟨n9, a9, m9, b9, qx⟩]⟩ (by kernel_rfl) ?_ ⟨rfl, hgo, by simp only; omega, hll, hlq', hgood', hgr⟩ (by simp only; omega) hfacts
        simp only [List.nil_append, List.append_nil]
        kernel_rfl
      · refine close [] _ _ ⟨2 + 1, ((2 + 1 : Nat) : Int), v', O', l ++ [⟨n9, a9, m9, b9, qx⟩]⟩ (by kernel_rfl) ?_ ⟨rfl, hgo, by simp only; omega, hll, hlq', hgood', hgr⟩ (by simp only; omega) hfacts
        simp only [List.nil_append, List.append_nil]
        kernel_rfl
      · refine close [] _ _ ⟨3 + 1, ((3 + 1 : Nat) : Int), v', O', l ++ [⟨n9, a9, m9, b9, qx⟩]⟩ (by kernel_rfl) ?_ ⟨rfl, hgo, by simp only; omega, hll, hlq', hgood', hgr⟩ (by simp only; omega) hfacts
        simp only [List.nil_append, List.append_nil]
        kernel_rfl
    · have hf := bad (by unfold ngood; rw [beq_eq_false_iff_ne.2 he, Bool.and_false])
      refine W.dt [] 40 ((qerr (ss[i]'hsi)) != 0) (by kernel_rfl) (by simpa using he) ?_
      exact W.r [40] (.tuple #[sv nilS, .bool false]) (by kernel_rfl) ⟨nilS, by rw [hf], rfl⟩ (entXF0 hf)
  · obtain rfl : i = n := by omega
    refine W.pubg rfl hg rfl (fun vo vc hv => ?_)
    subst hv
    have hts : ss.take i = ss := List.take_of_length_le (by omega)
    rw [hts] at hlq hgood
    have hall : ss.all ngood = true := List.all_eq_true.2 hgood
    have hok : numOk M N ss = (decide (0 ≤ M) && decide (0 ≤ N)) := by unfold numOk; rw [hall, decide_eq_true (by omega)]; simp
    refine W.df [] 17 (decide (((i : Nat) : Int) < (i : Nat))) (by kernel_rfl) (by rw [decide_eq_false_iff_not]; omega) ?_
    refine W.cl [17] (by kernel_rfl) (p_zof M (by omega) (by omega)) ?_
    rintro _ _ ⟨u5, d5, rfl, rfl⟩
    refine W.cl [] (by kernel_rfl) (p_zof N (by omega) (by omega)) ?_
    rintro _ _ ⟨u6, d6, rfl, rfl⟩
    by_cases hmn : 0 ≤ M ∧ 0 ≤ N
    · refine W.cl [] (by kernel_rfl) ((p_xof (Γ := OL QR vo (30, l) :: _) u5 d5 u6 d6 vo i vc hli.symm hi4 hmn.1 hmn.2).weak (fun I w hd h => Holds.cons ⟨Has.p (k := OS QR) (a := (30, l)) inferInstance h, Has.p (k := RA vo) (a := l.flatMap QR.cells) inferInstance h⟩ h) (fun _ _ h => h)) ?_
      rintro _ _ ⟨X7, rfl, rfl⟩
      refine W.r [] (.tuple #[sv X7, .bool true]) (by kernel_rfl) ⟨X7, by rw [hok, decide_eq_true hmn.1, decide_eq_true hmn.2]; rfl, rfl⟩ (fun I w hd hh => holds1 (fun _ => ?_))
      have f1 := Has.p (k := SF X7) (a := (max (max 2 2) 30, ⟨M, N, rAt l 0, rAt l 1, rAt l 2, rAt l 3⟩)) inferInstance hh
      rw [rAt_pAt hlq, rAt_pAt hlq, rAt_pAt hlq, rAt_pAt hlq] at f1
      exact f1
    · refine W.cl [] (by kernel_rfl) (p_xofE u5 d5 u6 d6 vo i vc (by omega)) ?_
      rintro _ _ ⟨rfl, rfl⟩
      have hf : numOk M N ss = false := by
        rw [hok]
        by_cases h1 : 0 ≤ M
        · rw [decide_eq_true h1, decide_eq_false (by omega)]; rfl
        · rw [decide_eq_false h1]; rfl
      exact W.r [] (.tuple #[sv nilS, .bool false]) (by kernel_rfl) ⟨nilS, by rw [hf], rfl⟩ (entXF0 hf)
/-- A division by what isn't 0. -/
theorem W.quo {P : Program} {c : Cfg} (D : List Nat) (a b r : Int) (h : readBin (vstep tb (Go.Proofs.YtabpaiboodllbaaGreat.runs tb D 999 c)) = some (.quo, .int .i64 a, .int .i64 b)) (hb : b ≠ 0) (hr : IntKind.i64.wrap (a.tdiv b) = r)
    (hk : W tb P fin (resume (vstep tb (Go.Proofs.YtabpaiboodllbaaGreat.runs tb D 999 c)) (.int .i64 r)) Γ) : W tb P fin c Γ := by
  subst hr
  refine W.runs D 999 ?_
  generalize Go.Proofs.YtabpaiboodllbaaGreat.runs tb D 999 c = c1 at *
  unfold readBin at h
  split at h
  · rename_i o c' he
    rw [he] at hk
    split at h
    · rename_i op ty u v yt hop
      split at h
      · rename_i x y hx hy
        simp only [Option.some.injEq, Prod.mk.injEq] at h
        obtain ⟨rfl, rfl, rfl⟩ := h
        refine W.read _ he (.any ?_) hk
        intro w
        simp [execOp, hop, rho_val hx, rho_val hy, eqGuard, binOp, Op.intDiv, hb]
      · simp at h
    · simp at h
  · simp at h
def rot : Nat → Sn → Sn → Sn × Sn
  | 0, X, Y => (X, Y)
  | k + 1, X, Y => rot k Y.neg X
/-- Before the move. -/
def On.farP (V : On) (X Y : Sn) : Sn × Sn := rot (V.o / 2).toNat (X.mul ⟨X.m, X.n, V.mag, 0, 0, 0⟩) (if V.f then (Y.mul ⟨X.m, X.n, V.mag, 0, 0, 0⟩).neg else Y.mul ⟨X.m, X.n, V.mag, 0, 0, 0⟩)
def On.farX (V : On) (X Y : Sn) : Sn := (V.farP X Y).1.add ⟨X.m, X.n, V.a, V.b, 0, 0⟩
def On.farY (V : On) (X Y : Sn) : Sn := (V.farP X Y).2.add ⟨X.m, X.n, V.c, V.d, 0, 0⟩

theorem p_ofarG1 (f : Bool) (g a c : Rat) {L1 : Nat} (t : Q5) (x y : Sw) {X Y : Sn} [Has (OF t) (L1, (⟨f, 1, g, a, 0, c, 0⟩ : On)) Γ] [Has (SF x) (L, X) Γ] [Has (SF y) (M, Y) Γ] (h0 : 0 ≤ X.m ∧ 0 ≤ X.n) (hmn : 2 < X.m ∨ 2 < X.n) (em : X.m = Y.m) (en : X.n = Y.n) (hL : L ≤ 40 ∧ M ≤ 40 ∧ L1 ≤ 100 := by omega) :
    PCalls tb Tryz.prog 52 [ttv f 1 t.g t.a t.b t.c t.d, plv x y] Γ (IsV (.tuple #[plv nilS nilS, .int .i64 6])) := by
  refine PCalls.of_W tbOk Tryz.func52 rfl (by kernel_rfl) ?_
  refine W.of5 t rfl ?_
  refine W.sf x rfl ?_
  refine W.cl [] (by kernel_rfl) (p_olike x y em en) ?_
  rintro _ _ ⟨rfl, rfl⟩
  refine W.cl [24] (by kernel_rfl) (p_onarrowF x h0 hmn) ?_
  rintro _ _ ⟨rfl, rfl⟩
  refine W.rem [32] 1 2 1 (by kernel_rfl) (by decide) (by decide) ?_
  refine W.dt [] 63 ((1 : Int) != 0) (by kernel_rfl) (by decide +kernel) ?_
  exact W.r [76, 70, 63] (.tuple #[plv nilS nilS, .int .i64 6]) (by kernel_rfl) ⟨rfl, rfl⟩ ent0

theorem p_ofarG3 (f : Bool) (g a c : Rat) {L1 : Nat} (t : Q5) (x y : Sw) {X Y : Sn} [Has (OF t) (L1, (⟨f, 3, g, a, 0, c, 0⟩ : On)) Γ] [Has (SF x) (L, X) Γ] [Has (SF y) (M, Y) Γ] (h0 : 0 ≤ X.m ∧ 0 ≤ X.n) (hmn : 2 < X.m ∨ 2 < X.n) (em : X.m = Y.m) (en : X.n = Y.n) (hL : L ≤ 40 ∧ M ≤ 40 ∧ L1 ≤ 100 := by omega) :
    PCalls tb Tryz.prog 52 [ttv f 3 t.g t.a t.b t.c t.d, plv x y] Γ (IsV (.tuple #[plv nilS nilS, .int .i64 6])) := by
  refine PCalls.of_W tbOk Tryz.func52 rfl (by kernel_rfl) ?_
  refine W.of5 t rfl ?_
  refine W.sf x rfl ?_
  refine W.cl [] (by kernel_rfl) (p_olike x y em en) ?_
  rintro _ _ ⟨rfl, rfl⟩
  refine W.cl [24] (by kernel_rfl) (p_onarrowF x h0 hmn) ?_
  rintro _ _ ⟨rfl, rfl⟩
  refine W.rem [32] 3 2 1 (by kernel_rfl) (by decide) (by decide) ?_
  refine W.dt [] 63 ((1 : Int) != 0) (by kernel_rfl) (by decide +kernel) ?_
  exact W.r [76, 70, 63] (.tuple #[plv nilS nilS, .int .i64 6]) (by kernel_rfl) ⟨rfl, rfl⟩ ent0

theorem p_ofarG5 (f : Bool) (g a c : Rat) {L1 : Nat} (t : Q5) (x y : Sw) {X Y : Sn} [Has (OF t) (L1, (⟨f, 5, g, a, 0, c, 0⟩ : On)) Γ] [Has (SF x) (L, X) Γ] [Has (SF y) (M, Y) Γ] (h0 : 0 ≤ X.m ∧ 0 ≤ X.n) (hmn : 2 < X.m ∨ 2 < X.n) (em : X.m = Y.m) (en : X.n = Y.n) (hL : L ≤ 40 ∧ M ≤ 40 ∧ L1 ≤ 100 := by omega) :
    PCalls tb Tryz.prog 52 [ttv f 5 t.g t.a t.b t.c t.d, plv x y] Γ (IsV (.tuple #[plv nilS nilS, .int .i64 6])) := by
  refine PCalls.of_W tbOk Tryz.func52 rfl (by kernel_rfl) ?_
  refine W.of5 t rfl ?_
  refine W.sf x rfl ?_
  refine W.cl [] (by kernel_rfl) (p_olike x y em en) ?_
  rintro _ _ ⟨rfl, rfl⟩
  refine W.cl [24] (by kernel_rfl) (p_onarrowF x h0 hmn) ?_
  rintro _ _ ⟨rfl, rfl⟩
  refine W.rem [32] 5 2 1 (by kernel_rfl) (by decide) (by decide) ?_
  refine W.dt [] 63 ((1 : Int) != 0) (by kernel_rfl) (by decide +kernel) ?_
  exact W.r [76, 70, 63] (.tuple #[plv nilS nilS, .int .i64 6]) (by kernel_rfl) ⟨rfl, rfl⟩ ent0

theorem p_ofarG7 (f : Bool) (g a c : Rat) {L1 : Nat} (t : Q5) (x y : Sw) {X Y : Sn} [Has (OF t) (L1, (⟨f, 7, g, a, 0, c, 0⟩ : On)) Γ] [Has (SF x) (L, X) Γ] [Has (SF y) (M, Y) Γ] (h0 : 0 ≤ X.m ∧ 0 ≤ X.n) (hmn : 2 < X.m ∨ 2 < X.n) (em : X.m = Y.m) (en : X.n = Y.n) (hL : L ≤ 40 ∧ M ≤ 40 ∧ L1 ≤ 100 := by omega) :
    PCalls tb Tryz.prog 52 [ttv f 7 t.g t.a t.b t.c t.d, plv x y] Γ (IsV (.tuple #[plv nilS nilS, .int .i64 6])) := by
  refine PCalls.of_W tbOk Tryz.func52 rfl (by kernel_rfl) ?_
  refine W.of5 t rfl ?_
  refine W.sf x rfl ?_
  refine W.cl [] (by kernel_rfl) (p_olike x y em en) ?_
  rintro _ _ ⟨rfl, rfl⟩
  refine W.cl [24] (by kernel_rfl) (p_onarrowF x h0 hmn) ?_
  rintro _ _ ⟨rfl, rfl⟩
  refine W.rem [32] 7 2 1 (by kernel_rfl) (by decide) (by decide) ?_
  refine W.dt [] 63 ((1 : Int) != 0) (by kernel_rfl) (by decide +kernel) ?_
  exact W.r [76, 70, 63] (.tuple #[plv nilS nilS, .int .i64 6]) (by kernel_rfl) ⟨rfl, rfl⟩ ent0

set_option maxHeartbeats 4000000 in
theorem p_ofarG0t (g a c : Rat) {L1 : Nat} (t : Q5) (x y : Sw) {X Y : Sn} [Has (OF t) (L1, (⟨true, 0, g, a, 0, c, 0⟩ : On)) Γ] [Has (SF x) (L, X) Γ] [Has (SF y) (M, Y) Γ] (h0 : 0 ≤ X.m ∧ 0 ≤ X.n) (hmn : 2 < X.m ∨ 2 < X.n) (em : X.m = Y.m) (en : X.n = Y.n) (hL : L ≤ 40 ∧ M ≤ 40 ∧ L1 ≤ 100 := by omega) :
    PCalls tb Tryz.prog 52 [ttv true 0 t.g t.a t.b t.c t.d, plv x y] Γ (FarPost 2000 (On.farX (⟨true, 0, g, a, 0, c, 0⟩ : On) X Y) (On.farY (⟨true, 0, g, a, 0, c, 0⟩ : On) X Y)) := by
  refine PCalls.of_W tbOk Tryz.func52 rfl (by kernel_rfl) ?_
  refine W.of5 t rfl ?_
  refine W.sf x rfl ?_
  refine W.cl [] (by kernel_rfl) (p_olike x y em en) ?_
  rintro _ _ ⟨rfl, rfl⟩
  refine W.cl [24] (by kernel_rfl) (p_onarrowF x h0 hmn) ?_
  rintro _ _ ⟨rfl, rfl⟩
  refine W.rem [32] 0 2 0 (by kernel_rfl) (by decide) (by decide) ?_
  refine W.df [] 63 ((0 : Int) != 0) (by kernel_rfl) (by decide +kernel) ?_
  refine W.cl [63] (by kernel_rfl) (p_qsign t.b.n t.b.a t.b.m t.b.b) ?_
  rintro _ _ ⟨rfl, rfl⟩
  refine W.df [63] 70 ((0 : Rat).num.sign != 0) (by kernel_rfl) (by decide +kernel) ?_
  refine W.cl [70] (by kernel_rfl) (p_qsign t.d.n t.d.a t.d.m t.d.b) ?_
  rintro _ _ ⟨rfl, rfl⟩
  refine W.df [70] 76 ((0 : Rat).num.sign != 0) (by kernel_rfl) (by decide +kernel) ?_
  refine W.cl [76] (by kernel_rfl) (p_xfield x) ?_
  rintro _ _ ⟨rfl, rfl⟩
  refine W.cl [] (by kernel_rfl) (p_omag true 0 t.g t.a t.b t.c t.d (V := (⟨true, 0, g, a, 0, c, 0⟩ : On))) ?_
  rintro _ _ ⟨g7, rfl, rfl⟩
  generalize hq : On.mag (⟨true, 0, g, a, 0, c, 0⟩ : On) = qm
  refine W.bs [] 1 ([(⟨g7.n, g7.a, g7.m, g7.b, qm⟩ : QE)].flatMap QR.cells) tbOk (by kernel_rfl) (fun b8 => ?_)
  refine W.cl [] (by kernel_rfl) (p_xof1 x.u x.d x.v x.e b8 ⟨g7.n, g7.a, g7.m, g7.b⟩ h0.1 h0.2) ?_
  rintro _ _ ⟨X9, rfl, rfl⟩
  refine W.cl [] (by kernel_rfl) (p_xmul (S := X) (T := ⟨X.m, X.n, qm, 0, 0, 0⟩) x X9 rfl rfl) ?_
  rintro _ _ ⟨X10, rfl, rfl⟩
  refine W.cl [] (by kernel_rfl) (p_xmul (S := Y) (T := ⟨X.m, X.n, qm, 0, 0, 0⟩) y X9 em.symm en.symm) ?_
  rintro _ _ ⟨X11, rfl, rfl⟩
  refine W.cl [108] (by kernel_rfl) (p_xneg X11) ?_
  rintro _ _ ⟨X12, rfl, rfl⟩
  refine W.quo [] 0 2 0 (by kernel_rfl) (by decide) (by decide) ?_
  refine W.unr [] 6 (by kernel_rfl) ?_
  refine W.cl [115] (by kernel_rfl) (p_onumber x.u x.d x.v x.e t.a t.b h0.1 h0.2) ?_
  rintro _ _ ⟨X20, rfl, rfl⟩
  refine W.cl [] (by kernel_rfl) (p_xadd (S := (X.mul ⟨X.m, X.n, qm, 0, 0, 0⟩)) (T := ⟨X.m, X.n, a, 0, 0, 0⟩) X10 X20 rfl rfl) ?_
  rintro _ _ ⟨X21, rfl, rfl⟩
  refine W.cl [] (by kernel_rfl) (p_onumber x.u x.d x.v x.e t.c t.d h0.1 h0.2) ?_
  rintro _ _ ⟨X22, rfl, rfl⟩
  refine W.cl [] (by kernel_rfl) (p_xadd (S := (Y.mul ⟨X.m, X.n, qm, 0, 0, 0⟩).neg) (T := ⟨X.m, X.n, c, 0, 0, 0⟩) X12 X22 em.symm en.symm) ?_
  rintro _ _ ⟨X23, rfl, rfl⟩
  exact W.r [] (.tuple #[plv X21 X23, .int .i64 0]) (by kernel_rfl) ⟨_, _, rfl, rfl⟩ (entPl (by omega) (by unfold On.farX On.farP; rw [hq]; rfl) (by unfold On.farY On.farP; rw [hq]; rfl))

set_option maxHeartbeats 4000000 in
theorem p_ofarG0f (g a c : Rat) {L1 : Nat} (t : Q5) (x y : Sw) {X Y : Sn} [Has (OF t) (L1, (⟨false, 0, g, a, 0, c, 0⟩ : On)) Γ] [Has (SF x) (L, X) Γ] [Has (SF y) (M, Y) Γ] (h0 : 0 ≤ X.m ∧ 0 ≤ X.n) (hmn : 2 < X.m ∨ 2 < X.n) (em : X.m = Y.m) (en : X.n = Y.n) (hL : L ≤ 40 ∧ M ≤ 40 ∧ L1 ≤ 100 := by omega) :
    PCalls tb Tryz.prog 52 [ttv false 0 t.g t.a t.b t.c t.d, plv x y] Γ (FarPost 2000 (On.farX (⟨false, 0, g, a, 0, c, 0⟩ : On) X Y) (On.farY (⟨false, 0, g, a, 0, c, 0⟩ : On) X Y)) := by
  refine PCalls.of_W tbOk Tryz.func52 rfl (by kernel_rfl) ?_
  refine W.of5 t rfl ?_
  refine W.sf x rfl ?_
  refine W.cl [] (by kernel_rfl) (p_olike x y em en) ?_
  rintro _ _ ⟨rfl, rfl⟩
  refine W.cl [24] (by kernel_rfl) (p_onarrowF x h0 hmn) ?_
  rintro _ _ ⟨rfl, rfl⟩
  refine W.rem [32] 0 2 0 (by kernel_rfl) (by decide) (by decide) ?_
  refine W.df [] 63 ((0 : Int) != 0) (by kernel_rfl) (by decide +kernel) ?_
  refine W.cl [63] (by kernel_rfl) (p_qsign t.b.n t.b.a t.b.m t.b.b) ?_
  rintro _ _ ⟨rfl, rfl⟩
  refine W.df [63] 70 ((0 : Rat).num.sign != 0) (by kernel_rfl) (by decide +kernel) ?_
  refine W.cl [70] (by kernel_rfl) (p_qsign t.d.n t.d.a t.d.m t.d.b) ?_
  rintro _ _ ⟨rfl, rfl⟩
  refine W.df [70] 76 ((0 : Rat).num.sign != 0) (by kernel_rfl) (by decide +kernel) ?_
  refine W.cl [76] (by kernel_rfl) (p_xfield x) ?_
  rintro _ _ ⟨rfl, rfl⟩
  refine W.cl [] (by kernel_rfl) (p_omag false 0 t.g t.a t.b t.c t.d (V := (⟨false, 0, g, a, 0, c, 0⟩ : On))) ?_
  rintro _ _ ⟨g7, rfl, rfl⟩
  generalize hq : On.mag (⟨false, 0, g, a, 0, c, 0⟩ : On) = qm
  refine W.bs [] 1 ([(⟨g7.n, g7.a, g7.m, g7.b, qm⟩ : QE)].flatMap QR.cells) tbOk (by kernel_rfl) (fun b8 => ?_)
  refine W.cl [] (by kernel_rfl) (p_xof1 x.u x.d x.v x.e b8 ⟨g7.n, g7.a, g7.m, g7.b⟩ h0.1 h0.2) ?_
  rintro _ _ ⟨X9, rfl, rfl⟩
  refine W.cl [] (by kernel_rfl) (p_xmul (S := X) (T := ⟨X.m, X.n, qm, 0, 0, 0⟩) x X9 rfl rfl) ?_
  rintro _ _ ⟨X10, rfl, rfl⟩
  refine W.cl [] (by kernel_rfl) (p_xmul (S := Y) (T := ⟨X.m, X.n, qm, 0, 0, 0⟩) y X9 em.symm en.symm) ?_
  rintro _ _ ⟨X11, rfl, rfl⟩
  refine W.quo [108] 0 2 0 (by kernel_rfl) (by decide) (by decide) ?_
  refine W.unr [] 6 (by kernel_rfl) ?_
  refine W.cl [115] (by kernel_rfl) (p_onumber x.u x.d x.v x.e t.a t.b h0.1 h0.2) ?_
  rintro _ _ ⟨X20, rfl, rfl⟩
  refine W.cl [] (by kernel_rfl) (p_xadd (S := (X.mul ⟨X.m, X.n, qm, 0, 0, 0⟩)) (T := ⟨X.m, X.n, a, 0, 0, 0⟩) X10 X20 rfl rfl) ?_
  rintro _ _ ⟨X21, rfl, rfl⟩
  refine W.cl [] (by kernel_rfl) (p_onumber x.u x.d x.v x.e t.c t.d h0.1 h0.2) ?_
  rintro _ _ ⟨X22, rfl, rfl⟩
  refine W.cl [] (by kernel_rfl) (p_xadd (S := (Y.mul ⟨X.m, X.n, qm, 0, 0, 0⟩)) (T := ⟨X.m, X.n, c, 0, 0, 0⟩) X11 X22 em.symm en.symm) ?_
  rintro _ _ ⟨X23, rfl, rfl⟩
  exact W.r [] (.tuple #[plv X21 X23, .int .i64 0]) (by kernel_rfl) ⟨_, _, rfl, rfl⟩ (entPl (by omega) (by unfold On.farX On.farP; rw [hq]; rfl) (by unfold On.farY On.farP; rw [hq]; rfl))

set_option maxHeartbeats 4000000 in
theorem p_ofarG2t (g a c : Rat) {L1 : Nat} (t : Q5) (x y : Sw) {X Y : Sn} [Has (OF t) (L1, (⟨true, 2, g, a, 0, c, 0⟩ : On)) Γ] [Has (SF x) (L, X) Γ] [Has (SF y) (M, Y) Γ] (h0 : 0 ≤ X.m ∧ 0 ≤ X.n) (hmn : 2 < X.m ∨ 2 < X.n) (em : X.m = Y.m) (en : X.n = Y.n) (hL : L ≤ 40 ∧ M ≤ 40 ∧ L1 ≤ 100 := by omega) :
    PCalls tb Tryz.prog 52 [ttv true 2 t.g t.a t.b t.c t.d, plv x y] Γ (FarPost 2000 (On.farX (⟨true, 2, g, a, 0, c, 0⟩ : On) X Y) (On.farY (⟨true, 2, g, a, 0, c, 0⟩ : On) X Y)) := by
  refine PCalls.of_W tbOk Tryz.func52 rfl (by kernel_rfl) ?_
  refine W.of5 t rfl ?_
  refine W.sf x rfl ?_
  refine W.cl [] (by kernel_rfl) (p_olike x y em en) ?_
  rintro _ _ ⟨rfl, rfl⟩
  refine W.cl [24] (by kernel_rfl) (p_onarrowF x h0 hmn) ?_
  rintro _ _ ⟨rfl, rfl⟩
  refine W.rem [32] 2 2 0 (by kernel_rfl) (by decide) (by decide) ?_
  refine W.df [] 63 ((0 : Int) != 0) (by kernel_rfl) (by decide +kernel) ?_
  refine W.cl [63] (by kernel_rfl) (p_qsign t.b.n t.b.a t.b.m t.b.b) ?_
  rintro _ _ ⟨rfl, rfl⟩
  refine W.df [63] 70 ((0 : Rat).num.sign != 0) (by kernel_rfl) (by decide +kernel) ?_
  refine W.cl [70] (by kernel_rfl) (p_qsign t.d.n t.d.a t.d.m t.d.b) ?_
  rintro _ _ ⟨rfl, rfl⟩
  refine W.df [70] 76 ((0 : Rat).num.sign != 0) (by kernel_rfl) (by decide +kernel) ?_
  refine W.cl [76] (by kernel_rfl) (p_xfield x) ?_
  rintro _ _ ⟨rfl, rfl⟩
  refine W.cl [] (by kernel_rfl) (p_omag true 2 t.g t.a t.b t.c t.d (V := (⟨true, 2, g, a, 0, c, 0⟩ : On))) ?_
  rintro _ _ ⟨g7, rfl, rfl⟩
  generalize hq : On.mag (⟨true, 2, g, a, 0, c, 0⟩ : On) = qm
  refine W.bs [] 1 ([(⟨g7.n, g7.a, g7.m, g7.b, qm⟩ : QE)].flatMap QR.cells) tbOk (by kernel_rfl) (fun b8 => ?_)
  refine W.cl [] (by kernel_rfl) (p_xof1 x.u x.d x.v x.e b8 ⟨g7.n, g7.a, g7.m, g7.b⟩ h0.1 h0.2) ?_
  rintro _ _ ⟨X9, rfl, rfl⟩
  refine W.cl [] (by kernel_rfl) (p_xmul (S := X) (T := ⟨X.m, X.n, qm, 0, 0, 0⟩) x X9 rfl rfl) ?_
  rintro _ _ ⟨X10, rfl, rfl⟩
  refine W.cl [] (by kernel_rfl) (p_xmul (S := Y) (T := ⟨X.m, X.n, qm, 0, 0, 0⟩) y X9 em.symm en.symm) ?_
  rintro _ _ ⟨X11, rfl, rfl⟩
  refine W.cl [108] (by kernel_rfl) (p_xneg X11) ?_
  rintro _ _ ⟨X12, rfl, rfl⟩
  refine W.quo [] 2 2 1 (by kernel_rfl) (by decide) (by decide) ?_
  refine W.unr [] 6 (by kernel_rfl) ?_
  refine W.cl [115] (by kernel_rfl) (p_xneg X12) ?_
  rintro _ _ ⟨X13, rfl, rfl⟩
  refine W.cl [115] (by kernel_rfl) (p_onumber x.u x.d x.v x.e t.a t.b h0.1 h0.2) ?_
  rintro _ _ ⟨X20, rfl, rfl⟩
  refine W.cl [] (by kernel_rfl) (p_xadd (S := (Y.mul ⟨X.m, X.n, qm, 0, 0, 0⟩).neg.neg) (T := ⟨X.m, X.n, a, 0, 0, 0⟩) X13 X20 em.symm en.symm) ?_
  rintro _ _ ⟨X21, rfl, rfl⟩
  refine W.cl [] (by kernel_rfl) (p_onumber x.u x.d x.v x.e t.c t.d h0.1 h0.2) ?_
  rintro _ _ ⟨X22, rfl, rfl⟩
  refine W.cl [] (by kernel_rfl) (p_xadd (S := (X.mul ⟨X.m, X.n, qm, 0, 0, 0⟩)) (T := ⟨X.m, X.n, c, 0, 0, 0⟩) X10 X22 rfl rfl) ?_
  rintro _ _ ⟨X23, rfl, rfl⟩
  exact W.r [] (.tuple #[plv X21 X23, .int .i64 0]) (by kernel_rfl) ⟨_, _, rfl, rfl⟩ (entPl (by omega) (by unfold On.farX On.farP; rw [hq]; rfl) (by unfold On.farY On.farP; rw [hq]; rfl))

set_option maxHeartbeats 4000000 in
theorem p_ofarG2f (g a c : Rat) {L1 : Nat} (t : Q5) (x y : Sw) {X Y : Sn} [Has (OF t) (L1, (⟨false, 2, g, a, 0, c, 0⟩ : On)) Γ] [Has (SF x) (L, X) Γ] [Has (SF y) (M, Y) Γ] (h0 : 0 ≤ X.m ∧ 0 ≤ X.n) (hmn : 2 < X.m ∨ 2 < X.n) (em : X.m = Y.m) (en : X.n = Y.n) (hL : L ≤ 40 ∧ M ≤ 40 ∧ L1 ≤ 100 := by omega) :
    PCalls tb Tryz.prog 52 [ttv false 2 t.g t.a t.b t.c t.d, plv x y] Γ (FarPost 2000 (On.farX (⟨false, 2, g, a, 0, c, 0⟩ : On) X Y) (On.farY (⟨false, 2, g, a, 0, c, 0⟩ : On) X Y)) := by
  refine PCalls.of_W tbOk Tryz.func52 rfl (by kernel_rfl) ?_
  refine W.of5 t rfl ?_
  refine W.sf x rfl ?_
  refine W.cl [] (by kernel_rfl) (p_olike x y em en) ?_
  rintro _ _ ⟨rfl, rfl⟩
  refine W.cl [24] (by kernel_rfl) (p_onarrowF x h0 hmn) ?_
  rintro _ _ ⟨rfl, rfl⟩
  refine W.rem [32] 2 2 0 (by kernel_rfl) (by decide) (by decide) ?_
  refine W.df [] 63 ((0 : Int) != 0) (by kernel_rfl) (by decide +kernel) ?_
  refine W.cl [63] (by kernel_rfl) (p_qsign t.b.n t.b.a t.b.m t.b.b) ?_
  rintro _ _ ⟨rfl, rfl⟩
  refine W.df [63] 70 ((0 : Rat).num.sign != 0) (by kernel_rfl) (by decide +kernel) ?_
  refine W.cl [70] (by kernel_rfl) (p_qsign t.d.n t.d.a t.d.m t.d.b) ?_
  rintro _ _ ⟨rfl, rfl⟩
  refine W.df [70] 76 ((0 : Rat).num.sign != 0) (by kernel_rfl) (by decide +kernel) ?_
  refine W.cl [76] (by kernel_rfl) (p_xfield x) ?_
  rintro _ _ ⟨rfl, rfl⟩
  refine W.cl [] (by kernel_rfl) (p_omag false 2 t.g t.a t.b t.c t.d (V := (⟨false, 2, g, a, 0, c, 0⟩ : On))) ?_
  rintro _ _ ⟨g7, rfl, rfl⟩
  generalize hq : On.mag (⟨false, 2, g, a, 0, c, 0⟩ : On) = qm
  refine W.bs [] 1 ([(⟨g7.n, g7.a, g7.m, g7.b, qm⟩ : QE)].flatMap QR.cells) tbOk (by kernel_rfl) (fun b8 => ?_)
  refine W.cl [] (by kernel_rfl) (p_xof1 x.u x.d x.v x.e b8 ⟨g7.n, g7.a, g7.m, g7.b⟩ h0.1 h0.2) ?_
  rintro _ _ ⟨X9, rfl, rfl⟩
  refine W.cl [] (by kernel_rfl) (p_xmul (S := X) (T := ⟨X.m, X.n, qm, 0, 0, 0⟩) x X9 rfl rfl) ?_
  rintro _ _ ⟨X10, rfl, rfl⟩
  refine W.cl [] (by kernel_rfl) (p_xmul (S := Y) (T := ⟨X.m, X.n, qm, 0, 0, 0⟩) y X9 em.symm en.symm) ?_
  rintro _ _ ⟨X11, rfl, rfl⟩
  refine W.quo [108] 2 2 1 (by kernel_rfl) (by decide) (by decide) ?_
  refine W.unr [] 6 (by kernel_rfl) ?_
  refine W.cl [115] (by kernel_rfl) (p_xneg X11) ?_
  rintro _ _ ⟨X12, rfl, rfl⟩
  refine W.cl [115] (by kernel_rfl) (p_onumber x.u x.d x.v x.e t.a t.b h0.1 h0.2) ?_
  rintro _ _ ⟨X20, rfl, rfl⟩
  refine W.cl [] (by kernel_rfl) (p_xadd (S := (Y.mul ⟨X.m, X.n, qm, 0, 0, 0⟩).neg) (T := ⟨X.m, X.n, a, 0, 0, 0⟩) X12 X20 em.symm en.symm) ?_
  rintro _ _ ⟨X21, rfl, rfl⟩
  refine W.cl [] (by kernel_rfl) (p_onumber x.u x.d x.v x.e t.c t.d h0.1 h0.2) ?_
  rintro _ _ ⟨X22, rfl, rfl⟩
  refine W.cl [] (by kernel_rfl) (p_xadd (S := (X.mul ⟨X.m, X.n, qm, 0, 0, 0⟩)) (T := ⟨X.m, X.n, c, 0, 0, 0⟩) X10 X22 rfl rfl) ?_
  rintro _ _ ⟨X23, rfl, rfl⟩
  exact W.r [] (.tuple #[plv X21 X23, .int .i64 0]) (by kernel_rfl) ⟨_, _, rfl, rfl⟩ (entPl (by omega) (by unfold On.farX On.farP; rw [hq]; rfl) (by unfold On.farY On.farP; rw [hq]; rfl))

set_option maxHeartbeats 4000000 in
theorem p_ofarG4t (g a c : Rat) {L1 : Nat} (t : Q5) (x y : Sw) {X Y : Sn} [Has (OF t) (L1, (⟨true, 4, g, a, 0, c, 0⟩ : On)) Γ] [Has (SF x) (L, X) Γ] [Has (SF y) (M, Y) Γ] (h0 : 0 ≤ X.m ∧ 0 ≤ X.n) (hmn : 2 < X.m ∨ 2 < X.n) (em : X.m = Y.m) (en : X.n = Y.n) (hL : L ≤ 40 ∧ M ≤ 40 ∧ L1 ≤ 100 := by omega) :
    PCalls tb Tryz.prog 52 [ttv true 4 t.g t.a t.b t.c t.d, plv x y] Γ (FarPost 2000 (On.farX (⟨true, 4, g, a, 0, c, 0⟩ : On) X Y) (On.farY (⟨true, 4, g, a, 0, c, 0⟩ : On) X Y)) := by
  refine PCalls.of_W tbOk Tryz.func52 rfl (by kernel_rfl) ?_
  refine W.of5 t rfl ?_
  refine W.sf x rfl ?_
  refine W.cl [] (by kernel_rfl) (p_olike x y em en) ?_
  rintro _ _ ⟨rfl, rfl⟩
  refine W.cl [24] (by kernel_rfl) (p_onarrowF x h0 hmn) ?_
  rintro _ _ ⟨rfl, rfl⟩
  refine W.rem [32] 4 2 0 (by kernel_rfl) (by decide) (by decide) ?_
  refine W.df [] 63 ((0 : Int) != 0) (by kernel_rfl) (by decide +kernel) ?_
  refine W.cl [63] (by kernel_rfl) (p_qsign t.b.n t.b.a t.b.m t.b.b) ?_
  rintro _ _ ⟨rfl, rfl⟩
  refine W.df [63] 70 ((0 : Rat).num.sign != 0) (by kernel_rfl) (by decide +kernel) ?_
  refine W.cl [70] (by kernel_rfl) (p_qsign t.d.n t.d.a t.d.m t.d.b) ?_
  rintro _ _ ⟨rfl, rfl⟩
  refine W.df [70] 76 ((0 : Rat).num.sign != 0) (by kernel_rfl) (by decide +kernel) ?_
  refine W.cl [76] (by kernel_rfl) (p_xfield x) ?_
  rintro _ _ ⟨rfl, rfl⟩
  refine W.cl [] (by kernel_rfl) (p_omag true 4 t.g t.a t.b t.c t.d (V := (⟨true, 4, g, a, 0, c, 0⟩ : On))) ?_
  rintro _ _ ⟨g7, rfl, rfl⟩
  generalize hq : On.mag (⟨true, 4, g, a, 0, c, 0⟩ : On) = qm
  refine W.bs [] 1 ([(⟨g7.n, g7.a, g7.m, g7.b, qm⟩ : QE)].flatMap QR.cells) tbOk (by kernel_rfl) (fun b8 => ?_)
  refine W.cl [] (by kernel_rfl) (p_xof1 x.u x.d x.v x.e b8 ⟨g7.n, g7.a, g7.m, g7.b⟩ h0.1 h0.2) ?_
  rintro _ _ ⟨X9, rfl, rfl⟩
  refine W.cl [] (by kernel_rfl) (p_xmul (S := X) (T := ⟨X.m, X.n, qm, 0, 0, 0⟩) x X9 rfl rfl) ?_
  rintro _ _ ⟨X10, rfl, rfl⟩
  refine W.cl [] (by kernel_rfl) (p_xmul (S := Y) (T := ⟨X.m, X.n, qm, 0, 0, 0⟩) y X9 em.symm en.symm) ?_
  rintro _ _ ⟨X11, rfl, rfl⟩
  refine W.cl [108] (by kernel_rfl) (p_xneg X11) ?_
  rintro _ _ ⟨X12, rfl, rfl⟩
  refine W.quo [] 4 2 2 (by kernel_rfl) (by decide) (by decide) ?_
  refine W.unr [] 6 (by kernel_rfl) ?_
  refine W.cl [115] (by kernel_rfl) (p_xneg X12) ?_
  rintro _ _ ⟨X13, rfl, rfl⟩
  refine W.cl [115] (by kernel_rfl) (p_xneg X10) ?_
  rintro _ _ ⟨X14, rfl, rfl⟩
  refine W.cl [115] (by kernel_rfl) (p_onumber x.u x.d x.v x.e t.a t.b h0.1 h0.2) ?_
  rintro _ _ ⟨X20, rfl, rfl⟩
  refine W.cl [] (by kernel_rfl) (p_xadd (S := (X.mul ⟨X.m, X.n, qm, 0, 0, 0⟩).neg) (T := ⟨X.m, X.n, a, 0, 0, 0⟩) X14 X20 rfl rfl) ?_
  rintro _ _ ⟨X21, rfl, rfl⟩
  refine W.cl [] (by kernel_rfl) (p_onumber x.u x.d x.v x.e t.c t.d h0.1 h0.2) ?_
  rintro _ _ ⟨X22, rfl, rfl⟩
  refine W.cl [] (by kernel_rfl) (p_xadd (S := (Y.mul ⟨X.m, X.n, qm, 0, 0, 0⟩).neg.neg) (T := ⟨X.m, X.n, c, 0, 0, 0⟩) X13 X22 em.symm en.symm) ?_
  rintro _ _ ⟨X23, rfl, rfl⟩
  exact W.r [] (.tuple #[plv X21 X23, .int .i64 0]) (by kernel_rfl) ⟨_, _, rfl, rfl⟩ (entPl (by omega) (by unfold On.farX On.farP; rw [hq]; rfl) (by unfold On.farY On.farP; rw [hq]; rfl))

set_option maxHeartbeats 4000000 in
theorem p_ofarG4f (g a c : Rat) {L1 : Nat} (t : Q5) (x y : Sw) {X Y : Sn} [Has (OF t) (L1, (⟨false, 4, g, a, 0, c, 0⟩ : On)) Γ] [Has (SF x) (L, X) Γ] [Has (SF y) (M, Y) Γ] (h0 : 0 ≤ X.m ∧ 0 ≤ X.n) (hmn : 2 < X.m ∨ 2 < X.n) (em : X.m = Y.m) (en : X.n = Y.n) (hL : L ≤ 40 ∧ M ≤ 40 ∧ L1 ≤ 100 := by omega) :
    PCalls tb Tryz.prog 52 [ttv false 4 t.g t.a t.b t.c t.d, plv x y] Γ (FarPost 2000 (On.farX (⟨false, 4, g, a, 0, c, 0⟩ : On) X Y) (On.farY (⟨false, 4, g, a, 0, c, 0⟩ : On) X Y)) := by
  refine PCalls.of_W tbOk Tryz.func52 rfl (by kernel_rfl) ?_
  refine W.of5 t rfl ?_
  refine W.sf x rfl ?_
  refine W.cl [] (by kernel_rfl) (p_olike x y em en) ?_
  rintro _ _ ⟨rfl, rfl⟩
  refine W.cl [24] (by kernel_rfl) (p_onarrowF x h0 hmn) ?_
  rintro _ _ ⟨rfl, rfl⟩
  refine W.rem [32] 4 2 0 (by kernel_rfl) (by decide) (by decide) ?_
  refine W.df [] 63 ((0 : Int) != 0) (by kernel_rfl) (by decide +kernel) ?_
  refine W.cl [63] (by kernel_rfl) (p_qsign t.b.n t.b.a t.b.m t.b.b) ?_
  rintro _ _ ⟨rfl, rfl⟩
  refine W.df [63] 70 ((0 : Rat).num.sign != 0) (by kernel_rfl) (by decide +kernel) ?_
  refine W.cl [70] (by kernel_rfl) (p_qsign t.d.n t.d.a t.d.m t.d.b) ?_
  rintro _ _ ⟨rfl, rfl⟩
  refine W.df [70] 76 ((0 : Rat).num.sign != 0) (by kernel_rfl) (by decide +kernel) ?_
  refine W.cl [76] (by kernel_rfl) (p_xfield x) ?_
  rintro _ _ ⟨rfl, rfl⟩
  refine W.cl [] (by kernel_rfl) (p_omag false 4 t.g t.a t.b t.c t.d (V := (⟨false, 4, g, a, 0, c, 0⟩ : On))) ?_
  rintro _ _ ⟨g7, rfl, rfl⟩
  generalize hq : On.mag (⟨false, 4, g, a, 0, c, 0⟩ : On) = qm
  refine W.bs [] 1 ([(⟨g7.n, g7.a, g7.m, g7.b, qm⟩ : QE)].flatMap QR.cells) tbOk (by kernel_rfl) (fun b8 => ?_)
  refine W.cl [] (by kernel_rfl) (p_xof1 x.u x.d x.v x.e b8 ⟨g7.n, g7.a, g7.m, g7.b⟩ h0.1 h0.2) ?_
  rintro _ _ ⟨X9, rfl, rfl⟩
  refine W.cl [] (by kernel_rfl) (p_xmul (S := X) (T := ⟨X.m, X.n, qm, 0, 0, 0⟩) x X9 rfl rfl) ?_
  rintro _ _ ⟨X10, rfl, rfl⟩
  refine W.cl [] (by kernel_rfl) (p_xmul (S := Y) (T := ⟨X.m, X.n, qm, 0, 0, 0⟩) y X9 em.symm en.symm) ?_
  rintro _ _ ⟨X11, rfl, rfl⟩
  refine W.quo [108] 4 2 2 (by kernel_rfl) (by decide) (by decide) ?_
  refine W.unr [] 6 (by kernel_rfl) ?_
  refine W.cl [115] (by kernel_rfl) (p_xneg X11) ?_
  rintro _ _ ⟨X12, rfl, rfl⟩
  refine W.cl [115] (by kernel_rfl) (p_xneg X10) ?_
  rintro _ _ ⟨X13, rfl, rfl⟩
  refine W.cl [115] (by kernel_rfl) (p_onumber x.u x.d x.v x.e t.a t.b h0.1 h0.2) ?_
  rintro _ _ ⟨X20, rfl, rfl⟩
  refine W.cl [] (by kernel_rfl) (p_xadd (S := (X.mul ⟨X.m, X.n, qm, 0, 0, 0⟩).neg) (T := ⟨X.m, X.n, a, 0, 0, 0⟩) X13 X20 rfl rfl) ?_
  rintro _ _ ⟨X21, rfl, rfl⟩
  refine W.cl [] (by kernel_rfl) (p_onumber x.u x.d x.v x.e t.c t.d h0.1 h0.2) ?_
  rintro _ _ ⟨X22, rfl, rfl⟩
  refine W.cl [] (by kernel_rfl) (p_xadd (S := (Y.mul ⟨X.m, X.n, qm, 0, 0, 0⟩).neg) (T := ⟨X.m, X.n, c, 0, 0, 0⟩) X12 X22 em.symm en.symm) ?_
  rintro _ _ ⟨X23, rfl, rfl⟩
  exact W.r [] (.tuple #[plv X21 X23, .int .i64 0]) (by kernel_rfl) ⟨_, _, rfl, rfl⟩ (entPl (by omega) (by unfold On.farX On.farP; rw [hq]; rfl) (by unfold On.farY On.farP; rw [hq]; rfl))

set_option maxHeartbeats 4000000 in
theorem p_ofarG6t (g a c : Rat) {L1 : Nat} (t : Q5) (x y : Sw) {X Y : Sn} [Has (OF t) (L1, (⟨true, 6, g, a, 0, c, 0⟩ : On)) Γ] [Has (SF x) (L, X) Γ] [Has (SF y) (M, Y) Γ] (h0 : 0 ≤ X.m ∧ 0 ≤ X.n) (hmn : 2 < X.m ∨ 2 < X.n) (em : X.m = Y.m) (en : X.n = Y.n) (hL : L ≤ 40 ∧ M ≤ 40 ∧ L1 ≤ 100 := by omega) :
    PCalls tb Tryz.prog 52 [ttv true 6 t.g t.a t.b t.c t.d, plv x y] Γ (FarPost 2000 (On.farX (⟨true, 6, g, a, 0, c, 0⟩ : On) X Y) (On.farY (⟨true, 6, g, a, 0, c, 0⟩ : On) X Y)) := by
  refine PCalls.of_W tbOk Tryz.func52 rfl (by kernel_rfl) ?_
  refine W.of5 t rfl ?_
  refine W.sf x rfl ?_
  refine W.cl [] (by kernel_rfl) (p_olike x y em en) ?_
  rintro _ _ ⟨rfl, rfl⟩
  refine W.cl [24] (by kernel_rfl) (p_onarrowF x h0 hmn) ?_
  rintro _ _ ⟨rfl, rfl⟩
  refine W.rem [32] 6 2 0 (by kernel_rfl) (by decide) (by decide) ?_
  refine W.df [] 63 ((0 : Int) != 0) (by kernel_rfl) (by decide +kernel) ?_
  refine W.cl [63] (by kernel_rfl) (p_qsign t.b.n t.b.a t.b.m t.b.b) ?_
  rintro _ _ ⟨rfl, rfl⟩
  refine W.df [63] 70 ((0 : Rat).num.sign != 0) (by kernel_rfl) (by decide +kernel) ?_
  refine W.cl [70] (by kernel_rfl) (p_qsign t.d.n t.d.a t.d.m t.d.b) ?_
  rintro _ _ ⟨rfl, rfl⟩
  refine W.df [70] 76 ((0 : Rat).num.sign != 0) (by kernel_rfl) (by decide +kernel) ?_
  refine W.cl [76] (by kernel_rfl) (p_xfield x) ?_
  rintro _ _ ⟨rfl, rfl⟩
  refine W.cl [] (by kernel_rfl) (p_omag true 6 t.g t.a t.b t.c t.d (V := (⟨true, 6, g, a, 0, c, 0⟩ : On))) ?_
  rintro _ _ ⟨g7, rfl, rfl⟩
  generalize hq : On.mag (⟨true, 6, g, a, 0, c, 0⟩ : On) = qm
  refine W.bs [] 1 ([(⟨g7.n, g7.a, g7.m, g7.b, qm⟩ : QE)].flatMap QR.cells) tbOk (by kernel_rfl) (fun b8 => ?_)
  refine W.cl [] (by kernel_rfl) (p_xof1 x.u x.d x.v x.e b8 ⟨g7.n, g7.a, g7.m, g7.b⟩ h0.1 h0.2) ?_
  rintro _ _ ⟨X9, rfl, rfl⟩
  refine W.cl [] (by kernel_rfl) (p_xmul (S := X) (T := ⟨X.m, X.n, qm, 0, 0, 0⟩) x X9 rfl rfl) ?_
  rintro _ _ ⟨X10, rfl, rfl⟩
  refine W.cl [] (by kernel_rfl) (p_xmul (S := Y) (T := ⟨X.m, X.n, qm, 0, 0, 0⟩) y X9 em.symm en.symm) ?_
  rintro _ _ ⟨X11, rfl, rfl⟩
  refine W.cl [108] (by kernel_rfl) (p_xneg X11) ?_
  rintro _ _ ⟨X12, rfl, rfl⟩
  refine W.quo [] 6 2 3 (by kernel_rfl) (by decide) (by decide) ?_
  refine W.unr [] 6 (by kernel_rfl) ?_
  refine W.cl [115] (by kernel_rfl) (p_xneg X12) ?_
  rintro _ _ ⟨X13, rfl, rfl⟩
  refine W.cl [115] (by kernel_rfl) (p_xneg X10) ?_
  rintro _ _ ⟨X14, rfl, rfl⟩
  refine W.cl [115] (by kernel_rfl) (p_xneg X13) ?_
  rintro _ _ ⟨X15, rfl, rfl⟩
  refine W.cl [115] (by kernel_rfl) (p_onumber x.u x.d x.v x.e t.a t.b h0.1 h0.2) ?_
  rintro _ _ ⟨X20, rfl, rfl⟩
  refine W.cl [] (by kernel_rfl) (p_xadd (S := (Y.mul ⟨X.m, X.n, qm, 0, 0, 0⟩).neg.neg.neg) (T := ⟨X.m, X.n, a, 0, 0, 0⟩) X15 X20 em.symm en.symm) ?_
  rintro _ _ ⟨X21, rfl, rfl⟩
  refine W.cl [] (by kernel_rfl) (p_onumber x.u x.d x.v x.e t.c t.d h0.1 h0.2) ?_
  rintro _ _ ⟨X22, rfl, rfl⟩
  refine W.cl [] (by kernel_rfl) (p_xadd (S := (X.mul ⟨X.m, X.n, qm, 0, 0, 0⟩).neg) (T := ⟨X.m, X.n, c, 0, 0, 0⟩) X14 X22 rfl rfl) ?_
  rintro _ _ ⟨X23, rfl, rfl⟩
  exact W.r [] (.tuple #[plv X21 X23, .int .i64 0]) (by kernel_rfl) ⟨_, _, rfl, rfl⟩ (entPl (by omega) (by unfold On.farX On.farP; rw [hq]; rfl) (by unfold On.farY On.farP; rw [hq]; rfl))

set_option maxHeartbeats 4000000 in
theorem p_ofarG6f (g a c : Rat) {L1 : Nat} (t : Q5) (x y : Sw) {X Y : Sn} [Has (OF t) (L1, (⟨false, 6, g, a, 0, c, 0⟩ : On)) Γ] [Has (SF x) (L, X) Γ] [Has (SF y) (M, Y) Γ] (h0 : 0 ≤ X.m ∧ 0 ≤ X.n) (hmn : 2 < X.m ∨ 2 < X.n) (em : X.m = Y.m) (en : X.n = Y.n) (hL : L ≤ 40 ∧ M ≤ 40 ∧ L1 ≤ 100 := by omega) :
    PCalls tb Tryz.prog 52 [ttv false 6 t.g t.a t.b t.c t.d, plv x y] Γ (FarPost 2000 (On.farX (⟨false, 6, g, a, 0, c, 0⟩ : On) X Y) (On.farY (⟨false, 6, g, a, 0, c, 0⟩ : On) X Y)) := by
  refine PCalls.of_W tbOk Tryz.func52 rfl (by kernel_rfl) ?_
  refine W.of5 t rfl ?_
  refine W.sf x rfl ?_
  refine W.cl [] (by kernel_rfl) (p_olike x y em en) ?_
  rintro _ _ ⟨rfl, rfl⟩
  refine W.cl [24] (by kernel_rfl) (p_onarrowF x h0 hmn) ?_
  rintro _ _ ⟨rfl, rfl⟩
  refine W.rem [32] 6 2 0 (by kernel_rfl) (by decide) (by decide) ?_
  refine W.df [] 63 ((0 : Int) != 0) (by kernel_rfl) (by decide +kernel) ?_
  refine W.cl [63] (by kernel_rfl) (p_qsign t.b.n t.b.a t.b.m t.b.b) ?_
  rintro _ _ ⟨rfl, rfl⟩
  refine W.df [63] 70 ((0 : Rat).num.sign != 0) (by kernel_rfl) (by decide +kernel) ?_
  refine W.cl [70] (by kernel_rfl) (p_qsign t.d.n t.d.a t.d.m t.d.b) ?_
  rintro _ _ ⟨rfl, rfl⟩
  refine W.df [70] 76 ((0 : Rat).num.sign != 0) (by kernel_rfl) (by decide +kernel) ?_
  refine W.cl [76] (by kernel_rfl) (p_xfield x) ?_
  rintro _ _ ⟨rfl, rfl⟩
  refine W.cl [] (by kernel_rfl) (p_omag false 6 t.g t.a t.b t.c t.d (V := (⟨false, 6, g, a, 0, c, 0⟩ : On))) ?_
  rintro _ _ ⟨g7, rfl, rfl⟩
  generalize hq : On.mag (⟨false, 6, g, a, 0, c, 0⟩ : On) = qm
  refine W.bs [] 1 ([(⟨g7.n, g7.a, g7.m, g7.b, qm⟩ : QE)].flatMap QR.cells) tbOk (by kernel_rfl) (fun b8 => ?_)
  refine W.cl [] (by kernel_rfl) (p_xof1 x.u x.d x.v x.e b8 ⟨g7.n, g7.a, g7.m, g7.b⟩ h0.1 h0.2) ?_
  rintro _ _ ⟨X9, rfl, rfl⟩
  refine W.cl [] (by kernel_rfl) (p_xmul (S := X) (T := ⟨X.m, X.n, qm, 0, 0, 0⟩) x X9 rfl rfl) ?_
  rintro _ _ ⟨X10, rfl, rfl⟩
  refine W.cl [] (by kernel_rfl) (p_xmul (S := Y) (T := ⟨X.m, X.n, qm, 0, 0, 0⟩) y X9 em.symm en.symm) ?_
  rintro _ _ ⟨X11, rfl, rfl⟩
  refine W.quo [108] 6 2 3 (by kernel_rfl) (by decide) (by decide) ?_
  refine W.unr [] 6 (by kernel_rfl) ?_
  refine W.cl [115] (by kernel_rfl) (p_xneg X11) ?_
  rintro _ _ ⟨X12, rfl, rfl⟩
  refine W.cl [115] (by kernel_rfl) (p_xneg X10) ?_
  rintro _ _ ⟨X13, rfl, rfl⟩
  refine W.cl [115] (by kernel_rfl) (p_xneg X12) ?_
  rintro _ _ ⟨X14, rfl, rfl⟩
  refine W.cl [115] (by kernel_rfl) (p_onumber x.u x.d x.v x.e t.a t.b h0.1 h0.2) ?_
  rintro _ _ ⟨X20, rfl, rfl⟩
  refine W.cl [] (by kernel_rfl) (p_xadd (S := (Y.mul ⟨X.m, X.n, qm, 0, 0, 0⟩).neg.neg) (T := ⟨X.m, X.n, a, 0, 0, 0⟩) X14 X20 em.symm en.symm) ?_
  rintro _ _ ⟨X21, rfl, rfl⟩
  refine W.cl [] (by kernel_rfl) (p_onumber x.u x.d x.v x.e t.c t.d h0.1 h0.2) ?_
  rintro _ _ ⟨X22, rfl, rfl⟩
  refine W.cl [] (by kernel_rfl) (p_xadd (S := (X.mul ⟨X.m, X.n, qm, 0, 0, 0⟩).neg) (T := ⟨X.m, X.n, c, 0, 0, 0⟩) X13 X22 rfl rfl) ?_
  rintro _ _ ⟨X23, rfl, rfl⟩
  exact W.r [] (.tuple #[plv X21 X23, .int .i64 0]) (by kernel_rfl) ⟨_, _, rfl, rfl⟩ (entPl (by omega) (by unfold On.farX On.farP; rw [hq]; rfl) (by unfold On.farY On.farP; rw [hq]; rfl))

theorem p_ofarL (V : On) (t : Q5) (x y : Sw) {X Y : Sn} {L1 : Nat} [Has (OF t) (L1, V) Γ] [Has (SF x) (L, X) Γ] [Has (SF y) (M, Y) Γ] (hu : ¬ (X.m = Y.m ∧ X.n = Y.n)) (hL : L ≤ 1000 ∧ M ≤ 1000 := by omega) :
    PCalls tb Tryz.prog 52 [otv V t, plv x y] Γ (IsV (.tuple #[plv nilS nilS, .int .i64 6])) := by
  refine PCalls.of_W tbOk Tryz.func52 rfl (by kernel_rfl) ?_
  refine W.cl [] (by kernel_rfl) (p_olikeF x y hu) ?_
  rintro _ _ ⟨rfl, rfl⟩
  exact W.r [24] (.tuple #[plv nilS nilS, .int .i64 6]) (by kernel_rfl) ⟨rfl, rfl⟩ ent0
end
end Go.Proofs.YtabpaiboodllbaaGreat
