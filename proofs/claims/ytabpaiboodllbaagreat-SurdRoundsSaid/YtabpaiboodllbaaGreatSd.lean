
/- What surd's laws share: numbers out of texts; the chapter's examples. -/
import Derived.Test.YtabpaiboodllbaaGreatSc
set_option linter.unusedSimpArgs false
set_option linter.unusedVariables false
namespace Go.Proofs.YtabpaiboodllbaaGreat
open Go.RowKit Go.IntWalk

def pgood (s : ByteArray) : Bool := decide (s.size ≤ 25) && qerr s == 0
/-- May a number be made of this? -/
def madeOk (M N : Int) (ss : List ByteArray) : Bool := decide (ss.length ≤ 4) && (ss.all pgood && (decide (0 ≤ M) && decide (0 ≤ N)))
def pAt (ss : List ByteArray) (i : Nat) : Rat := match ss[i]? with
  | some s => qval s
  | none => 0
def snOf (M N : Int) (ss : List ByteArray) : Sn := ⟨M, N, pAt ss 0, pAt ss 1, pAt ss 2, pAt ss 3⟩
def Tw.set (Y : Tw) (i : Nat) (P : Pw) : Tw := match i with
  | 0 => ⟨Y.d, Y.u, Y.e, Y.v, P, Y.q, Y.r, Y.s⟩
  | 1 => ⟨Y.d, Y.u, Y.e, Y.v, Y.p, P, Y.r, Y.s⟩
  | 2 => ⟨Y.d, Y.u, Y.e, Y.v, Y.p, Y.q, P, Y.s⟩
  | _ => ⟨Y.d, Y.u, Y.e, Y.v, Y.p, Y.q, Y.r, P⟩
def Sn.set (S : Sn) (i : Nat) (x : Rat) : Sn := match i with
  | 0 => ⟨S.m, S.n, x, S.q, S.r, S.s⟩
  | 1 => ⟨S.m, S.n, S.p, x, S.r, S.s⟩
  | 2 => ⟨S.m, S.n, S.p, S.q, x, S.s⟩
  | _ => ⟨S.m, S.n, S.p, S.q, S.r, x⟩
theorem tf_set {Y : Tw} {P : Pw} {L K : Nat} {S : Sn} {x : Rat} {I : Blk} {w : World} (h : (TF Y (L, S)).p I w) (hp : (PG P (K, x)).p I w) (hK : K ≤ L) (i : Nat) : (TF (Y.set i P) (L, S.set i x)).p I w := by
  obtain ⟨g1, g2, g3, g4, g5, g6⟩ := h
  have hp := PF.up2 hp hK
  match i with
  | 0 => exact ⟨g1, g2, hp, g4, g5, g6⟩
  | 1 => exact ⟨g1, g2, g3, hp, g5, g6⟩
  | 2 => exact ⟨g1, g2, g3, g4, hp, g6⟩
  | _ + 3 => exact ⟨g1, g2, g3, g4, g5, hp⟩
theorem pAt_take {ss : List ByteArray} {i : Nat} (h : i < ss.length) (j : Nat) : pAt (ss.take (i + 1)) j = if j = i then qval (ss[i]'h) else pAt (ss.take i) j := by
  unfold pAt
  simp only [List.getElem?_take]
  by_cases hj : j = i
  · subst hj
    rw [if_pos rfl, if_pos (by omega), List.getElem?_eq_getElem h]
  · rw [if_neg hj]
    by_cases hlt : j < i
    · rw [if_pos (by omega), if_pos hlt]
    · rw [if_neg (by omega), if_neg hlt]
theorem snOf_take {M N : Int} {ss : List ByteArray} {i : Nat} (h : i < ss.length) (h4 : i < 4) : snOf M N (ss.take (i + 1)) = (snOf M N (ss.take i)).set i (qval (ss[i]'h)) := by
  unfold snOf
  simp only [pAt_take h]
  obtain rfl | rfl | rfl | rfl : i = 0 ∨ i = 1 ∨ i = 2 ∨ i = 3 := by omega
  · rfl
  · rfl
  · rfl
  · rfl
theorem rAt_pAt {l : List QE} {ss : List ByteArray} (h : l.map (·.q) = ss.map qval) (j : Nat) : rAt l j = pAt ss j := by
  have h := congrArg (fun l : List Rat => l[j]?) h
  simp only [List.getElem?_map] at h
  unfold rAt pAt
  cases h1 : l[j]? <;> cases h2 : ss[j]? <;> rw [h1, h2] at h <;> simp at h
  all_goals first | rfl | exact h

/-- A number that was made, as the program and as the document has it. -/
def MF (X : Sw) (Y : Tw) (a : Nat × Bool × Sn) : Fact where
  p I w := a.2.1 = true → (SF X (a.1, a.2.2)).p I w ∧ (TF Y (a.1, a.2.2)).p I w
  up := by
    rintro I I' w w' h h1 h2 h3 ha
    exact ⟨(SF X _).up (h ha).1 h1 h2 h3, (TF Y _).up (h ha).2 h1 h2 h3⟩
theorem wf64 {a : Int} (h : (Lit.int .i64 a).wf = true) : -9223372036854775808 ≤ a ∧ a < 9223372036854775808 := by
  have : -9223372036854775808 ≤ a ∧ a ≤ 9223372036854775807 := by simpa [Lit.wf, IntKind.min, IntKind.max, IntKind.signed, IntKind.bits] using h
  omega
structure MSt where
  i : Nat
  z : Int
  v : Value
  O : List (Nat × List Value)
  l : List QE
  Y : Tw

section
variable {fin : VS → List Fact → Prop} {Γ : List Fact} {L M K : Nat}
theorem W.mf {P : Program} {c : Cfg} (X : Sw) (Y : Tw) {ok : Bool} {S : Sn} [h : Has (MF X Y) (L, ok, S) Γ] (hm : midOps c.k = false) (hok : ok = true) (hk : W tb P fin c (SF X (L, S) :: TF Y (L, S) :: Γ)) : W tb P fin c Γ :=
  W.more (Δ := [SF X (L, S), TF Y (L, S)]) hm (fun I w _ hh => Holds.cons ((h.p hh) hok).1 (holds1 ((h.p hh) hok).2)) hk
theorem entMF0 {X : Sw} {Y : Tw} {L' : Nat} {ok : Bool} {S : Sn} (h : ok = false) : ∀ (I : Blk) (w : World), DataOK tb I w → Holds Γ I w → Holds [MF X Y (L', ok, S)] I w := fun I w _ _ => holds1 (fun ha => by simp only at ha; rw [h] at ha; simp at ha)

theorem s_zero (S : Int) (t : Sl) (R : Int) (r : Sl) {m n : Int} [Has (YF S t) (L, m) Γ] [Has (YF R r) (M, n) Γ] :
    PCalls tb Tryz.prog 60 [yv S t, yv R r] Γ (TPost (max (max L M) 6) ⟨m, n, 0, 0, 0, 0⟩) := by
  refine PCalls.of_W tbOk Tryz.func60 rfl (by kernel_rfl) ?_
  refine W.cl [] (by kernel_rfl) (s_of 0 (by omega) (by omega)) ?_
  rintro _ _ ⟨S1, s1, R1, t1, rfl, rfl⟩
  exact W.r [] (tv ⟨S, t, R, r, ⟨S1, s1, R1, t1⟩, ⟨S1, s1, R1, t1⟩, ⟨S1, s1, R1, t1⟩, ⟨S1, s1, R1, t1⟩⟩) (by kernel_rfl) ⟨_, rfl, rfl⟩ (entT rfl rfl rfl rfl rfl rfl (by omega))

theorem p_in (M N : Int) (ao : Option Addr) (n c : Nat) (M' N' : Int) (bo : Option Addr) (m d : Nat) :
    PCalls tb Tryz.prog 19 [.agg #[.int .i64 M, .int .i64 N, .slice ao n c], .agg #[.int .i64 M', .int .i64 N', .slice bo m d]] Γ (IsV (.agg #[.int .i64 M, .int .i64 N, .slice bo m d])) := by
  refine PCalls.of_W tbOk Tryz.func19 rfl (by kernel_rfl) ?_
  exact W.r [] (.agg #[.int .i64 M, .int .i64 N, .slice bo m d]) (by kernel_rfl) ⟨rfl, rfl⟩ ent0

set_option maxHeartbeats 8000000 in
theorem p_xmade (M N : Int) (hM : (Lit.int .i64 M).wf = true) (hN : (Lit.int .i64 N).wf = true) (ao : Option Addr) (n c : Nat) (ss : List ByteArray) [hra : Has (RA ao) (ss.map Value.string) Γ] (hn : n = ss.length) (hs : ∀ s ∈ ss, s.size ≤ 9223372036854775807) :
    PCalls tb Tryz.prog 11 [.agg #[.int .i64 M, .int .i64 N, .slice ao n c]] Γ (fun v Δ => ∃ X Y, v = .tuple #[sv X, tv Y, .bool (madeOk M N ss)] ∧ Δ = [MF X Y (30, madeOk M N ss, snOf M N ss)]) := by
  have w1 := wf64 hM
  have w2 := wf64 hN
  refine PCalls.of_W tbOk Tryz.func11 rfl (by kernel_rfl) ?_
  refine W.cl [] (by kernel_rfl) (p_yof M (by omega) (by omega)) ?_
  rintro _ _ ⟨S1, t1, rfl, rfl⟩
  refine W.cl [] (by kernel_rfl) (p_yof N (by omega) (by omega)) ?_
  rintro _ _ ⟨S2, t2, rfl, rfl⟩
  refine W.cl [] (by kernel_rfl) (s_zero S1 t1 S2 t2) ?_
  rintro _ _ ⟨Y3, rfl, rfl⟩
  refine W.lpo [] [4, 5, 7] (fun a : MSt => [(4, .bool false), (5, a.v), (7, .int .i64 a.z)]) (fun a => [(6, (tv a.Y).cells.toList)]) (fun a => a.O)
    (fun a => [TF a.Y (30, snOf M N (ss.take a.i)), OS QR (30, a.l), RA ao (ss.map Value.string)])
    (fun a => a.z = a.i ∧ a.i ≤ n ∧ a.i ≤ 4 ∧ a.l.length = a.i ∧ a.l.map (·.q) = (ss.take a.i).map qval ∧ (∀ s ∈ ss.take a.i, pgood s = true) ∧ Grow 4 a.O a.v a.i (a.l.flatMap QR.cells)) (fun a => 5 - a.i)
    ⟨0, 0, .slice none 0 0, [], [], Y3⟩ (by kernel_rfl) (by kernel_rfl) ⟨rfl, Nat.zero_le _, Nat.zero_le _, rfl, rfl, by simp, Grow.nil 4⟩ ?_ ?_
  · intro I w hd hh
    exact Holds.cons ((entT' (x := Y3) (L' := 30) (by omega) rfl) I w hd hh).h0' (Holds.cons (fun e he => by simp at he) (holds1 (Has.p (k := RA ao) (a := ss.map Value.string) inferInstance hh)))
  rintro ⟨i, z, v, O, l, Y⟩ R ⟨hz, hin, hi4, hli, hlq, hgood, hg⟩ close
  simp only at hz hin hi4 hli hlq hgood hg ⊢
  subst hz
  by_cases hgo : i < n
  · have hsi : i < ss.length := by omega
    have hcell : (ss.map Value.string)[i]? = some (.string (ss[i]'hsi)) := by rw [List.getElem?_map, List.getElem?_eq_getElem hsi]; rfl
    refine W.ra ao (xs := ss.map Value.string) (by kernel_rfl) (by intro e; rw [e] at hcell; simp at hcell) ?_
    rintro B off rfl
    have told : ∀ {Γ' : List Fact} [Has (RA (some ⟨B, off, none⟩)) (ss.map Value.string) Γ'], ∀ I w, DataOK tb I w → Holds Γ' I w → w.cell? ⟨B, off + i * 1, none⟩ = some (.string (ss[i]'hsi)) := fun {Γ'} _ I w _ hh => by
      have := RA.cell (Has.p (k := RA (some ⟨B, off, none⟩)) (a := ss.map Value.string) (Γ := Γ') inferInstance hh) hcell
      rw [Nat.mul_one]
      exact this
    refine W.dt [] 25 (decide ((i : Int) < (n : Nat))) (by kernel_rfl) (by rw [decide_eq_true_iff]; omega) ?_
    by_cases h4 : i = 4
    · refine W.dt [25] 30 (decide ((i : Int) > 3)) (by kernel_rfl) (by rw [decide_eq_true_iff]; omega) ?_
      exact W.r [38, 30] (.tuple #[sv nilS, tv Y, .bool false]) (by kernel_rfl) ⟨nilS, Y, by rw [show madeOk M N ss = false by unfold madeOk; rw [decide_eq_false (by omega)]; rfl], rfl⟩ (entMF0 (by unfold madeOk; rw [decide_eq_false (by omega)]; rfl))
    refine W.df [25] 30 (decide ((i : Int) > 3)) (by kernel_rfl) (by rw [decide_eq_false_iff_not]; omega) ?_
    have bad : pgood (ss[i]'hsi) = false → madeOk M N ss = false := fun h => by
      unfold madeOk
      have : ss.all pgood = false := by
        rw [List.all_eq_false]
        exact ⟨_, List.getElem_mem hsi, by rw [h]; simp⟩
      rw [this]
      simp
    refine W.ia [30] 1 B off n c .i64 i (i : Int) rfl tbOk (by kernel_rfl) hgo ?_
    refine W.ld [30] 1 B (off + i * 1) (.string (ss[i]'hsi)) tbOk (by kernel_rfl) told ?_
    by_cases h25 : 25 < (ss[i]'hsi).size
    · have hf := bad (by unfold pgood; rw [decide_eq_false (by omega)]; rfl)
      refine W.dt [30] 38 (decide (((ss[i]'hsi).size : Int) > 25)) (by kernel_rfl) (by rw [decide_eq_true_iff]; omega) ?_
      exact W.r [38] (.tuple #[sv nilS, tv Y, .bool false]) (by kernel_rfl) ⟨nilS, Y, by rw [hf], rfl⟩ (entMF0 hf)
    refine W.df [30] 38 (decide (((ss[i]'hsi).size : Int) > 25)) (by kernel_rfl) (by rw [decide_eq_false_iff_not]; omega) ?_
    refine W.ia [38] 1 B off n c .i64 i (i : Int) rfl tbOk (by kernel_rfl) hgo ?_
    refine W.ld [] 1 B (off + i * 1) (.string (ss[i]'hsi)) tbOk (by kernel_rfl) told ?_
    refine W.cl [] (by kernel_rfl) (p_qparse (ss[i]'hsi) (by omega)) ?_
    rintro _ _ ⟨n9, a9, m9, b9, rfl, rfl⟩
    refine W.ia [] 1 B off n c .i64 i (i : Int) rfl tbOk (by kernel_rfl) hgo ?_
    refine W.ld [] 1 B (off + i * 1) (.string (ss[i]'hsi)) tbOk (by kernel_rfl) told ?_
    refine W.cl [] (by kernel_rfl) (s_parse (ss[i]'hsi) (by omega)) ?_
    rintro _ _ ⟨S12, s12, R12, t12, rfl, rfl⟩
    by_cases he : qerr (ss[i]'hsi) = 0
    · have hgd : pgood (ss[i]'hsi) = true := by unfold pgood; rw [decide_eq_true (by omega), he]; rfl
      have hgood' : ∀ s ∈ ss.take (i + 1), pgood s = true := fun s hs => by
        rw [List.take_succ_eq_append_getElem hsi] at hs
        rcases List.mem_append.1 hs with hs | hs
        · exact hgood s hs
        · rw [List.mem_singleton.1 hs]; exact hgd
      have hlq' : (l ++ [(⟨n9, a9, m9, b9, qval (ss[i]'hsi)⟩ : QE)]).map (·.q) = (ss.take (i + 1)).map qval := by
        rw [List.take_succ_eq_append_getElem hsi, List.map_append, List.map_append, hlq]
        rfl
      have hsn := snOf_take (M := M) (N := N) hsi (by omega)
      rw [he]
      refine W.df [] 61 ((0 : Int) != 0) (by kernel_rfl) rfl ?_
      refine W.df [61] 64 ((0 : Int) != 0) (by kernel_rfl) rfl ?_
      refine W.bs [64] 1 (QR.cells ⟨n9, a9, m9, b9, qval (ss[i]'hsi)⟩) tbOk (by kernel_rfl) (fun B5 => ?_)
      refine W.app [] O [] O [] 4 64 i 1 v (.slice (some ⟨B5, 0, none⟩) 1 1) (l.flatMap QR.cells) (QR.cells ⟨n9, a9, m9, b9, qval (ss[i]'hsi)⟩) tbOk (by kernel_rfl) (by simp) hg (reads_row B5 _ 1 4 rfl 1) (by simp [QR, Value.oneCell']) (by omega) (by omega) (fun v' O' hg' => ?_)
      generalize qval (ss[i]'hsi) = qx at *
      generalize hSx : snOf M N (ss.take i) = Sx at *
      have hfacts : ∀ I w, DataOK tb I w → Holds (RowF B5 (QR.cells ⟨n9, a9, m9, b9, qx⟩) :: ([PF S12 s12 R12 t12 (max 6 (min (ss[i]'hsi).size 4096), qx)] ++ ([QF n9 a9 m9 b9 (max 2 (min (ss[i]'hsi).size 4096), qx)] ++ [TF Y (30, Sx), OS QR (30, l), RA (some ⟨B, off, none⟩) (ss.map Value.string)]))) I w →
          Holds [TF (Y.set i ⟨S12, s12, R12, t12⟩) (30, snOf M N (ss.take (i + 1))), OS QR (30, l ++ [⟨n9, a9, m9, b9, qx⟩]), RA (some ⟨B, off, none⟩) (ss.map Value.string)] I w := fun I w hd hh => by
        have f1 := Has.p (k := TF Y) (a := (30, Sx)) inferInstance hh
        have f2 := Has.p (k := PF S12 s12 R12 t12) (a := (max 6 (min (ss[i]'hsi).size 4096), qx)) inferInstance hh
        have f3 := Has.p (k := QF n9 a9 m9 b9) (a := (max 2 (min (ss[i]'hsi).size 4096), qx)) inferInstance hh
        refine Holds.cons ?_ (Holds.cons (fun e he => ?_) (holds1 (Has.p (k := RA (some ⟨B, off, none⟩)) (a := ss.map Value.string) inferInstance hh)))
        · rw [hsn]
          exact tf_set f1 f2 (by omega) i
        · rcases List.mem_append.1 he with he | he
          · exact (Has.p (k := OS QR) (a := (30, l)) inferInstance hh) e he
          · rw [List.mem_singleton.1 he]
            exact QF.up2 f3 (by omega)
      have hgr : Grow 4 O' v' (i + 1) ((l ++ [(⟨n9, a9, m9, b9, qx⟩ : QE)]).flatMap QR.cells) := by
        simp only [List.flatMap_append, List.flatMap_cons, List.flatMap_nil, List.append_nil]
        exact hg'
      have hll : (l ++ [(⟨n9, a9, m9, b9, qx⟩ : QE)]).length = i + 1 := by rw [List.length_append, hli]; rfl
      obtain rfl | rfl | rfl | rfl : i = 0 ∨ i = 1 ∨ i = 2 ∨ i = 3 := by omega
      · refine close [] _ _ ⟨0 + 1, ((0 + 1 : Nat) : Int), v', O', l ++ [⟨n9, a9, m9, b9, qx⟩], Y.set 0 ⟨S12, s12, R12, t12⟩⟩ (by kernel_rfl) ?_ ⟨rfl, hgo, by simp only; omega, hll, hlq', hgood', hgr⟩ (by simp only; omega) hfacts
        simp only [List.nil_append, List.append_nil]
        kernel_rfl
      · refine close [] _ _ ⟨1 + 1, ((1 + 1 : Nat) : Int), v', O', l ++ [⟨n9, a9, m9, b9, qx⟩], Y.set 1 ⟨S12, s12, R12, t12⟩⟩ (by kernel_rfl) ?_ ⟨rfl, hgo, by simp only; omega, hll, hlq', hgood', hgr⟩ (by simp only; omega) hfacts
        simp only [List.nil_append, List.append_nil]
        kernel_rfl
      · refine close [] _ _ ⟨2 + 1, ((2 + 1 : Nat) : Int), v', O', l ++ [⟨n9, a9, m9, b9, qx⟩], Y.set 2 ⟨S12, s12, R12, t12⟩⟩ (by kernel_rfl) ?_ ⟨rfl, hgo, by simp only; omega, hll, hlq', hgood', hgr⟩ (by simp only; omega) hfacts
        simp only [List.nil_append, List.append_nil]
        kernel_rfl
      · refine close [] _ _ ⟨3 + 1, ((3 + 1 : Nat) : Int), v', O', l ++ [⟨n9, a9, m9, b9, qx⟩], Y.set 3 ⟨S12, s12, R12, t12⟩⟩ (by kernel_rfl) ?_ ⟨rfl, hgo, by simp only; omega, hll, hlq', hgood', hgr⟩ (by simp only; omega) hfacts
        simp only [List.nil_append, List.append_nil]
        kernel_rfl
    · have hf := bad (by unfold pgood; rw [beq_eq_false_iff_ne.2 he, Bool.and_false])
      refine W.dt [] 61 ((qerr (ss[i]'hsi)) != 0) (by kernel_rfl) (by simpa using he) ?_
      exact W.r [64, 61] (.tuple #[sv nilS, tv Y, .bool false]) (by kernel_rfl) ⟨nilS, Y, by rw [hf], rfl⟩ (entMF0 hf)
  · obtain rfl : i = n := by omega
    refine W.pubg rfl hg rfl (fun vo vc hv => ?_)
    subst hv
    have hts : ss.take i = ss := List.take_of_length_le (by omega)
    rw [hts] at hlq hgood
    have hall : ss.all pgood = true := List.all_eq_true.2 hgood
    have hok : madeOk M N ss = (decide (0 ≤ M) && decide (0 ≤ N)) := by unfold madeOk; rw [hall, decide_eq_true (by omega)]; simp
    refine W.df [] 25 (decide (((i : Nat) : Int) < (i : Nat))) (by kernel_rfl) (by rw [decide_eq_false_iff_not]; omega) ?_
    refine W.cl [25] (by kernel_rfl) (p_zof M (by omega) (by omega)) ?_
    rintro _ _ ⟨u5, d5, rfl, rfl⟩
    refine W.cl [] (by kernel_rfl) (p_zof N (by omega) (by omega)) ?_
    rintro _ _ ⟨u6, d6, rfl, rfl⟩
    by_cases hmn : 0 ≤ M ∧ 0 ≤ N
    · refine W.cl [] (by kernel_rfl) ((p_xof (Γ := OL QR vo (30, l) :: _) u5 d5 u6 d6 vo i vc hli.symm hi4 hmn.1 hmn.2).weak (fun I w hd h => Holds.cons ⟨Has.p (k := OS QR) (a := (30, l)) inferInstance h, Has.p (k := RA vo) (a := l.flatMap QR.cells) inferInstance h⟩ h) (fun _ _ h => h)) ?_
      rintro _ _ ⟨X7, rfl, rfl⟩
      refine W.dt [90] 95 (decide (M ≥ 0)) (by kernel_rfl) (by rw [decide_eq_true_iff]; omega) ?_
      refine W.r [95] (.tuple #[sv X7, tv Y, .bool (decide (N ≥ 0))]) (by kernel_rfl) ⟨X7, Y, by rw [hok, decide_eq_true hmn.1]; rfl, rfl⟩ (fun I w hd hh => holds1 (fun _ => ?_))
      have f1 := Has.p (k := SF X7) (a := (max (max 2 2) 30, ⟨M, N, rAt l 0, rAt l 1, rAt l 2, rAt l 3⟩)) inferInstance hh
      have f2 := Has.p (k := TF Y) (a := (30, snOf M N (ss.take i))) inferInstance hh
      rw [hts] at f2
      rw [rAt_pAt hlq, rAt_pAt hlq, rAt_pAt hlq, rAt_pAt hlq] at f1
      exact ⟨f1, f2⟩
    · refine W.cl [] (by kernel_rfl) (p_xofE u5 d5 u6 d6 vo i vc (by omega)) ?_
      rintro _ _ ⟨rfl, rfl⟩
      have hf : madeOk M N ss = false := by
        rw [hok]
        by_cases h1 : 0 ≤ M
        · rw [decide_eq_true h1, decide_eq_false (by omega)]; rfl
        · rw [decide_eq_false h1]; rfl
      exact W.r [95, 90] (.tuple #[sv nilS, tv Y, .bool false]) (by kernel_rfl) ⟨nilS, Y, by rw [hf], rfl⟩ (entMF0 hf)
theorem PCalls.entH {f : FuncId} {args : List Value} {Γ : List Fact} {post post' : Value → List Fact → Prop} (h : PCalls tb Tryz.prog f args Γ post) (hp : ∀ v Δ, post v Δ → ∃ Δ', post' v Δ' ∧ ∀ I w, Holds Δ I w → Holds Δ' I w) : PCalls tb Tryz.prog f args Γ post' :=
  ⟨h.1, fun I w hd hh => (h.2 I w hd hh).mono fun _ _ ⟨v, Δ, h1, h2, h3, h4⟩ => by
    obtain ⟨Δ', g1, g2⟩ := hp v Δ h2
    exact ⟨v, Δ', h1, g1, h3, g2 _ _ h4⟩⟩
/-- A number that is made of what is known. -/
theorem p_madeK (M N : Int) (hM : (Lit.int .i64 M).wf = true) (hN : (Lit.int .i64 N).wf = true) (b n : Nat) (ss : List ByteArray) (S : Sn) [hr : Has (RowF b) (ss.map Value.string) Γ] (hn : n = ss.length) (hs : ∀ s ∈ ss, s.size ≤ 9223372036854775807)
    (hok : madeOk M N ss = true) (hS : M = S.m ∧ N = S.n ∧ pAt ss 0 = S.p ∧ pAt ss 1 = S.q ∧ pAt ss 2 = S.r ∧ pAt ss 3 = S.s) :
    PCalls tb Tryz.prog 11 [.agg #[.int .i64 M, .int .i64 N, .slice (some ⟨b, 0, none⟩) n n]] Γ (fun v Δ => ∃ X Y, v = .tuple #[sv X, tv Y, .bool true] ∧ Δ = [SF X (30, S), TF Y (30, S)]) := by
  have hS' : snOf M N ss = S := Sn.ext' hS.1 hS.2.1 hS.2.2.1 hS.2.2.2.1 hS.2.2.2.2.1 hS.2.2.2.2.2
  refine PCalls.entH ((p_xmade (Γ := RA (some ⟨b, 0, none⟩) (ss.map Value.string) :: Γ) M N hM hN (some ⟨b, 0, none⟩) n n ss hn hs).weak (fun I w _ hh => Holds.cons (RA.of_row (hr.p hh) (fun _ _ h => h)) hh) (fun _ _ h => h)) ?_
  rintro v Δ ⟨X, Y, rfl, rfl⟩
  rw [hok, hS']
  exact ⟨_, ⟨X, Y, rfl, rfl⟩, fun I w hh => Holds.cons (hh.h0' rfl).1 (holds1 (hh.h0' rfl).2)⟩
theorem entSp {x : Sw} {S : Sn} [h : Has (SF x) (L, S) Γ] : ∀ (I : Blk) (w : World), DataOK tb I w → Holds Γ I w → Holds [QG x.p (L, S.p)] I w := fun I w _ hh => holds1 (h.p hh).2.2.1

set_option maxHeartbeats 4000000 in
theorem p_xknown : PCalls tb Tryz.prog 12 [] Γ (IsV (.bool true)) := by
  refine PCalls.of_W tbOk Tryz.func12 rfl (by kernel_rfl) ?_
  refine W.bs [] 2 (List.map Value.string [(⟨#[49]⟩ : ByteArray), (⟨#[49]⟩ : ByteArray)]) tbOk (by kernel_rfl) (fun b1 => ?_)
  refine W.cl [] (by kernel_rfl) (p_madeK 2 3 (by decide) (by decide) b1 2 [(⟨#[49]⟩ : ByteArray), (⟨#[49]⟩ : ByteArray)] ⟨2, 3, 1, 1, 0, 0⟩ rfl (by decide) (by decide +kernel) (by decide +kernel)) ?_
  rintro _ _ ⟨X1, Y1, rfl, rfl⟩
  refine W.bs [] 2 (List.map Value.string [(⟨#[49]⟩ : ByteArray), (⟨#[45, 49]⟩ : ByteArray)]) tbOk (by kernel_rfl) (fun b2 => ?_)
  refine W.cl [] (by kernel_rfl) (p_madeK 2 3 (by decide) (by decide) b2 2 [(⟨#[49]⟩ : ByteArray), (⟨#[45, 49]⟩ : ByteArray)] ⟨2, 3, 1, -1, 0, 0⟩ rfl (by decide) (by decide +kernel) (by decide +kernel)) ?_
  rintro _ _ ⟨X2, Y2, rfl, rfl⟩
  refine W.cl [] (by kernel_rfl) (p_xmul X1 X2 (by rfl) (by rfl)) ?_
  rintro _ _ ⟨XM, rfl, rfl⟩
  refine W.bs [] 3 (List.map Value.string [(⟨#[45, 50, 50, 47, 55]⟩ : ByteArray), (⟨#[49]⟩ : ByteArray), (⟨#[49]⟩ : ByteArray)]) tbOk (by kernel_rfl) (fun b3 => ?_)
  refine W.cl [] (by kernel_rfl) (p_madeK 2 3 (by decide) (by decide) b3 3 [(⟨#[45, 50, 50, 47, 55]⟩ : ByteArray), (⟨#[49]⟩ : ByteArray), (⟨#[49]⟩ : ByteArray)] ⟨2, 3, Rat.divInt (-22) 7, 1, 1, 0⟩ rfl (by decide) (by decide +kernel) (by decide +kernel)) ?_
  rintro _ _ ⟨X3, Y3, rfl, rfl⟩
  refine W.bs [] 2 (List.map Value.string [(⟨#[50]⟩ : ByteArray), (⟨#[45, 49]⟩ : ByteArray)]) tbOk (by kernel_rfl) (fun b4 => ?_)
  refine W.cl [] (by kernel_rfl) (p_madeK 4 0 (by decide) (by decide) b4 2 [(⟨#[50]⟩ : ByteArray), (⟨#[45, 49]⟩ : ByteArray)] ⟨4, 0, 2, -1, 0, 0⟩ rfl (by decide) (by decide +kernel) (by decide +kernel)) ?_
  rintro _ _ ⟨X4, Y4, rfl, rfl⟩
  refine W.bs [] 4 (List.map Value.string [(⟨#[48]⟩ : ByteArray), (⟨#[48]⟩ : ByteArray), (⟨#[48]⟩ : ByteArray), (⟨#[49]⟩ : ByteArray)]) tbOk (by kernel_rfl) (fun b5 => ?_)
  refine W.cl [] (by kernel_rfl) (p_madeK 2 3 (by decide) (by decide) b5 4 [(⟨#[48]⟩ : ByteArray), (⟨#[48]⟩ : ByteArray), (⟨#[48]⟩ : ByteArray), (⟨#[49]⟩ : ByteArray)] ⟨2, 3, 0, 0, 0, 1⟩ rfl (by decide) (by decide +kernel) (by decide +kernel)) ?_
  rintro _ _ ⟨X5, Y5, rfl, rfl⟩
  refine W.bs [] 1 (List.map Value.string [(⟨#[53, 47, 50]⟩ : ByteArray)]) tbOk (by kernel_rfl) (fun b6 => ?_)
  refine W.cl [] (by kernel_rfl) (p_madeK 5 7 (by decide) (by decide) b6 1 [(⟨#[53, 47, 50]⟩ : ByteArray)] ⟨5, 7, Rat.divInt 5 2, 0, 0, 0⟩ rfl (by decide) (by decide +kernel) (by decide +kernel)) ?_
  rintro _ _ ⟨X6, Y6, rfl, rfl⟩
  refine W.cl [77, 73, 70] (by kernel_rfl) (p_xparts XM) ?_
  rintro _ _ ⟨rfl, rfl⟩
  refine W.cx [77] (by kernel_rfl) (entSp (x := XM)) (p_qtext XM.p.n XM.p.a XM.p.m XM.p.b) ?_
  rintro _ _ ⟨rfl, rfl⟩
  refine W.dt [77] 84 ((qtxt (((⟨2, 3, 1, 1, 0, 0⟩ : Sn).mul ⟨2, 3, 1, -1, 0, 0⟩)).p).toList == (⟨#[45, 49]⟩ : ByteArray).toList) (by kernel_rfl) (by decide +kernel) ?_
  refine W.cl [84] (by kernel_rfl) (p_xsign XM) ?_
  rintro _ _ ⟨rfl, rfl⟩
  refine W.dt [84] 89 ((((⟨2, 3, 1, 1, 0, 0⟩ : Sn).mul ⟨2, 3, 1, -1, 0, 0⟩)).sg == -1) (by kernel_rfl) (by decide +kernel) ?_
  refine W.cl [89] (by kernel_rfl) (p_xsign X3) ?_
  rintro _ _ ⟨rfl, rfl⟩
  refine W.dt [89] 94 (Sn.sg ⟨2, 3, Rat.divInt (-22) 7, 1, 1, 0⟩ == 1) (by kernel_rfl) (by decide +kernel) ?_
  refine W.cl [94] (by kernel_rfl) (p_xsign X4) ?_
  rintro _ _ ⟨rfl, rfl⟩
  refine W.dt [94] 99 (Sn.sg ⟨4, 0, 2, -1, 0, 0⟩ == 0) (by kernel_rfl) (by decide +kernel) ?_
  refine W.cl [99] (by kernel_rfl) (p_xfloor X5 (by decide +kernel)) ?_
  rintro _ _ ⟨u19, d19, rfl, rfl⟩
  refine W.cl [99] (by kernel_rfl) (p_ztext u19 d19) ?_
  rintro _ _ ⟨rfl, rfl⟩
  refine W.dt [99] 105 ((ztxt (Sn.low ⟨2, 3, 0, 0, 0, 1⟩)).toList == (⟨#[50]⟩ : ByteArray).toList) (by kernel_rfl) (by decide +kernel) ?_
  refine W.cl [105] (by kernel_rfl) (p_xnear X6 (by decide +kernel)) ?_
  rintro _ _ ⟨u21, d21, rfl, rfl⟩
  refine W.cl [105] (by kernel_rfl) (p_ztext u21 d21) ?_
  rintro _ _ ⟨rfl, rfl⟩
  refine W.r [105] (.bool ((ztxt (Sn.near ⟨5, 7, Rat.divInt 5 2, 0, 0, 0⟩)).toList == (⟨#[50]⟩ : ByteArray).toList)) (by kernel_rfl) ⟨?_, rfl⟩ ent0
  rw [show ((ztxt (Sn.near ⟨5, 7, Rat.divInt 5 2, 0, 0, 0⟩)).toList == (⟨#[50]⟩ : ByteArray).toList) = true from by decide +kernel]
end
end Go.Proofs.YtabpaiboodllbaaGreat
