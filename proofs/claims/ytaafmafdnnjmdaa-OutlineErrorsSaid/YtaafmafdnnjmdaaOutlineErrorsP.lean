
/- Paths of too many points, or far ones, are refused by the document's error. -/
import Derived.Test.YtaafmafdnnjmdaaRows
import Derived.Test.YtaafmafdnnjmdaaQc
import Derived.Test.YtaafmafdnnjmdaaQd
import Derived.Test.YtaafmafdnnjmdaaOm
import Derived.Test.YtaafmafdnnjmdaaLawZ
import Derived.Test.YtaafmafdnnjmdaaVs
import Derived.Test.YtaafmafdnnjmdaaJn
set_option linter.unusedSimpArgs false
set_option linter.unusedVariables false
namespace Go.Proofs.Ytaafmafdnnjmdaa
open Go.RowKit Go.IntWalk
/-- The row of the statement's points, so many of which are written. -/
def zp (j : Nat) : Dp := ⟨((j % 2 : Nat) : Int), (j : Int)⟩
def erow (N i : Nat) : List Value := ((List.range i).map zp).flatMap dpc ++ (List.replicate (N - i) (⟨0, 0⟩ : Dp)).flatMap dpc
theorem made_pts (n : Nat) : (madeCells [Value.int .i64 0, Value.int .i64 0].toArray n).toList = List.replicate n (.int .i64 0) := by
  refine List.ext_getElem (by simp [madeCells]) fun i h1 h2 => ?_
  simp only [madeCells, Array.toList_map, List.getElem_map, List.getElem_replicate]
  simp at h1
  have : i % 2 = 0 ∨ i % 2 = 1 := by omega
  rcases this with h | h <;> simp [h]
theorem rep_pts : ∀ n : Nat, (List.replicate n (⟨0, 0⟩ : Dp)).flatMap dpc = List.replicate (n * 2) (.int .i64 0)
  | 0 => rfl
  | n + 1 => by
    rw [List.replicate_succ, List.flatMap_cons, rep_pts n, show (n + 1) * 2 = n * 2 + 1 + 1 by omega, List.replicate_succ, List.replicate_succ]
    rfl
theorem erow_zero (N : Nat) : (madeCells [Value.int .i64 0, Value.int .i64 0].toArray (N * 2)).toList = erow N 0 := by
  rw [made_pts]
  simp only [erow, List.range_zero, List.map_nil, List.flatMap_nil, List.nil_append, Nat.sub_zero, rep_pts]
theorem zps_len (i : Nat) : (((List.range i).map zp).flatMap dpc).length = i * 2 := by
  rw [dp_len, List.length_map, List.length_range]
theorem erow_len {N i : Nat} (h : i ≤ N) : (erow N i).length = N * 2 := by
  unfold erow
  rw [List.length_append, zps_len, dp_len, List.length_replicate]
  omega
theorem erow_step {N i : Nat} (h : i < N) (a b : Int) (ha : a = ((i % 2 : Nat) : Int)) (hb : b = i) : (erow N i).take (0 + i * 2) ++ [.int .i64 a, .int .i64 b] ++ (erow N i).drop (0 + i * 2 + 2) = erow N (i + 1) := by
  subst ha hb
  have e1 : (erow N i).take (0 + i * 2) = ((List.range i).map zp).flatMap dpc := by
    unfold erow
    rw [List.take_append_of_le_length (by rw [zps_len]; omega), List.take_of_length_le (by rw [zps_len]; omega)]
  have e2 : (erow N i).drop (0 + i * 2 + 2) = (List.replicate (N - (i + 1)) (⟨0, 0⟩ : Dp)).flatMap dpc := by
    unfold erow
    have hl := zps_len i
    rw [show N - i = N - (i + 1) + 1 by omega, List.replicate_succ, List.flatMap_cons, show 0 + i * 2 + 2 = (((List.range i).map zp).flatMap dpc).length + 2 by omega, ← List.drop_drop, List.drop_left]
    rfl
  rw [e1, e2]
  unfold erow
  rw [List.range_succ, List.map_append, List.flatMap_append, List.append_assoc, List.append_assoc]
  rfl
theorem erow_last {N : Nat} (h : 0 < N) (x : Int) : (erow N N).take (0 + (N - 1) * 2 + 0) ++ [.int .i64 x] ++ (erow N N).drop (0 + (N - 1) * 2 + 0 + 1) = (zzs N x).flatMap dpc := by
  obtain ⟨M, rfl⟩ : ∃ M, N = M + 1 := ⟨N - 1, by omega⟩
  have hz : zzs (M + 1) x = (List.range M).map zp ++ [⟨x, (M : Int)⟩] := by
    unfold zzs
    rw [List.range_succ, List.map_append]
    congr 1
    · refine List.map_congr_left fun i hi => ?_
      have := List.mem_range.1 hi
      unfold zz zp
      rw [if_neg (by omega)]
    · simp only [List.map_cons, List.map_nil, zz]
      rw [if_pos (by omega)]
  have he : erow (M + 1) (M + 1) = ((List.range M).map zp).flatMap dpc ++ dpc (zp M) := by
    unfold erow
    rw [Nat.sub_self, List.replicate_zero, List.flatMap_nil, List.append_nil, List.range_succ, List.map_append, List.flatMap_append]
    rfl
  rw [hz, he, List.flatMap_append, Nat.add_sub_cancel]
  have hl := zps_len M
  rw [List.take_append_of_le_length (by omega), List.take_of_length_le (by omega), show 0 + M * 2 + 0 + 1 = (((List.range M).map zp).flatMap dpc).length + 1 by omega, ← List.drop_drop, List.drop_left, List.append_assoc]
  rfl
theorem erow_nil (x : Int) : erow 0 0 = (zzs 0 x).flatMap dpc := rfl
theorem one_dv (a b : Int) : ∀ v ∈ (Value.agg #[.int .i64 a, .int .i64 b]).cells.toList, v.oneCell' = true := by
  intro v hv
  simp [Value.cells] at hv
  rcases hv with rfl | rfl <;> rfl
theorem entRAsub {Γ : List Fact} {b off : Nat} {pts : List Dp} (k : Nat) [h : Has (RA (some ⟨b, off, none⟩)) (pts.flatMap dpc) Γ] : ∀ I w, DataOK tb I w → Holds Γ I w → Holds [RA (some ⟨b, off + k * 2, none⟩) ((pts.drop k).flatMap dpc)] I w := fun I w _ hh => by
  refine Holds.cons (fun hne => ?_) (Holds.nil _ _)
  have hs : pts.flatMap dpc = (pts.take k).flatMap dpc ++ (pts.drop k).flatMap dpc := by rw [← List.flatMap_append, List.take_append_drop]
  have hlk : (pts.take k).length = k ∨ pts.drop k = [] := by
    by_cases hk : k ≤ pts.length
    · exact .inl (by rw [List.length_take]; omega)
    · exact .inr (List.drop_eq_nil_of_le (by omega))
  rcases hlk with hlk | hlk
  · obtain ⟨b', off', ha, hI, hr⟩ := h.p hh (by rw [hs]; intro e; exact hne (List.append_eq_nil_iff.1 e).2)
    injection ha with ha
    injection ha with e1 e2 _
    subst e1 e2
    refine ⟨b, off + k * 2, rfl, hI, fun i v hv => ?_⟩
    have := hr (k * 2 + i) v (by rw [hs, List.getElem?_append_right (by rw [dp_len, hlk]; omega), dp_len, hlk, show k * 2 + i - k * 2 = i by omega]; exact hv)
    rw [← Nat.add_assoc] at this
    exact this
  · rw [hlk] at hne
    exact absurd rfl hne
section
variable {T : Tb} {P : Program} {fin : VS → List Fact → Prop} {c : Cfg} {Γ : List Fact}
theorem W.mksz (D : List Nat) (own : List (Nat × List Value)) (z bytes n : Nat) (zs : List Value) (row : List Value) (kl kc : IntKind) (y : Int) (hy : y = n) (hT : T.Ok P)
    (h : readMks T (vstep T (Go.Proofs.Ytaafmafdnnjmdaa.runs T D 999 c)) = some (own, z, bytes, zs, .int kl y, .int kc y)) (hrow : (madeCells zs.toArray (n * z)).toList = row)
    (hn : n ≤ 1000000) (hb : bytes ≤ 100000000)
    (hk : ∀ g, W T P fin (resumeO (vstep T (Go.Proofs.Ytaafmafdnnjmdaa.runs T D 999 c)) ((g, row) :: own) (.slice (some ⟨g, 0, none⟩) n n)) Γ) : W T P fin c Γ := by
  subst hy
  exact W.mks D own z bytes n zs row kl kc hT h hrow hn hb hk
end
structure ESt where
  i : Nat
  z : Int
set_option maxHeartbeats 4000000 in
theorem p_outlineErrors (n0 : Int) (w0 : (Lit.int .i64 n0).wf = true) (width : Int) (w1 : (Lit.int .i64 width).wf = true) (kind : Int) (w2 : (Lit.int .i64 kind).wf = true) (bg : Int) (w3 : (Lit.int .i64 bg).wf = true) (en : Int) (w4 : (Lit.int .i64 en).wf = true) (x : Int) (w5 : (Lit.int .i64 x).wf = true) :
    PCalls tb Try.prog 3 [.int .i64 n0, .int .i64 width, .int .i64 kind, .int .i64 bg, .int .i64 en, .int .i64 x] [] (IsV (.bool true)) := by
  obtain ⟨z1, hz1⟩ : ∃ z1, (IntKind.u64.wrap n0).tmod 9000 = z1 := ⟨_, rfl⟩
  have hu : 0 ≤ IntKind.u64.wrap n0 := by rw [IntKind.wrap_u64]; omega
  have hb1 : 0 ≤ z1 ∧ z1 < 9000 := by
    have := Int.tmod_lt_of_pos (IntKind.u64.wrap n0) (show (0 : Int) < 9000 by decide)
    have := Int.tmod_nonneg 9000 hu
    omega
  obtain ⟨N, hN⟩ : ∃ N : Nat, z1 = N := ⟨z1.toNat, by omega⟩
  have hwz : IntKind.i64.wrap z1 = (N : Int) := by rw [IntKind.wrap_i64]; omega
  refine PCalls.of_W tbOk Try.func3 rfl (by kernel_rfl) ?_
  refine W.remk [] .u64 (IntKind.u64.wrap n0) 9000 z1 (by kernel_rfl) (by decide) hz1 ?_
  refine W.mksz [] [] 2 16 N [.int .i64 0, .int .i64 0] (erow N 0) .i64 .i64 (IntKind.i64.wrap z1) hwz tbOk (by kernel_rfl) (erow_zero N) (by omega) (by decide) (fun g => ?_)
  refine W.lpo [] [14] (fun a : ESt => [(14, .int .i64 a.z)]) (fun _ => []) (fun a => [(g, erow N a.i)]) (fun _ => []) (fun a => a.z = a.i ∧ a.i ≤ N) (fun a => N - a.i) ⟨0, 0⟩ (by kernel_rfl) (by kernel_rfl) ⟨rfl, Nat.zero_le _⟩ ent0 ?_
  rintro ⟨i, z⟩ K ⟨hz, hi⟩ close
  simp only at hz hi
  by_cases hlt : i < N
  · have hm2 : z.tmod 2 = ((i % 2 : Nat) : Int) := by rw [hz]; rfl
    refine W.dt [] 26 (decide (z < IntKind.i64.wrap z1)) (by kernel_rfl) (decide_eq_true (by omega)) ?_
    refine W.remk [26] .i64 z 2 (z.tmod 2) (by kernel_rfl) (by decide) rfl ?_
    refine W.ia [] 2 g 0 N N .i64 i z hz tbOk (by kernel_rfl) hlt ?_
    refine W.stn [] [(g, erow N i)] [] [] 2 g (0 + i * 2) (erow N i) (.agg #[.int .i64 (z.tmod 2), .int .i64 z]) (erow N (i + 1)) tbOk (by kernel_rfl) rfl rfl (one_dv _ _) (by rw [erow_len hi]; omega) (erow_step hlt _ _ hm2 hz) ?_
    exact close [] _ _ ⟨i + 1, IntKind.i64.wrap (z + 1)⟩ (by kernel_rfl) (by kernel_rfl) ⟨by simp only [IntKind.wrap_i64]; omega, hlt⟩ (by simp only; omega) ent0
  obtain rfl : i = N := by omega
  refine W.df [] 26 (decide (z < IntKind.i64.wrap z1)) (by kernel_rfl) (decide_eq_false (by omega)) ?_
  have hpl := zzs_len i x
  by_cases h0 : i = 0
  · subst h0
    refine W.df [26] 37 (decide (IntKind.i64.wrap z1 > 0)) (by kernel_rfl) (decide_eq_false (by omega)) ?_
    refine W.pubr [] [] g (erow 0 0) (by kernel_rfl) (by kernel_rfl) ?_
    refine W.more (by kernel_rfl) (entRA (b := g) (xs := (zzs 0 x).flatMap dpc) (fun _ _ h => h)) ?_
    refine W.cl [37] (by kernel_rfl) (p_outOf (some ⟨g, 0, none⟩) 0 0 (zzs 0 x) width kind bg en rfl) ?_
    rintro _ _ (⟨h1, rfl, rfl⟩ | ⟨h1, ao, c, l, rfl, hlc, hl, rfl⟩)
    · refine W.dt [] 54 (decide (IntKind.i64.wrap z1 < 40)) (by kernel_rfl) (decide_eq_true (by omega)) ?_
      refine W.cl [54] (by kernel_rfl) (r_oof (some ⟨g, 0, none⟩) 0 0 (zzs 0 x) width kind bg en rfl (fun _ => ⟨_, _, rfl⟩)) ?_
      rintro _ _ (⟨h2, rfl, rfl⟩ | ⟨h2, _⟩)
      · refine W.cl [] (by kernel_rfl) p_olknown ?_
        rintro _ _ ⟨rfl, rfl⟩
        refine W.dt [79] 84 (oerr (zzs 0 x) width kind bg en == oerr (zzs 0 x) width kind bg en) (by kernel_rfl) (by simp) ?_
        refine W.df [84] 87 (oerr (zzs 0 x) width kind bg en == 0) (by kernel_rfl) (by simpa using h1) ?_
        exact W.r [84, 87] (.bool true) (by kernel_rfl) ⟨rfl, rfl⟩ ent0
      · exact absurd h2 h1
    · exact absurd h1 (by
        intro h
        have := (oerr_zero h).2.2.2.1
        simp [zzs, corn] at this)
  have hN0 : 0 < i := by omega
  refine W.dt [26] 37 (decide (IntKind.i64.wrap z1 > 0)) (by kernel_rfl) (decide_eq_true (by omega)) ?_
  refine W.ia [37] 2 g 0 i i .i64 (i - 1) (IntKind.i64.wrap (IntKind.i64.wrap z1 - 1)) (by rw [hwz, IntKind.wrap_i64]; omega) tbOk (by kernel_rfl) (by omega) ?_
  refine W.fa [] 0 g (0 + (i - 1) * 2) tbOk (by kernel_rfl) ?_
  refine W.stn [] [(g, erow i i)] [] [] 1 g (0 + (i - 1) * 2 + 0) (erow i i) (.int .i64 x) ((zzs i x).flatMap dpc) tbOk (by kernel_rfl) rfl rfl (one_int _ _) (by rw [erow_len (Nat.le_refl _)]; omega) (erow_last hN0 x) ?_
  refine W.pubr [] [] g ((zzs i x).flatMap dpc) (by kernel_rfl) (by kernel_rfl) ?_
  refine W.more (by kernel_rfl) (entRA (b := g) (xs := (zzs i x).flatMap dpc) (fun _ _ h => h)) ?_
  obtain ⟨er, her⟩ : ∃ er, oerr (zzs i x) width kind bg en = er := ⟨_, rfl⟩
  refine W.cl [] (by kernel_rfl) (p_outOf (some ⟨g, 0, none⟩) i i (zzs i x) width kind bg en hpl.symm) ?_
  by_cases h40 : i < 40
  · rintro _ _ (⟨h1, rfl, rfl⟩ | ⟨h1, ao, c, l, rfl, hlc, hl, rfl⟩)
    · refine W.dt [] 54 (decide (IntKind.i64.wrap z1 < 40)) (by kernel_rfl) (decide_eq_true (by omega)) ?_
      refine W.cl [54] (by kernel_rfl) (r_oof (some ⟨g, 0, none⟩) i i (zzs i x) width kind bg en hpl.symm (fun _ => ⟨_, _, rfl⟩)) ?_
      rintro _ _ (⟨h2, rfl, rfl⟩ | ⟨h2, _⟩)
      · refine W.cl [] (by kernel_rfl) p_olknown ?_
        rintro _ _ ⟨rfl, rfl⟩
        refine W.dt [79] 84 (oerr (zzs i x) width kind bg en == oerr (zzs i x) width kind bg en) (by kernel_rfl) (by simp) ?_
        refine W.df [84] 87 (oerr (zzs i x) width kind bg en == 0) (by kernel_rfl) (by simpa using h1) ?_
        exact W.r [84, 87] (.bool true) (by kernel_rfl) ⟨rfl, rfl⟩ ent0
      · exact absurd h2 h1
    · refine W.dt [] 54 (decide (IntKind.i64.wrap z1 < 40)) (by kernel_rfl) (decide_eq_true (by omega)) ?_
      refine W.cl [54] (by kernel_rfl) (r_oof (some ⟨g, 0, none⟩) i i (zzs i x) width kind bg en hpl.symm (fun _ => ⟨_, _, rfl⟩)) ?_
      rintro _ _ (⟨h2, rfl, rfl⟩ | ⟨h2, b2, o2, c2, l2, rfl, _, _, rfl⟩)
      · exact absurd h1 h2
      · refine W.cl [] (by kernel_rfl) p_olknown ?_
        rintro _ _ ⟨rfl, rfl⟩
        exact W.r [79, 84, 87] (.bool true) (by kernel_rfl) ⟨rfl, rfl⟩ ent0
  · by_cases hlong : 8191 < i
    · have h2 : oerr (zzs i x) width kind bg en = 2 := by unfold oerr; rw [if_pos (by omega)]
      rintro _ _ (⟨h1, rfl, rfl⟩ | ⟨h1, _⟩)
      · rw [h2]
        refine W.df [] 54 (decide (IntKind.i64.wrap z1 < 40)) (by kernel_rfl) (decide_eq_false (by omega)) ?_
        refine W.dt [54] 65 (decide (IntKind.i64.wrap z1 > 8191)) (by kernel_rfl) (decide_eq_true (by omega)) ?_
        refine W.cl [65] (by kernel_rfl) p_olknown ?_
        rintro _ _ ⟨rfl, rfl⟩
        exact W.r [79, 84, 87] (.bool true) (by kernel_rfl) ⟨rfl, rfl⟩ ent0
      · rw [h2] at h1
        exact absurd h1 (by decide)
    · have hlast := oerr_last (n := i) (x := x) (width := width) (kind := kind) (bg := bg) (en := en) (by omega) (by omega)
      have hdl : ((zzs i x).drop (i - 3)).length = 3 := by rw [List.length_drop, hpl]; omega
      have hw3 : IntKind.i64.wrap (IntKind.i64.wrap z1 - 3) = ((i - 3 : Nat) : Int) := by rw [hwz, IntKind.wrap_i64]; omega
      have hi3 : i - (i - 3) = 3 := by omega
      rintro _ _ (⟨h1, rfl, rfl⟩ | ⟨h1, ao, c, l, rfl, hlc, hl, rfl⟩)
      · refine W.df [] 54 (decide (IntKind.i64.wrap z1 < 40)) (by kernel_rfl) (decide_eq_false (by omega)) ?_
        refine W.df [54] 65 (decide (IntKind.i64.wrap z1 > 8191)) (by kernel_rfl) (decide_eq_false (by omega)) ?_
        refine W.sls [65] 2 g 0 i i (some (.int .i64 (IntKind.i64.wrap (IntKind.i64.wrap z1 - 3)))) none (i - 3) i tbOk (by kernel_rfl) (.inl (by rw [hw3])) (.inr ⟨rfl, rfl⟩) (by omega) (Nat.le_refl _) (by omega) ?_
        rw [hi3]
        refine W.cx [] (by kernel_rfl) (entRAsub (b := g) (off := 0) (pts := zzs i x) (i - 3)) (r_oof (some ⟨g, 0 + (i - 3) * 2, none⟩) 3 3 ((zzs i x).drop (i - 3)) width kind bg en hdl.symm (fun _ => ⟨_, _, rfl⟩)) ?_
        rintro _ _ (⟨h2, rfl, rfl⟩ | ⟨h2, _⟩)
        · refine W.cl [] (by kernel_rfl) p_olknown ?_
          rintro _ _ ⟨rfl, rfl⟩
          refine W.dt [79] 84 (oerr (zzs i x) width kind bg en == oerr ((zzs i x).drop (i - 3)) width kind bg en) (by kernel_rfl) (by rw [hlast]; simp) ?_
          refine W.df [84] 87 (oerr (zzs i x) width kind bg en == 0) (by kernel_rfl) (by simpa using h1) ?_
          exact W.r [84, 87] (.bool true) (by kernel_rfl) ⟨rfl, rfl⟩ ent0
        · exact absurd (hlast ▸ h2) h1
      · refine W.df [] 54 (decide (IntKind.i64.wrap z1 < 40)) (by kernel_rfl) (decide_eq_false (by omega)) ?_
        refine W.df [54] 65 (decide (IntKind.i64.wrap z1 > 8191)) (by kernel_rfl) (decide_eq_false (by omega)) ?_
        refine W.sls [65] 2 g 0 i i (some (.int .i64 (IntKind.i64.wrap (IntKind.i64.wrap z1 - 3)))) none (i - 3) i tbOk (by kernel_rfl) (.inl (by rw [hw3])) (.inr ⟨rfl, rfl⟩) (by omega) (Nat.le_refl _) (by omega) ?_
        rw [hi3]
        refine W.cx [] (by kernel_rfl) (entRAsub (b := g) (off := 0) (pts := zzs i x) (i - 3)) (r_oof (some ⟨g, 0 + (i - 3) * 2, none⟩) 3 3 ((zzs i x).drop (i - 3)) width kind bg en hdl.symm (fun _ => ⟨_, _, rfl⟩)) ?_
        rintro _ _ (⟨h2, rfl, rfl⟩ | ⟨h2, b2, o2, c2, l2, rfl, _, _, rfl⟩)
        · exact absurd (hlast ▸ h1) h2
        · refine W.cl [] (by kernel_rfl) p_olknown ?_
          rintro _ _ ⟨rfl, rfl⟩
          exact W.r [79, 84, 87] (.bool true) (by kernel_rfl) ⟨rfl, rfl⟩ ent0

end Go.Proofs.Ytaafmafdnnjmdaa
namespace Go.Proofs.Ytaafmafdnnjmdaa.outlineErrors
open Go.ChangeShapes Go.WideShapes Go.ChangeAt Go.RowKit
open Go.ChangeMaps (open_string shut_string)

theorem closed : joinedFacts Try.pinned.checked.prog 3 Try.f3 Rows.outlineErrorsSpec Rows.outlineErrorsRow = true := by
  unfold joinedFacts
  rw [show Try.pinned.checked.prog.mayEnter = true from jn_enter, show (Rows.outlineErrorsRow.lifted == Try.pinned.checked.prog.liftsFinal) = true from jn_lift, show (Try.pinned.checked.prog.make == some Rows.outlineErrorsRow.make) = true from jn_make,
    show laidOutB Try.pinned.checked.prog = true from jn_laid, show mapsRowed Try.pinned.checked.prog = true from jn_maps]
  kernel_rfl

set_option maxRecDepth 100000 in
set_option maxHeartbeats 2000000 in
theorem lifted (os : Os) (started : os.Started) (H : Type) (enc : TypeId × Value → H) :
    ReturnsInHanded {} Try.checked os 3 .any (Rows.outlineErrorsSpec.pre6 enc Try.prog Try.f3 Rows.outlineErrorsRow.domain false) (Rows.outlineErrorsSpec.post enc Try.prog Try.f3 false true false false) := by
  refine returnsInHanded_of_change (C := Try.checked) jn_own started (by kernel_rfl) Try.func3
    (ChangeSpec.witness6 (enc := enc) (C := Try.checked) false ⟨#[], #[.int .i64 0, .int .i64 0, .int .i64 0, .int .i64 0, .int .i64 0, .int .i64 0], []⟩ 8 (by kernel_rfl) (by kernel_rfl) (by kernel_rfl) (by kernel_rfl)) ?_
  intro W base args ds gs before hval0 hW hcnd _
  have hval : ∀ (j : Nat) t v, Try.f3.params[j]? = some t → args[j]? = some v → Value.okWide Try.prog W .any base t v := hval0
  have hW' := hW
  obtain ⟨p, q, hA0, hV, rfl, hfz, hnd⟩ := hW
  have hA : DataW.TrodAll enc Try.prog W 0 (fun _ => true) true Try.f3.params.toList args.toList ds p := hA0
  have hK := hA
  rw [Try.params3] at hA hval hK
  obtain ⟨v0, vs0, d0, ds0, p0, q0, hargs, rfl, rfl, h0, r0⟩ := trodAll_cons hA
  obtain ⟨v1, vs1, d1, ds1, p1, q1, rfl, rfl, rfl, h1, r1⟩ := trodAll_cons r0
  obtain ⟨v2, vs2, d2, ds2, p2, q2, rfl, rfl, rfl, h2, r2⟩ := trodAll_cons r1
  obtain ⟨v3, vs3, d3, ds3, p3, q3, rfl, rfl, rfl, h3, r3⟩ := trodAll_cons r2
  obtain ⟨v4, vs4, d4, ds4, p4, q4, rfl, rfl, rfl, h4, r4⟩ := trodAll_cons r3
  obtain ⟨v5, vs5, d5, ds5, p5, q5, rfl, rfl, rfl, h5, r5⟩ := trodAll_cons r4
  obtain ⟨rfl, rfl, rfl⟩ := trodAll_nil r5
  obtain rfl : args = #[v0, v1, v2, v3, v4, v5] := by cases args; simp_all
  obtain ⟨rfl, rfl⟩ := trodVars_none hV
  obtain ⟨a0, rfl, rfl, rfl, w0⟩ := open_int Try.underlying3 (hval 0 3 v0 rfl rfl) h0
  obtain ⟨a1, rfl, rfl, rfl, w1⟩ := open_int Try.underlying3 (hval 1 3 v1 rfl rfl) h1
  obtain ⟨a2, rfl, rfl, rfl, w2⟩ := open_int Try.underlying3 (hval 2 3 v2 rfl rfl) h2
  obtain ⟨a3, rfl, rfl, rfl, w3⟩ := open_int Try.underlying3 (hval 3 3 v3 rfl rfl) h3
  obtain ⟨a4, rfl, rfl, rfl, w4⟩ := open_int Try.underlying3 (hval 4 3 v4 rfl rfl) h4
  obtain ⟨a5, rfl, rfl, rfl, w5⟩ := open_int Try.underlying3 (hval 5 3 v5 rfl rfl) h5
  clear hA0 hval0
  simp only [List.append_nil] at hW' hK
  refine (law_calls' (p_outlineErrors a0 w0 a1 w1 a2 w2 a3 w3 a4 w4 a5 w5) W (Holds.nil _ _)).mono fun e W' ⟨he, hg⟩ => ?_
  subst he
  exact ⟨_, rfl, law_post hW' rfl (fun _ _ _ => (trodAll_cons_mk (shut_bool Try.underlying4 _) trodAll_mk0)) (fun sp hsp => trodAll_stays jn_laid hg (by kernel_rfl) hK (fun x hx => hW'.lt x (by first | exact hx | simpa using hx)) (fun x hx => hsp x (by first | exact hx | simpa using hx))) rfl hg⟩

theorem over : Rows.outlineErrorsRow.holds Try.pinned (OpenSpec.ofChange Rows.outlineErrorsSpec) :=
  OpenClaim.holds_of_wide 3 Try.f3 rfl rfl rfl rfl rfl rfl rfl ⟨rfl, rfl, rfl, rfl, rfl⟩ rfl rfl rfl rfl rfl (by kernel_rfl) Try.func3 closed
    (of_decide_eq_true (by kernel_rfl)) (by unfold Func.isWrapper; first | (rw [if_pos (by decide +kernel)]; kernel_rfl) | (rw [if_neg (by decide +kernel)]; exact ⟨rfl, rfl⟩))
    (fun os started H enc _ => lifted os started H enc)
end Go.Proofs.Ytaafmafdnnjmdaa.outlineErrors
namespace Go.Proofs.Ytaafmafdnnjmdaa

/-- The statement. -/
theorem outlineErrors_holds : Rows.OutlineErrorsSaid := outlineErrors.over
end Go.Proofs.Ytaafmafdnnjmdaa
