
/- The law SurdMakes holds: numbers with two roots have the field and the parts of which they were made, for all arguments. -/
import Derived.Test.YtcldhekediegdaaRows
import Derived.Test.YtcldhekediegdaaSd
import Derived.Test.YtcldhekediegdaaLawZ
import Derived.Test.YtcldhekediegdaaVs
import Derived.Test.YtcldhekediegdaaJn
set_option linter.unusedSimpArgs false
set_option linter.unusedVariables false
namespace Go.Proofs.Ytcldhekediegdaa
open Go.RowKit Go.IntWalk
theorem qtxt_int (z : Int) : qtxt (z : Rat) = ztxt z := by unfold qtxt; rw [if_pos (show ((z : Int) : Rat).den = 1 from rfl)]; rfl
theorem rAt_int {l : List QE} {zs : List Int} (h : l.map (·.q) = zs.map (fun z : Int => (z : Rat))) {j : Nat} (hj : j < zs.length) : rAt l j = ((zs[j]'hj : Int) : Rat) := by
  have h := congrArg (fun l : List Rat => l[j]?) h
  simp only [List.getElem?_map, List.getElem?_eq_getElem hj] at h
  unfold rAt
  cases h1 : l[j]? <;> rw [h1] at h <;> simp at h
  exact h
theorem rAt_out {l : List QE} {j : Nat} (hj : l.length ≤ j) : rAt l j = 0 := by unfold rAt; rw [List.getElem?_eq_none hj]
structure KSt where
  i : Nat
  z : Int
  v : Value
  O : List (Nat × List Value)
  l : List QE
set_option maxHeartbeats 16000000 in
theorem p_surdMakes (m : Int) (hm : (Lit.int .i64 m).wf = true) (n : Int) (hn : (Lit.int .i64 n).wf = true) (ao : Option Addr) (k c : Nat) (zs : List Int) (hk : k = zs.length) (hz : ∀ z ∈ zs, (Lit.int .i64 z).wf = true) (hkc : k ≤ c) :
    PCalls tb Try.prog 4 [.int .i64 m, .int .i64 n, .slice ao k c] [RA ao (zs.map (Value.int .i64))] (IsV (.bool true)) := by
  have hm1 := wf64 hm
  have hn1 := wf64 hn
  refine PCalls.of_W tbOk Try.func4 rfl (by kernel_rfl) ?_
  refine W.know (zs.map (Value.int .i64) ≠ [] → ∃ b off, ao = some ⟨b, off, none⟩) rfl (fun I w _ hh hne => by
    obtain ⟨b, off, ha, _⟩ := hh.h0' hne
    exact ⟨b, off, ha⟩) (fun hao => ?_)
  have told : ∀ {B off i : Nat} (hi : i < zs.length) {Γ' : List Fact} [Has (RA (some ⟨B, off, none⟩)) (zs.map (Value.int .i64)) Γ'], ∀ I w, DataOK tb I w → Holds Γ' I w → w.cell? ⟨B, off + i * 1, none⟩ = some (.int .i64 (zs[i]'hi)) := fun {B off i} hi {Γ'} _ I w _ hh => by
    have := RA.cell (Has.p (k := RA (some ⟨B, off, none⟩)) (a := zs.map (Value.int .i64)) (Γ := Γ') inferInstance hh) (i := i) (v := .int .i64 (zs[i]'hi)) (by rw [List.getElem?_map, List.getElem?_eq_getElem hi]; rfl)
    rw [Nat.mul_one]
    exact this
  have zwf : ∀ {i : Nat} (hi : i < zs.length), -9223372036854775808 ≤ (zs[i]'hi) ∧ (zs[i]'hi) < 9223372036854775808 := fun hi => wf64 (hz _ (List.getElem_mem hi))
  refine W.lpo [] [7, 8] (fun a : KSt => [(7, a.v), (8, .int .i64 a.z)]) (fun a => []) (fun a => a.O)
    (fun a => [OS QR (2, a.l), RA ao (zs.map (Value.int .i64))])
    (fun a => a.z = a.i ∧ a.i ≤ k ∧ a.i ≤ 9 ∧ a.l.length = a.i ∧ a.l.map (·.q) = (zs.take a.i).map (fun z : Int => (z : Rat)) ∧ Grow 4 a.O a.v a.i (a.l.flatMap QR.cells)) (fun a => 9 - a.i)
    ⟨0, 0, .slice none 0 0, [], []⟩ (by kernel_rfl) (by kernel_rfl) ⟨rfl, Nat.zero_le _, Nat.zero_le _, rfl, rfl, Grow.nil 4⟩ ?_ ?_
  · intro I w hd hh
    exact Holds.cons (fun e he => by simp at he) (holds1 hh.h0')
  rintro ⟨i, z, v, O, l⟩ R ⟨hz', hik, hi9, hli, hlq, hg⟩ close
  simp only at hz' hik hi9 hli hlq hg ⊢
  subst hz'
  by_cases hgo : i < k ∧ i < 9
  · obtain ⟨hik', hi9'⟩ := hgo
    have hsi : i < zs.length := by omega
    obtain ⟨B, off, rfl⟩ := hao (by intro e; have := congrArg List.length e; rw [List.length_map, List.length_nil] at this; omega)
    refine W.dt [] 20 (decide ((i : Int) < (k : Nat))) (by kernel_rfl) (by rw [decide_eq_true_iff]; omega) ?_
    refine W.dt [20] 23 (decide ((i : Int) < 9)) (by kernel_rfl) (by rw [decide_eq_true_iff]; omega) ?_
    refine W.ia [23] 1 B off k c .i64 i (i : Int) rfl tbOk (by kernel_rfl) hik' ?_
    refine W.ld [] 1 B (off + i * 1) (.int .i64 (zs[i]'hsi)) tbOk (by kernel_rfl) (told hsi) ?_
    refine W.cl [] (by kernel_rfl) (p_zof (zs[i]'hsi) (zwf hsi).1 (zwf hsi).2) ?_
    rintro _ _ ⟨u4, d4, rfl, rfl⟩
    refine W.cl [] (by kernel_rfl) (p_qwhole u4 d4) ?_
    rintro _ _ ⟨n5, a5, m5, b5, rfl, rfl⟩
    refine W.bs [] 1 (QR.cells ⟨n5, a5, m5, b5, ((zs[i]'hsi : Int) : Rat)⟩) tbOk (by kernel_rfl) (fun B6 => ?_)
    refine W.app [] O [] O [] 4 64 i 1 v (.slice (some ⟨B6, 0, none⟩) 1 1) (l.flatMap QR.cells) (QR.cells ⟨n5, a5, m5, b5, ((zs[i]'hsi : Int) : Rat)⟩) tbOk (by kernel_rfl) (by simp) hg (reads_row B6 _ 1 4 rfl 1) (by simp [QR, Value.oneCell']) (by omega) (by omega) (fun v' O' hg' => ?_)
    refine close [] _ _ ⟨i + 1, IntKind.i64.wrap ((i : Int) + 1), v', O', l ++ [⟨n5, a5, m5, b5, ((zs[i]'hsi : Int) : Rat)⟩]⟩ (by kernel_rfl) ?_ ⟨by simp only; rw [i64_in _ (by omega)]; rfl, by simp only; omega, by simp only; omega, by simp only; rw [List.length_append, hli]; rfl, ?_, ?_⟩ (by simp only; omega) ?_
    · simp only [List.nil_append, List.append_nil]
      kernel_rfl
    · simp only [List.map_append, List.map_cons, List.map_nil]
      rw [List.take_succ_eq_append_getElem hsi, List.map_append, hlq]
      rfl
    · simp only [List.flatMap_append, List.flatMap_cons, List.flatMap_nil, List.append_nil]
      exact hg'
    · intro I w hd hh
      refine Holds.cons (fun e he => ?_) (holds1 (Has.p (k := RA (some ⟨B, off, none⟩)) (a := zs.map (Value.int .i64)) inferInstance hh))
      rcases List.mem_append.1 he with he | he
      · exact (Has.p (k := OS QR) (a := (2, l)) inferInstance hh) e he
      · rw [List.mem_singleton.1 he]
        exact Has.p (k := QF n5 a5 m5 b5) (a := (max 2 2, ((zs[i]'hsi : Int) : Rat))) inferInstance hh
  · refine W.pubg rfl hg rfl (fun vo vc hv => ?_)
    subst hv
    -- out of the loop
    by_cases h5 : m < 0 ∨ n < 0 ∨ 4 < i
    · by_cases hlt : i < k
      · refine W.dt [] 20 (decide ((i : Int) < (k : Nat))) (by kernel_rfl) (by rw [decide_eq_true_iff]; omega) ?_
        refine W.df [20] 23 (decide ((i : Int) < 9)) (by kernel_rfl) (by rw [decide_eq_false_iff_not]; omega) ?_
        refine W.cl [23] (by kernel_rfl) (p_zof m (by omega) (by omega)) ?_
        rintro _ _ ⟨u2, d2, rfl, rfl⟩
        refine W.cl [] (by kernel_rfl) (p_zof n (by omega) (by omega)) ?_
        rintro _ _ ⟨u3, d3, rfl, rfl⟩
        refine W.cl [] (by kernel_rfl) (p_xofE u2 d2 u3 d3 vo i vc h5) ?_
        rintro _ _ ⟨rfl, rfl⟩
        refine W.cl [] (by kernel_rfl) p_xknown ?_
        rintro _ _ ⟨rfl, rfl⟩
        by_cases hm0 : m < 0
        · refine W.dt [45] 48 (decide (m < 0)) (by kernel_rfl) (by rw [decide_eq_true_iff]; omega) ?_
          refine W.cl [59, 56, 52, 48] (by kernel_rfl) (p_xsign0 nilS) ?_
          rintro _ _ ⟨rfl, rfl⟩
          exact W.r [59] (.bool true) (by kernel_rfl) ⟨rfl, rfl⟩ ent0
        refine W.df [45] 48 (decide (m < 0)) (by kernel_rfl) (by rw [decide_eq_false_iff_not]; omega) ?_
        by_cases hn0 : n < 0
        · refine W.dt [48] 52 (decide (n < 0)) (by kernel_rfl) (by rw [decide_eq_true_iff]; omega) ?_
          refine W.cl [59, 56, 52] (by kernel_rfl) (p_xsign0 nilS) ?_
          rintro _ _ ⟨rfl, rfl⟩
          exact W.r [59] (.bool true) (by kernel_rfl) ⟨rfl, rfl⟩ ent0
        refine W.df [48] 52 (decide (n < 0)) (by kernel_rfl) (by rw [decide_eq_false_iff_not]; omega) ?_
        refine W.dt [52] 56 (decide (((i : Nat) : Int) > 4)) (by kernel_rfl) (by rw [decide_eq_true_iff]; omega) ?_
        refine W.cl [59, 56] (by kernel_rfl) (p_xsign0 nilS) ?_
        rintro _ _ ⟨rfl, rfl⟩
        exact W.r [59] (.bool true) (by kernel_rfl) ⟨rfl, rfl⟩ ent0
      · refine W.df [] 20 (decide ((i : Int) < (k : Nat))) (by kernel_rfl) (by rw [decide_eq_false_iff_not]; omega) ?_
        refine W.cl [23, 20] (by kernel_rfl) (p_zof m (by omega) (by omega)) ?_
        rintro _ _ ⟨u2, d2, rfl, rfl⟩
        refine W.cl [] (by kernel_rfl) (p_zof n (by omega) (by omega)) ?_
        rintro _ _ ⟨u3, d3, rfl, rfl⟩
        refine W.cl [] (by kernel_rfl) (p_xofE u2 d2 u3 d3 vo i vc h5) ?_
        rintro _ _ ⟨rfl, rfl⟩
        refine W.cl [] (by kernel_rfl) p_xknown ?_
        rintro _ _ ⟨rfl, rfl⟩
        by_cases hm0 : m < 0
        · refine W.dt [45] 48 (decide (m < 0)) (by kernel_rfl) (by rw [decide_eq_true_iff]; omega) ?_
          refine W.cl [59, 56, 52, 48] (by kernel_rfl) (p_xsign0 nilS) ?_
          rintro _ _ ⟨rfl, rfl⟩
          exact W.r [59] (.bool true) (by kernel_rfl) ⟨rfl, rfl⟩ ent0
        refine W.df [45] 48 (decide (m < 0)) (by kernel_rfl) (by rw [decide_eq_false_iff_not]; omega) ?_
        by_cases hn0 : n < 0
        · refine W.dt [48] 52 (decide (n < 0)) (by kernel_rfl) (by rw [decide_eq_true_iff]; omega) ?_
          refine W.cl [59, 56, 52] (by kernel_rfl) (p_xsign0 nilS) ?_
          rintro _ _ ⟨rfl, rfl⟩
          exact W.r [59] (.bool true) (by kernel_rfl) ⟨rfl, rfl⟩ ent0
        refine W.df [48] 52 (decide (n < 0)) (by kernel_rfl) (by rw [decide_eq_false_iff_not]; omega) ?_
        refine W.dt [52] 56 (decide (((i : Nat) : Int) > 4)) (by kernel_rfl) (by rw [decide_eq_true_iff]; omega) ?_
        refine W.cl [59, 56] (by kernel_rfl) (p_xsign0 nilS) ?_
        rintro _ _ ⟨rfl, rfl⟩
        exact W.r [59] (.bool true) (by kernel_rfl) ⟨rfl, rfl⟩ ent0
    · have hik2 : i = k := by omega
      have hts : zs.take i = zs := List.take_of_length_le (by omega)
      rw [hts] at hlq
      refine W.df [] 20 (decide ((i : Int) < (k : Nat))) (by kernel_rfl) (by rw [decide_eq_false_iff_not]; omega) ?_
      refine W.cl [23, 20] (by kernel_rfl) (p_zof m (by omega) (by omega)) ?_
      rintro _ _ ⟨u2, d2, rfl, rfl⟩
      refine W.cl [] (by kernel_rfl) (p_zof n (by omega) (by omega)) ?_
      rintro _ _ ⟨u3, d3, rfl, rfl⟩
      refine W.cl [] (by kernel_rfl) ((p_xof (Γ := OL QR vo (2, l) :: _) u2 d2 u3 d3 vo i vc hli.symm (by omega) (by omega) (by omega)).weak (fun I w hd h => Holds.cons ⟨Has.p (k := OS QR) (a := (2, l)) inferInstance h, Has.p (k := RA vo) (a := l.flatMap QR.cells) inferInstance h⟩ h) (fun _ _ h => h)) ?_
      rintro _ _ ⟨X4, rfl, rfl⟩
      refine W.cl [] (by kernel_rfl) p_xknown ?_
      rintro _ _ ⟨rfl, rfl⟩
      refine W.df [45] 48 (decide (m < 0)) (by kernel_rfl) (by rw [decide_eq_false_iff_not]; omega) ?_
      refine W.df [48] 52 (decide (n < 0)) (by kernel_rfl) (by rw [decide_eq_false_iff_not]; omega) ?_
      refine W.df [52] 56 (decide (((i : Nat) : Int) > 4)) (by kernel_rfl) (by rw [decide_eq_false_iff_not]; omega) ?_
      refine W.cl [56] (by kernel_rfl) (p_xparts X4) ?_
      rintro _ _ ⟨rfl, rfl⟩
      refine W.code 999 ?_
      refine W.sf X4 (by kernel_rfl) ?_
      refine W.unr [] 6 (by kernel_rfl) ?_
      obtain rfl | rfl | rfl | rfl | rfl : i = 0 ∨ i = 1 ∨ i = 2 ∨ i = 3 ∨ i = 4 := by omega
      · have hj : zs.length = 0 := by omega
        refine W.df [67] 73 (decide ((0 : Int) < ((0 : Nat) : Int))) (by kernel_rfl) rfl ?_
        refine W.cl [73] (by kernel_rfl) (p_qtext X4.p.n X4.p.a X4.p.m X4.p.b) ?_
        rintro _ _ ⟨rfl, rfl⟩
        refine W.df [] 85 (!((qtxt (rAt l 0)).toList == (⟨#[48]⟩ : ByteArray).toList)) (by kernel_rfl) (by rw [rAt_out (by omega)]; decide +kernel) ?_
        refine W.df [67, 85] 73 (decide ((1 : Int) < ((0 : Nat) : Int))) (by kernel_rfl) rfl ?_
        refine W.cl [73] (by kernel_rfl) (p_qtext X4.q.n X4.q.a X4.q.m X4.q.b) ?_
        rintro _ _ ⟨rfl, rfl⟩
        refine W.df [] 85 (!((qtxt (rAt l 1)).toList == (⟨#[48]⟩ : ByteArray).toList)) (by kernel_rfl) (by rw [rAt_out (by omega)]; decide +kernel) ?_
        refine W.df [67, 85] 73 (decide ((2 : Int) < ((0 : Nat) : Int))) (by kernel_rfl) rfl ?_
        refine W.cl [73] (by kernel_rfl) (p_qtext X4.r.n X4.r.a X4.r.m X4.r.b) ?_
        rintro _ _ ⟨rfl, rfl⟩
        refine W.df [] 85 (!((qtxt (rAt l 2)).toList == (⟨#[48]⟩ : ByteArray).toList)) (by kernel_rfl) (by rw [rAt_out (by omega)]; decide +kernel) ?_
        refine W.df [67, 85] 73 (decide ((3 : Int) < ((0 : Nat) : Int))) (by kernel_rfl) rfl ?_
        refine W.cl [73] (by kernel_rfl) (p_qtext X4.s.n X4.s.a X4.s.m X4.s.b) ?_
        rintro _ _ ⟨rfl, rfl⟩
        refine W.df [] 85 (!((qtxt (rAt l 3)).toList == (⟨#[48]⟩ : ByteArray).toList)) (by kernel_rfl) (by rw [rAt_out (by omega)]; decide +kernel) ?_
        refine W.cl [67, 85] (by kernel_rfl) (p_xfield X4) ?_
        rintro _ _ ⟨rfl, rfl⟩
        refine W.cl [93] (by kernel_rfl) (p_zof m (by omega) (by omega)) ?_
        rintro _ _ ⟨u12, d12, rfl, rfl⟩
        refine W.cl [93] (by kernel_rfl) (p_zcmp X4.u X4.d u12 d12) ?_
        rintro _ _ ⟨rfl, rfl⟩
        refine W.dt [93] 100 ((cmpZ m m) == 0) (by kernel_rfl) (by rw [cmpZ_eq.2 rfl]; rfl) ?_
        refine W.cl [100] (by kernel_rfl) (p_zof n (by omega) (by omega)) ?_
        rintro _ _ ⟨u14, d14, rfl, rfl⟩
        refine W.cl [100] (by kernel_rfl) (p_zcmp X4.v X4.e u14 d14) ?_
        rintro _ _ ⟨rfl, rfl⟩
        exact W.r [100] (.bool ((cmpZ n n) == 0)) (by kernel_rfl) ⟨by rw [cmpZ_eq.2 rfl]; rfl, rfl⟩ ent0
      · have hj : zs.length = 1 := by omega
        obtain ⟨B, off, rfl⟩ := hao (by intro e; have := congrArg List.length e; rw [List.length_map, List.length_nil] at this; omega)
        refine W.dt [67] 73 (decide ((0 : Int) < ((1 : Nat) : Int))) (by kernel_rfl) rfl ?_
        refine W.ia [73] 1 B off k c .i64 0 (0 : Int) rfl tbOk (by kernel_rfl) (by omega) ?_
        refine W.ld [] 1 B (off + 0 * 1) (.int .i64 (zs[0]'(by omega))) tbOk (by kernel_rfl) (told (by omega)) ?_
        refine W.cl [] (by kernel_rfl) (p_zof (zs[0]'(by omega)) (zwf (by omega)).1 (zwf (by omega)).2) ?_
        rintro _ _ ⟨v0, f0, rfl, rfl⟩
        refine W.cl [] (by kernel_rfl) (p_ztext v0 f0) ?_
        rintro _ _ ⟨rfl, rfl⟩
        refine W.cl [] (by kernel_rfl) (p_qtext X4.p.n X4.p.a X4.p.m X4.p.b) ?_
        rintro _ _ ⟨rfl, rfl⟩
        refine W.df [] 85 (!((qtxt (rAt l 0)).toList == (ztxt (zs[0]'(by omega))).toList)) (by kernel_rfl) (by rw [rAt_int hlq (by omega), qtxt_int]; simp) ?_
        refine W.df [67, 85] 73 (decide ((1 : Int) < ((1 : Nat) : Int))) (by kernel_rfl) rfl ?_
        refine W.cl [73] (by kernel_rfl) (p_qtext X4.q.n X4.q.a X4.q.m X4.q.b) ?_
        rintro _ _ ⟨rfl, rfl⟩
        refine W.df [] 85 (!((qtxt (rAt l 1)).toList == (⟨#[48]⟩ : ByteArray).toList)) (by kernel_rfl) (by rw [rAt_out (by omega)]; decide +kernel) ?_
        refine W.df [67, 85] 73 (decide ((2 : Int) < ((1 : Nat) : Int))) (by kernel_rfl) rfl ?_
        refine W.cl [73] (by kernel_rfl) (p_qtext X4.r.n X4.r.a X4.r.m X4.r.b) ?_
        rintro _ _ ⟨rfl, rfl⟩
        refine W.df [] 85 (!((qtxt (rAt l 2)).toList == (⟨#[48]⟩ : ByteArray).toList)) (by kernel_rfl) (by rw [rAt_out (by omega)]; decide +kernel) ?_
        refine W.df [67, 85] 73 (decide ((3 : Int) < ((1 : Nat) : Int))) (by kernel_rfl) rfl ?_
        refine W.cl [73] (by kernel_rfl) (p_qtext X4.s.n X4.s.a X4.s.m X4.s.b) ?_
        rintro _ _ ⟨rfl, rfl⟩
        refine W.df [] 85 (!((qtxt (rAt l 3)).toList == (⟨#[48]⟩ : ByteArray).toList)) (by kernel_rfl) (by rw [rAt_out (by omega)]; decide +kernel) ?_
        refine W.cl [67, 85] (by kernel_rfl) (p_xfield X4) ?_
        rintro _ _ ⟨rfl, rfl⟩
        refine W.cl [93] (by kernel_rfl) (p_zof m (by omega) (by omega)) ?_
        rintro _ _ ⟨u12, d12, rfl, rfl⟩
        refine W.cl [93] (by kernel_rfl) (p_zcmp X4.u X4.d u12 d12) ?_
        rintro _ _ ⟨rfl, rfl⟩
        refine W.dt [93] 100 ((cmpZ m m) == 0) (by kernel_rfl) (by rw [cmpZ_eq.2 rfl]; rfl) ?_
        refine W.cl [100] (by kernel_rfl) (p_zof n (by omega) (by omega)) ?_
        rintro _ _ ⟨u14, d14, rfl, rfl⟩
        refine W.cl [100] (by kernel_rfl) (p_zcmp X4.v X4.e u14 d14) ?_
        rintro _ _ ⟨rfl, rfl⟩
        exact W.r [100] (.bool ((cmpZ n n) == 0)) (by kernel_rfl) ⟨by rw [cmpZ_eq.2 rfl]; rfl, rfl⟩ ent0
      · have hj : zs.length = 2 := by omega
        obtain ⟨B, off, rfl⟩ := hao (by intro e; have := congrArg List.length e; rw [List.length_map, List.length_nil] at this; omega)
        refine W.dt [67] 73 (decide ((0 : Int) < ((2 : Nat) : Int))) (by kernel_rfl) rfl ?_
        refine W.ia [73] 1 B off k c .i64 0 (0 : Int) rfl tbOk (by kernel_rfl) (by omega) ?_
        refine W.ld [] 1 B (off + 0 * 1) (.int .i64 (zs[0]'(by omega))) tbOk (by kernel_rfl) (told (by omega)) ?_
        refine W.cl [] (by kernel_rfl) (p_zof (zs[0]'(by omega)) (zwf (by omega)).1 (zwf (by omega)).2) ?_
        rintro _ _ ⟨v0, f0, rfl, rfl⟩
        refine W.cl [] (by kernel_rfl) (p_ztext v0 f0) ?_
        rintro _ _ ⟨rfl, rfl⟩
        refine W.cl [] (by kernel_rfl) (p_qtext X4.p.n X4.p.a X4.p.m X4.p.b) ?_
        rintro _ _ ⟨rfl, rfl⟩
        refine W.df [] 85 (!((qtxt (rAt l 0)).toList == (ztxt (zs[0]'(by omega))).toList)) (by kernel_rfl) (by rw [rAt_int hlq (by omega), qtxt_int]; simp) ?_
        refine W.dt [67, 85] 73 (decide ((1 : Int) < ((2 : Nat) : Int))) (by kernel_rfl) rfl ?_
        refine W.ia [73] 1 B off k c .i64 1 (1 : Int) rfl tbOk (by kernel_rfl) (by omega) ?_
        refine W.ld [] 1 B (off + 1 * 1) (.int .i64 (zs[1]'(by omega))) tbOk (by kernel_rfl) (told (by omega)) ?_
        refine W.cl [] (by kernel_rfl) (p_zof (zs[1]'(by omega)) (zwf (by omega)).1 (zwf (by omega)).2) ?_
        rintro _ _ ⟨v1, f1, rfl, rfl⟩
        refine W.cl [] (by kernel_rfl) (p_ztext v1 f1) ?_
        rintro _ _ ⟨rfl, rfl⟩
        refine W.cl [] (by kernel_rfl) (p_qtext X4.q.n X4.q.a X4.q.m X4.q.b) ?_
        rintro _ _ ⟨rfl, rfl⟩
        refine W.df [] 85 (!((qtxt (rAt l 1)).toList == (ztxt (zs[1]'(by omega))).toList)) (by kernel_rfl) (by rw [rAt_int hlq (by omega), qtxt_int]; simp) ?_
        refine W.df [67, 85] 73 (decide ((2 : Int) < ((2 : Nat) : Int))) (by kernel_rfl) rfl ?_
        refine W.cl [73] (by kernel_rfl) (p_qtext X4.r.n X4.r.a X4.r.m X4.r.b) ?_
        rintro _ _ ⟨rfl, rfl⟩
        refine W.df [] 85 (!((qtxt (rAt l 2)).toList == (⟨#[48]⟩ : ByteArray).toList)) (by kernel_rfl) (by rw [rAt_out (by omega)]; decide +kernel) ?_
        refine W.df [67, 85] 73 (decide ((3 : Int) < ((2 : Nat) : Int))) (by kernel_rfl) rfl ?_
        refine W.cl [73] (by kernel_rfl) (p_qtext X4.s.n X4.s.a X4.s.m X4.s.b) ?_
        rintro _ _ ⟨rfl, rfl⟩
        refine W.df [] 85 (!((qtxt (rAt l 3)).toList == (⟨#[48]⟩ : ByteArray).toList)) (by kernel_rfl) (by rw [rAt_out (by omega)]; decide +kernel) ?_
        refine W.cl [67, 85] (by kernel_rfl) (p_xfield X4) ?_
        rintro _ _ ⟨rfl, rfl⟩
        refine W.cl [93] (by kernel_rfl) (p_zof m (by omega) (by omega)) ?_
        rintro _ _ ⟨u12, d12, rfl, rfl⟩
        refine W.cl [93] (by kernel_rfl) (p_zcmp X4.u X4.d u12 d12) ?_
        rintro _ _ ⟨rfl, rfl⟩
        refine W.dt [93] 100 ((cmpZ m m) == 0) (by kernel_rfl) (by rw [cmpZ_eq.2 rfl]; rfl) ?_
        refine W.cl [100] (by kernel_rfl) (p_zof n (by omega) (by omega)) ?_
        rintro _ _ ⟨u14, d14, rfl, rfl⟩
        refine W.cl [100] (by kernel_rfl) (p_zcmp X4.v X4.e u14 d14) ?_
        rintro _ _ ⟨rfl, rfl⟩
        exact W.r [100] (.bool ((cmpZ n n) == 0)) (by kernel_rfl) ⟨by rw [cmpZ_eq.2 rfl]; rfl, rfl⟩ ent0
      · have hj : zs.length = 3 := by omega
        obtain ⟨B, off, rfl⟩ := hao (by intro e; have := congrArg List.length e; rw [List.length_map, List.length_nil] at this; omega)
        refine W.dt [67] 73 (decide ((0 : Int) < ((3 : Nat) : Int))) (by kernel_rfl) rfl ?_
        refine W.ia [73] 1 B off k c .i64 0 (0 : Int) rfl tbOk (by kernel_rfl) (by omega) ?_
        refine W.ld [] 1 B (off + 0 * 1) (.int .i64 (zs[0]'(by omega))) tbOk (by kernel_rfl) (told (by omega)) ?_
        refine W.cl [] (by kernel_rfl) (p_zof (zs[0]'(by omega)) (zwf (by omega)).1 (zwf (by omega)).2) ?_
        rintro _ _ ⟨v0, f0, rfl, rfl⟩
        refine W.cl [] (by kernel_rfl) (p_ztext v0 f0) ?_
        rintro _ _ ⟨rfl, rfl⟩
        refine W.cl [] (by kernel_rfl) (p_qtext X4.p.n X4.p.a X4.p.m X4.p.b) ?_
        rintro _ _ ⟨rfl, rfl⟩
        refine W.df [] 85 (!((qtxt (rAt l 0)).toList == (ztxt (zs[0]'(by omega))).toList)) (by kernel_rfl) (by rw [rAt_int hlq (by omega), qtxt_int]; simp) ?_
        refine W.dt [67, 85] 73 (decide ((1 : Int) < ((3 : Nat) : Int))) (by kernel_rfl) rfl ?_
        refine W.ia [73] 1 B off k c .i64 1 (1 : Int) rfl tbOk (by kernel_rfl) (by omega) ?_
        refine W.ld [] 1 B (off + 1 * 1) (.int .i64 (zs[1]'(by omega))) tbOk (by kernel_rfl) (told (by omega)) ?_
        refine W.cl [] (by kernel_rfl) (p_zof (zs[1]'(by omega)) (zwf (by omega)).1 (zwf (by omega)).2) ?_
        rintro _ _ ⟨v1, f1, rfl, rfl⟩
        refine W.cl [] (by kernel_rfl) (p_ztext v1 f1) ?_
        rintro _ _ ⟨rfl, rfl⟩
        refine W.cl [] (by kernel_rfl) (p_qtext X4.q.n X4.q.a X4.q.m X4.q.b) ?_
        rintro _ _ ⟨rfl, rfl⟩
        refine W.df [] 85 (!((qtxt (rAt l 1)).toList == (ztxt (zs[1]'(by omega))).toList)) (by kernel_rfl) (by rw [rAt_int hlq (by omega), qtxt_int]; simp) ?_
        refine W.dt [67, 85] 73 (decide ((2 : Int) < ((3 : Nat) : Int))) (by kernel_rfl) rfl ?_
        refine W.ia [73] 1 B off k c .i64 2 (2 : Int) rfl tbOk (by kernel_rfl) (by omega) ?_
        refine W.ld [] 1 B (off + 2 * 1) (.int .i64 (zs[2]'(by omega))) tbOk (by kernel_rfl) (told (by omega)) ?_
        refine W.cl [] (by kernel_rfl) (p_zof (zs[2]'(by omega)) (zwf (by omega)).1 (zwf (by omega)).2) ?_
        rintro _ _ ⟨v2, f2, rfl, rfl⟩
        refine W.cl [] (by kernel_rfl) (p_ztext v2 f2) ?_
        rintro _ _ ⟨rfl, rfl⟩
        refine W.cl [] (by kernel_rfl) (p_qtext X4.r.n X4.r.a X4.r.m X4.r.b) ?_
        rintro _ _ ⟨rfl, rfl⟩
        refine W.df [] 85 (!((qtxt (rAt l 2)).toList == (ztxt (zs[2]'(by omega))).toList)) (by kernel_rfl) (by rw [rAt_int hlq (by omega), qtxt_int]; simp) ?_
        refine W.df [67, 85] 73 (decide ((3 : Int) < ((3 : Nat) : Int))) (by kernel_rfl) rfl ?_
        refine W.cl [73] (by kernel_rfl) (p_qtext X4.s.n X4.s.a X4.s.m X4.s.b) ?_
        rintro _ _ ⟨rfl, rfl⟩
        refine W.df [] 85 (!((qtxt (rAt l 3)).toList == (⟨#[48]⟩ : ByteArray).toList)) (by kernel_rfl) (by rw [rAt_out (by omega)]; decide +kernel) ?_
        refine W.cl [67, 85] (by kernel_rfl) (p_xfield X4) ?_
        rintro _ _ ⟨rfl, rfl⟩
        refine W.cl [93] (by kernel_rfl) (p_zof m (by omega) (by omega)) ?_
        rintro _ _ ⟨u12, d12, rfl, rfl⟩
        refine W.cl [93] (by kernel_rfl) (p_zcmp X4.u X4.d u12 d12) ?_
        rintro _ _ ⟨rfl, rfl⟩
        refine W.dt [93] 100 ((cmpZ m m) == 0) (by kernel_rfl) (by rw [cmpZ_eq.2 rfl]; rfl) ?_
        refine W.cl [100] (by kernel_rfl) (p_zof n (by omega) (by omega)) ?_
        rintro _ _ ⟨u14, d14, rfl, rfl⟩
        refine W.cl [100] (by kernel_rfl) (p_zcmp X4.v X4.e u14 d14) ?_
        rintro _ _ ⟨rfl, rfl⟩
        exact W.r [100] (.bool ((cmpZ n n) == 0)) (by kernel_rfl) ⟨by rw [cmpZ_eq.2 rfl]; rfl, rfl⟩ ent0
      · have hj : zs.length = 4 := by omega
        obtain ⟨B, off, rfl⟩ := hao (by intro e; have := congrArg List.length e; rw [List.length_map, List.length_nil] at this; omega)
        refine W.dt [67] 73 (decide ((0 : Int) < ((4 : Nat) : Int))) (by kernel_rfl) rfl ?_
        refine W.ia [73] 1 B off k c .i64 0 (0 : Int) rfl tbOk (by kernel_rfl) (by omega) ?_
        refine W.ld [] 1 B (off + 0 * 1) (.int .i64 (zs[0]'(by omega))) tbOk (by kernel_rfl) (told (by omega)) ?_
        refine W.cl [] (by kernel_rfl) (p_zof (zs[0]'(by omega)) (zwf (by omega)).1 (zwf (by omega)).2) ?_
        rintro _ _ ⟨v0, f0, rfl, rfl⟩
        refine W.cl [] (by kernel_rfl) (p_ztext v0 f0) ?_
        rintro _ _ ⟨rfl, rfl⟩
        refine W.cl [] (by kernel_rfl) (p_qtext X4.p.n X4.p.a X4.p.m X4.p.b) ?_
        rintro _ _ ⟨rfl, rfl⟩
        refine W.df [] 85 (!((qtxt (rAt l 0)).toList == (ztxt (zs[0]'(by omega))).toList)) (by kernel_rfl) (by rw [rAt_int hlq (by omega), qtxt_int]; simp) ?_
        refine W.dt [67, 85] 73 (decide ((1 : Int) < ((4 : Nat) : Int))) (by kernel_rfl) rfl ?_
        refine W.ia [73] 1 B off k c .i64 1 (1 : Int) rfl tbOk (by kernel_rfl) (by omega) ?_
        refine W.ld [] 1 B (off + 1 * 1) (.int .i64 (zs[1]'(by omega))) tbOk (by kernel_rfl) (told (by omega)) ?_
        refine W.cl [] (by kernel_rfl) (p_zof (zs[1]'(by omega)) (zwf (by omega)).1 (zwf (by omega)).2) ?_
        rintro _ _ ⟨v1, f1, rfl, rfl⟩
        refine W.cl [] (by kernel_rfl) (p_ztext v1 f1) ?_
        rintro _ _ ⟨rfl, rfl⟩
        refine W.cl [] (by kernel_rfl) (p_qtext X4.q.n X4.q.a X4.q.m X4.q.b) ?_
        rintro _ _ ⟨rfl, rfl⟩
        refine W.df [] 85 (!((qtxt (rAt l 1)).toList == (ztxt (zs[1]'(by omega))).toList)) (by kernel_rfl) (by rw [rAt_int hlq (by omega), qtxt_int]; simp) ?_
        refine W.dt [67, 85] 73 (decide ((2 : Int) < ((4 : Nat) : Int))) (by kernel_rfl) rfl ?_
        refine W.ia [73] 1 B off k c .i64 2 (2 : Int) rfl tbOk (by kernel_rfl) (by omega) ?_
        refine W.ld [] 1 B (off + 2 * 1) (.int .i64 (zs[2]'(by omega))) tbOk (by kernel_rfl) (told (by omega)) ?_
        refine W.cl [] (by kernel_rfl) (p_zof (zs[2]'(by omega)) (zwf (by omega)).1 (zwf (by omega)).2) ?_
        rintro _ _ ⟨v2, f2, rfl, rfl⟩
        refine W.cl [] (by kernel_rfl) (p_ztext v2 f2) ?_
        rintro _ _ ⟨rfl, rfl⟩
        refine W.cl [] (by kernel_rfl) (p_qtext X4.r.n X4.r.a X4.r.m X4.r.b) ?_
        rintro _ _ ⟨rfl, rfl⟩
        refine W.df [] 85 (!((qtxt (rAt l 2)).toList == (ztxt (zs[2]'(by omega))).toList)) (by kernel_rfl) (by rw [rAt_int hlq (by omega), qtxt_int]; simp) ?_
        refine W.dt [67, 85] 73 (decide ((3 : Int) < ((4 : Nat) : Int))) (by kernel_rfl) rfl ?_
        refine W.ia [73] 1 B off k c .i64 3 (3 : Int) rfl tbOk (by kernel_rfl) (by omega) ?_
        refine W.ld [] 1 B (off + 3 * 1) (.int .i64 (zs[3]'(by omega))) tbOk (by kernel_rfl) (told (by omega)) ?_
        refine W.cl [] (by kernel_rfl) (p_zof (zs[3]'(by omega)) (zwf (by omega)).1 (zwf (by omega)).2) ?_
        rintro _ _ ⟨v3, f3, rfl, rfl⟩
        refine W.cl [] (by kernel_rfl) (p_ztext v3 f3) ?_
        rintro _ _ ⟨rfl, rfl⟩
        refine W.cl [] (by kernel_rfl) (p_qtext X4.s.n X4.s.a X4.s.m X4.s.b) ?_
        rintro _ _ ⟨rfl, rfl⟩
        refine W.df [] 85 (!((qtxt (rAt l 3)).toList == (ztxt (zs[3]'(by omega))).toList)) (by kernel_rfl) (by rw [rAt_int hlq (by omega), qtxt_int]; simp) ?_
        refine W.cl [67, 85] (by kernel_rfl) (p_xfield X4) ?_
        rintro _ _ ⟨rfl, rfl⟩
        refine W.cl [93] (by kernel_rfl) (p_zof m (by omega) (by omega)) ?_
        rintro _ _ ⟨u12, d12, rfl, rfl⟩
        refine W.cl [93] (by kernel_rfl) (p_zcmp X4.u X4.d u12 d12) ?_
        rintro _ _ ⟨rfl, rfl⟩
        refine W.dt [93] 100 ((cmpZ m m) == 0) (by kernel_rfl) (by rw [cmpZ_eq.2 rfl]; rfl) ?_
        refine W.cl [100] (by kernel_rfl) (p_zof n (by omega) (by omega)) ?_
        rintro _ _ ⟨u14, d14, rfl, rfl⟩
        refine W.cl [100] (by kernel_rfl) (p_zcmp X4.v X4.e u14 d14) ?_
        rintro _ _ ⟨rfl, rfl⟩
        exact W.r [100] (.bool ((cmpZ n n) == 0)) (by kernel_rfl) ⟨by rw [cmpZ_eq.2 rfl]; rfl, rfl⟩ ent0

end Go.Proofs.Ytcldhekediegdaa
namespace Go.Proofs.Ytcldhekediegdaa.surdMakes
open Go.ChangeShapes Go.WideShapes Go.ChangeAt Go.RowKit
open Go.ChangeMaps (open_string shut_string)

theorem closed : joinedFacts Try.pinned.checked.prog 4 Try.f4 Rows.surdMakesSpec Rows.surdMakesRow = true := by
  unfold joinedFacts
  rw [show Try.pinned.checked.prog.mayEnter = true from jn_enter, show (Rows.surdMakesRow.lifted == Try.pinned.checked.prog.liftsFinal) = true from jn_lift, show (Try.pinned.checked.prog.make == some Rows.surdMakesRow.make) = true from jn_make,
    show laidOutB Try.pinned.checked.prog = true from jn_laid, show mapsRowed Try.pinned.checked.prog = true from jn_maps]
  kernel_rfl

set_option maxRecDepth 100000 in
theorem lifted (os : Os) (started : os.Started) (H : Type) (enc : TypeId × Value → H) :
    ReturnsInHanded {} Try.checked os 4 .any (Rows.surdMakesSpec.pre6 enc Try.prog Try.f4 Rows.surdMakesRow.domain false) (Rows.surdMakesSpec.post enc Try.prog Try.f4 false true false false) := by
  refine returnsInHanded_of_change (C := Try.checked) jn_own started (by kernel_rfl) Try.func4
    (ChangeSpec.witness6 (enc := enc) (C := Try.checked) false ⟨#[], #[.int .i64 0, .int .i64 0, .slice none 0 0], []⟩ 8 (by kernel_rfl) (by kernel_rfl) (by kernel_rfl) (by kernel_rfl)) ?_
  intro W base args ds gs before hval0 hW hcnd _
  have hval : ∀ (j : Nat) t v, Try.f4.params[j]? = some t → args[j]? = some v → Value.okWide Try.prog W .any base t v := hval0
  have hW' := hW
  obtain ⟨p, q, hA0, hV, rfl, hfz, hnd⟩ := hW
  have hA : DataW.TrodAll enc Try.prog W 0 (fun _ => true) true Try.f4.params.toList args.toList ds p := hA0
  have hK := hA
  rw [Try.params4] at hA hval hK
  obtain ⟨v0, vs0, d0, ds0, p0, q0, hargs, rfl, rfl, h0, r0⟩ := trodAll_cons hA
  obtain ⟨v1, vs1, d1, ds1, p1, q1, rfl, rfl, rfl, h1, r1⟩ := trodAll_cons r0
  obtain ⟨v2, vs2, d2, ds2, p2, q2, rfl, rfl, rfl, h2, r2⟩ := trodAll_cons r1
  obtain ⟨rfl, rfl, rfl⟩ := trodAll_nil r2
  obtain rfl : args = #[v0, v1, v2] := by cases args; simp_all
  obtain ⟨rfl, rfl⟩ := trodVars_none hV
  obtain ⟨a0, rfl, rfl, rfl, w0⟩ := open_int Try.underlying3 (hval 0 3 v0 rfl rfl) h0
  obtain ⟨a1, rfl, rfl, rfl, w1⟩ := open_int Try.underlying3 (hval 1 3 v1 rfl rfl) h1
  obtain ⟨ao2, n2, c2, hv2⟩ := okWide_slice Try.underlying52 (hval 2 52 v2 rfl rfl)
  obtain ⟨a2, e2, w2, q2, g2⟩ := row_ints Try.underlying52 Try.underlying3 (by kernel_rfl) hv2 h2
  subst hv2
  clear hA0 hval0
  simp only [List.append_nil] at hW' hK
  refine (law_calls' (p_surdMakes a0 w0 a1 w1 ao2 n2 c2 a2 e2 w2 q2) W (Holds.cons g2 (Holds.nil _ _))).mono fun e W' ⟨he, hg⟩ => ?_
  subst he
  exact ⟨_, rfl, law_post hW' rfl (fun _ _ _ => (trodAll_cons_mk (shut_bool Try.underlying4 _) trodAll_mk0)) (fun sp hsp => trodAll_stays jn_laid hg (by kernel_rfl) hK (fun x hx => hW'.lt x (by first | exact hx | simpa using hx)) (fun x hx => hsp x (by first | exact hx | simpa using hx))) rfl hg⟩

theorem over : Rows.surdMakesRow.holds Try.pinned (OpenSpec.ofChange Rows.surdMakesSpec) :=
  OpenClaim.holds_of_wide 4 Try.f4 rfl rfl rfl rfl rfl rfl rfl ⟨rfl, rfl, rfl, rfl, rfl⟩ rfl rfl rfl rfl rfl (by kernel_rfl) Try.func4 closed
    (of_decide_eq_true (by kernel_rfl)) (by unfold Func.isWrapper; first | (rw [if_pos (by decide +kernel)]; kernel_rfl) | (rw [if_neg (by decide +kernel)]; exact ⟨rfl, rfl⟩))
    (fun os started H enc _ => lifted os started H enc)
end Go.Proofs.Ytcldhekediegdaa.surdMakes
namespace Go.Proofs.Ytcldhekediegdaa

/-- The statement. -/
theorem surdMakes_holds : Rows.SurdMakesSaid := surdMakes.over
end Go.Proofs.Ytcldhekediegdaa
