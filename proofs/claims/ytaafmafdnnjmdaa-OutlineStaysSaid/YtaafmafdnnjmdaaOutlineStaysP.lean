
/- Points that lie straight on change nothing. -/
import Derived.Test.YtaafmafdnnjmdaaRows
import Derived.Test.YtaafmafdnnjmdaaOm
import Derived.Test.YtaafmafdnnjmdaaPv
import Derived.Test.YtaafmafdnnjmdaaLawZ
import Derived.Test.YtaafmafdnnjmdaaVs
import Derived.Test.YtaafmafdnnjmdaaJn
set_option linter.unusedSimpArgs false
set_option linter.unusedVariables false
namespace Go.Proofs.Ytaafmafdnnjmdaa
open Go.RowKit Go.IntWalk
structure RSt where
  i : Nat
  z : Int
  v : Value
  O : List (Nat × List Value)
  q : List Dp
structure RS2 where
  i : Nat
  z : Int
  v : Value
  O : List (Nat × List Value)
  q : List Dp
  v2 : Value
  O2 : List (Nat × List Value)
theorem alike_of {la lb : List PlE} (h : la.map PlE.num = lb.map PlE.num) : ∀ (i : Nat) (x y : PlE), la[i]? = some x → lb[i]? = some y → Alike x.X y.X ∧ Alike x.Y y.Y := fun i x y hx hy => by
  have e1 : (la.map PlE.num)[i]? = some x.num := by rw [List.getElem?_map, hx]; rfl
  rw [h, List.getElem?_map, hy] at e1
  simp only [Option.map_some, Option.some.injEq] at e1
  exact ⟨Alike.rfl' (congrArg Prod.fst e1).symm, Alike.rfl' (congrArg Prod.snd e1).symm⟩
theorem own_ad {z n : Nat} {O : List (Nat × List Value)} {v : Value} {xs : List Value} (hg : Grow z O v n xs) : ∀ a1 c1', v = .slice a1 n c1' → 0 < n → ∃ b off, a1 = some ⟨b, off, none⟩ := fun a1 c1' hv h => by
  obtain ⟨g, cap, cur, hv2, _⟩ := hg.own h
  rw [hv] at hv2
  injection hv2 with h1 _ _
  exact ⟨g, 0, h1⟩
set_option maxHeartbeats 8000000 in
theorem p_outlineStays (ao : Option Addr) (n c : Nat) (pts : List Dp) (hn : n = pts.length) (hc : n ≤ c) (hpw : ∀ p ∈ pts, (Lit.int .i64 p.x).wf = true ∧ (Lit.int .i64 p.y).wf = true) (width kind bg en : Int) (ww : (Lit.int .i64 width).wf = true) (wk : (Lit.int .i64 kind).wf = true) (wb : (Lit.int .i64 bg).wf = true) (we : (Lit.int .i64 en).wf = true)
    (aat : Int) (wa : (Lit.int .i64 aat).wf = true) (times : Int) (wt : (Lit.int .i64 times).wf = true) :
    PCalls tb Try.prog 4 [.agg #[.slice ao n c, .int .i64 width, .int .i64 kind, .int .i64 bg, .int .i64 en], .int .i64 aat, .int .i64 times] [RA ao (pts.flatMap dpc)] (IsV (.bool true)) := by
  obtain ⟨ps, hps⟩ : ∃ ps, ps = pts.take 12 := ⟨_, rfl⟩
  have hpl : ps.length ≤ 12 := by rw [hps, List.length_take]; omega
  obtain ⟨w1, hw1⟩ : ∃ w1, min width 1000000 = w1 := ⟨_, rfl⟩
  obtain ⟨b1, hb1⟩ : ∃ b1, bg.tmod 1000000 = b1 := ⟨_, rfl⟩
  obtain ⟨e1, he1⟩ : ∃ e1, en.tmod 1000000 = e1 := ⟨_, rfl⟩
  have hbb : -1000000 ≤ b1 ∧ b1 ≤ 1000000 := by
    have := Int.lt_tmod_of_pos bg (show (0 : Int) < 1000000 by decide)
    have := Int.tmod_lt_of_pos bg (show (0 : Int) < 1000000 by decide)
    omega
  have hee : -1000000 ≤ e1 ∧ e1 ≤ 1000000 := by
    have := Int.lt_tmod_of_pos en (show (0 : Int) < 1000000 by decide)
    have := Int.tmod_lt_of_pos en (show (0 : Int) < 1000000 by decide)
    omega
  have hw1b : w1 ≤ 1000000 := by omega
  refine PCalls.of_W tbOk Try.func4 rfl (by kernel_rfl) ?_
  refine W.ad ao rfl (fun had => ?_)
  have hadn : 0 < ps.length → ∃ b off, ao = some ⟨b, off, none⟩ := fun h => had (dpc_ne (by rw [hps, List.length_take] at h; omega))
  clear had
  refine W.cl [] (by kernel_rfl) (p_olfewP ao n c pts ps width kind bg en hn hc hps) ?_
  rintro _ _ ⟨n1, c1, rfl, hn1, hc1, rfl⟩
  refine W.cl [] (by kernel_rfl) (p_olof ao n1 c1 ps width kind bg en hn1 (by omega) (fun h => hadn (by omega))) ?_
  rintro _ _ (⟨h0, rfl, rfl⟩ | ⟨h0, bl, ol, cl, l, rfl, hlc, hl, rfl⟩)
  · refine W.cl [] (by kernel_rfl) p_olknown ?_
    rintro _ _ ⟨rfl, rfl⟩
    refine W.dt [32] 36 (oerr ps width kind bg en != 0) (by kernel_rfl) (by simpa using h0) ?_
    refine W.cl [40, 36] (by kernel_rfl) p_olknown ?_
    rintro _ _ ⟨rfl, rfl⟩
    exact W.r [] (.bool true) (by kernel_rfl) ⟨rfl, rfl⟩ ent0
  refine W.cl [] (by kernel_rfl) p_olknown ?_
  rintro _ _ ⟨rfl, rfl⟩
  refine W.cl [36, 32] (by kernel_rfl) (p_olsmall ao n1 c1 ps width kind bg en 1000000 hn1 (by omega) (by omega)) ?_
  rintro _ _ ⟨rfl, rfl⟩
  by_cases hsm : ps.all (smallD 1000000) = true
  rotate_left
  · refine W.dt [36] 40 (!(ps.all (smallD 1000000))) (by kernel_rfl) (by simpa using hsm) ?_
    refine W.cl [40] (by kernel_rfl) p_olknown ?_
    rintro _ _ ⟨rfl, rfl⟩
    exact W.r [] (.bool true) (by kernel_rfl) ⟨rfl, rfl⟩ ent0
  refine W.df [36] 40 (!(ps.all (smallD 1000000))) (by kernel_rfl) (by rw [hsm]; rfl) ?_
  have hsmall : ∀ p ∈ ps, inD 1000000 p := fun p hp => smallD_spec (List.all_eq_true.1 hsm p hp)
  have hor := oerr_zero h0
  have hargs := argBad_good.1 hor.2.1
  have hps0 : 0 < ps.length := by
    have h1 := corn_len ps ([], [])
    have h2 : (corn ps).1.length ≤ ps.length := by simpa [corn] using h1
    omega
  have h0s : oerr ps w1 kind b1 e1 = 0 := oerr_zero_of ⟨hor.1, argBad_good.2 (by omega), hor.2.2.1, hor.2.2.2⟩
  have hz2 := oerr_dbl h0s hsmall hw1b hbb hee
  have hlle := places_le (corn ps).1.reverse (corn ps).2.reverse width kind bg en
  rw [← hl, List.length_map] at hlle
  have h8 := corn_le ps
  simp only [List.length_reverse] at hlle
  have ww2 : IntKind.i64.wrap (2 * w1) = 2 * w1 := by rw [IntKind.wrap_i64]; omega
  have wb2 : IntKind.i64.wrap (2 * b1) = 2 * b1 := by rw [IntKind.wrap_i64]; omega
  have we2 : IntKind.i64.wrap (2 * e1) = 2 * e1 := by rw [IntKind.wrap_i64]; omega
  have hget : ∀ i, i < n1 → ∃ p, ps[i]? = some p := fun i hi => ⟨_, List.getElem?_eq_getElem (by omega)⟩
  have hsg : ∀ (i : Nat) (p : Dp), ps[i]? = some p → inD 1000000 p := fun i p hp => hsmall p (by obtain ⟨_, rfl⟩ := List.getElem?_eq_some_iff.1 hp; exact List.getElem_mem _)
  obtain ⟨ba, oa, e⟩ := hadn hps0
  subst e
  obtain ⟨z5, hz5⟩ : ∃ z5, (IntKind.u64.wrap aat).tmod (IntKind.u64.wrap (n1 : Int)) = z5 := ⟨_, rfl⟩
  obtain ⟨z6, hz6⟩ : ∃ z6, (IntKind.u64.wrap times).tmod 3 = z6 := ⟨_, rfl⟩
  have hm3 : IntKind.i64.wrap (1 + IntKind.i64.wrap z6) ≤ 3 := by
    have := Int.lt_tmod_of_pos (IntKind.u64.wrap times) (show (0 : Int) < 3 by decide)
    have := Int.tmod_lt_of_pos (IntKind.u64.wrap times) (show (0 : Int) < 3 by decide)
    rw [IntKind.wrap_i64, IntKind.wrap_i64]
    omega
  refine W.remk [40] .u64 (IntKind.u64.wrap aat) (IntKind.u64.wrap (n1 : Int)) z5 (by kernel_rfl) (by rw [IntKind.wrap_u64]; omega) hz5 ?_
  refine W.remk [] .u64 (IntKind.u64.wrap times) 3 z6 (by kernel_rfl) (by decide) hz6 ?_
  refine W.lpo [] [12] (fun a : RSt => [(12, .int .i64 a.z)]) (fun a => [(11, [a.v, .int .i64 width, .int .i64 kind, .int .i64 bg, .int .i64 en])]) (fun a => a.O) (fun _ => [RA (some ⟨ba, oa, none⟩) (ps.flatMap dpc), OL PlR (some ⟨bl, ol, none⟩) (130, l)]) (fun a => a.z = a.i ∧ a.i ≤ n1 ∧ corn a.q = corn (ps.take a.i) ∧ a.q.length ≤ 4 * a.i ∧ (∀ p ∈ a.q, inD 1000000 p) ∧ Grow 2 a.O a.v a.q.length (a.q.flatMap dpc)) (fun a => n1 - a.i) ⟨0, 0, .slice none 0 0, [], []⟩ (by kernel_rfl) (by kernel_rfl) ⟨rfl, Nat.zero_le _, rfl, Nat.le_refl _, by simp, Grow.nil 2⟩ (entC entK (entC entK entE)) ?_
  rintro ⟨i, z, v, O, q⟩ K ⟨hz, hi, hcq, hql, hqs, hg⟩ close
  simp only at hz hi hcq hql hqs hg
  by_cases hlt : i < n1
  · obtain ⟨p, hp⟩ := hget i hlt
    have hpb := hsg i p hp
    have hcp := corn_take hp
    rw [← hcq] at hcp
    refine W.dt [] 61 (decide (z < (n1 : Int))) (by kernel_rfl) (decide_eq_true (by omega)) ?_
    refine W.ia [61] 2 ba oa n1 c1 .i64 i z hz tbOk (by kernel_rfl) hlt ?_
    refine W.lds [] ba (oa + i * 2) (dpc p) tbOk (by kernel_rfl) (RA.rdn ba oa (i * 2) (dp_atq hp)) ?_
    refine W.bs [] 1 (dpc p) tbOk (by kernel_rfl) (fun B => ?_)
    refine W.app [] O [] O [] 2 16 q.length 1 v (.slice (some ⟨B, 0, none⟩) 1 1) (q.flatMap dpc) (dpc p) tbOk (by kernel_rfl) (by simp) hg (reads_row B O 1 2 rfl 1) (dp_one _) (by omega) (by decide) (fun v' O' hg' => ?_)
    obtain ⟨g, cap, cur, hv, hO, _⟩ := hg'.own (by omega)
    subst hv hO
    refine W.lpo [] [13] (fun a : RSt => [(13, .int .i64 a.z)]) (fun a => [(11, [a.v, .int .i64 width, .int .i64 kind, .int .i64 bg, .int .i64 en])]) (fun a => a.O) (fun _ => [RA (some ⟨ba, oa, none⟩) (ps.flatMap dpc), OL PlR (some ⟨bl, ol, none⟩) (130, l)]) (fun a => a.z = a.i ∧ a.i ≤ 3 ∧ corn a.q = push (corn q) p ∧ a.q.length ≤ 4 * i + 1 + a.i ∧ (∀ p ∈ a.q, inD 1000000 p) ∧ Grow 2 a.O a.v a.q.length (a.q.flatMap dpc)) (fun a => 4 - a.i) ⟨0, 0, .slice (some ⟨g, 0, none⟩) (q.length + 1) cap, [(g, cur)], q ++ [p]⟩ (by kernel_rfl) (by simp only [List.nil_append, List.append_nil]; kernel_rfl) ⟨rfl, Nat.zero_le _, corn_snoc q p, by simp only [List.length_append, List.length_cons, List.length_nil]; omega, mem_snoc hqs hpb, Grow.cast (snoc_dp q p).symm (by simp) hg'⟩ (entC entK (entC entK entE)) ?_
    rintro ⟨j, y, v3, O3, q3⟩ K3 ⟨hy, hj, hcq3, hql3, hqs3, hg3⟩ close3
    simp only at hy hj hcq3 hql3 hqs3 hg3
    refine W.d [] 77 (z == IntKind.i64.wrap z5) (by kernel_rfl) (fun hk => ?_) (fun hk => ?_)
    · by_cases hjm : y < IntKind.i64.wrap (1 + IntKind.i64.wrap z6)
      · refine W.dt [77] 81 (decide (y < IntKind.i64.wrap (1 + IntKind.i64.wrap z6))) (by kernel_rfl) (decide_eq_true hjm) ?_
        refine W.ia [81] 2 ba oa n1 c1 .i64 i z hz tbOk (by kernel_rfl) hlt ?_
        refine W.lds [] ba (oa + i * 2) (dpc p) tbOk (by kernel_rfl) (RA.rdn ba oa (i * 2) (dp_atq hp)) ?_
        refine W.bs [] 1 (dpc p) tbOk (by kernel_rfl) (fun B => ?_)
        refine W.app [] O3 [] O3 [] 2 16 q3.length 1 v3 (.slice (some ⟨B, 0, none⟩) 1 1) (q3.flatMap dpc) (dpc p) tbOk (by kernel_rfl) (by simp) hg3 (reads_row B O3 1 2 rfl 1) (dp_one _) (by omega) (by decide) (fun v4 O4 hg4 => ?_)
        obtain ⟨g, cap, cur, hv, hO, _⟩ := hg4.own (by omega)
        subst hv hO
        exact close3 [] _ _ ⟨j + 1, IntKind.i64.wrap (y + 1), .slice (some ⟨g, 0, none⟩) (q3.length + 1) cap, [(g, cur)], q3 ++ [p]⟩ (by kernel_rfl) (by simp only [List.nil_append, List.append_nil]; kernel_rfl) ⟨by simp only [IntKind.wrap_i64]; omega, by simp only; omega, by simp only; rw [corn_snoc, hcq3, push_same], by simp only [List.length_append, List.length_cons, List.length_nil]; omega, mem_snoc hqs3 hpb, Grow.cast (snoc_dp q3 p).symm (by simp) hg4⟩ (by simp only; omega) (entC entK (entC entK entE))
      · refine W.df [77] 81 (decide (y < IntKind.i64.wrap (1 + IntKind.i64.wrap z6))) (by kernel_rfl) (decide_eq_false hjm) ?_
        exact close [81] _ _ ⟨i + 1, IntKind.i64.wrap (z + 1), v3, O3, q3⟩ (by kernel_rfl) (by kernel_rfl) ⟨by simp only [IntKind.wrap_i64]; omega, hlt, by simp only; rw [hcq3, hcp], by simp only; omega, hqs3, hg3⟩ (by simp only; omega) (entC entK (entC entK entE))
    · exact close [81, 77] _ _ ⟨i + 1, IntKind.i64.wrap (z + 1), v3, O3, q3⟩ (by kernel_rfl) (by kernel_rfl) ⟨by simp only [IntKind.wrap_i64]; omega, hlt, by simp only; rw [hcq3, hcp], by simp only; omega, hqs3, hg3⟩ (by simp only; omega) (entC entK (entC entK entE))
  obtain rfl : i = n1 := by omega
  have hall : ps.take i = ps := List.take_of_length_le (by omega)
  rw [hall] at hcq
  refine W.pubgs (O1 := O) (O2 := []) (List.append_nil _).symm hg rfl (fun a1 c1' h1 => ?_)
  have ha1 := own_ad hg a1 c1' h1
  subst h1
  refine W.df [] 61 (decide (z < (i : Int))) (by kernel_rfl) (decide_eq_false (by omega)) ?_
  refine W.cl [61] (by kernel_rfl) (p_olof a1 q.length c1' q width kind bg en rfl (by omega) ha1) ?_
  rintro _ _ (⟨h0', rfl, rfl⟩ | ⟨h0', bm, om, cm, l2, rfl, hlc2, hl2, rfl⟩)
  · exact absurd (oerr_like h0 hcq (by omega) hqs (by decide)) h0'
  rw [hcq, ← hl] at hl2
  have hlen2 : l2.length = l.length := by
    have := num_len hl2
    simpa using this
  refine W.mn [] .i64 width 1000000 w1 (by kernel_rfl) hw1 ?_
  refine W.rem [] bg 1000000 b1 (by kernel_rfl) (by decide) hb1 ?_
  refine W.rem [] en 1000000 e1 (by kernel_rfl) (by decide) he1 ?_
  refine W.lpo [] [18] (fun a : RS2 => [(18, .int .i64 a.z)]) (fun a => [(16, [a.v, .int .i64 (IntKind.i64.wrap (2 * w1)), .int .i64 kind, .int .i64 (IntKind.i64.wrap (2 * b1)), .int .i64 (IntKind.i64.wrap (2 * e1))]), (17, [a.v2, .int .i64 (IntKind.i64.wrap (2 * w1)), .int .i64 kind, .int .i64 (IntKind.i64.wrap (2 * b1)), .int .i64 (IntKind.i64.wrap (2 * e1))])]) (fun a => a.O ++ a.O2) (fun _ => [RA (some ⟨ba, oa, none⟩) (ps.flatMap dpc), OL PlR (some ⟨bl, ol, none⟩) (130, l), OL PlR (some ⟨bm, om, none⟩) (130, l2)]) (fun a => a.z = a.i ∧ a.i ≤ i ∧ corn a.q = corn ((ps.take a.i).map dblD) ∧ a.q.length ≤ 2 * a.i ∧ (∀ p ∈ a.q, inD 2000000 p) ∧ Grow 2 a.O a.v a.q.length (a.q.flatMap dpc) ∧ Grow 2 a.O2 a.v2 a.i (((ps.take a.i).map dblD).flatMap dpc)) (fun a => i - a.i) ⟨0, 0, .slice none 0 0, [], [], .slice none 0 0, []⟩ (by kernel_rfl) (by kernel_rfl) ⟨rfl, Nat.zero_le _, rfl, Nat.le_refl _, by simp, Grow.nil 2, Grow.nil 2⟩ (entC entK (entC entK (entC entK entE))) ?_
  rintro ⟨k, y, v, O, qr, v2, O2⟩ K2 ⟨hy, hk, hcr, hrl, hrs, hgr, hgs⟩ close
  simp only at hy hk hcr hrl hrs hgr hgs
  by_cases hlt : k < i
  · obtain ⟨p, hp⟩ := hget k hlt
    have hpb := hsg k p hp
    have hcp := corn_taked hp
    have hw : (⟨IntKind.i64.wrap (2 * p.x), IntKind.i64.wrap (2 * p.y)⟩ : Dp) = dblD p := by
      unfold inD at hpb
      refine Dp.eq_iff.2 ⟨?_, ?_⟩ <;> (simp only [dblD, IntKind.wrap_i64]; omega)
    have hdb : inD 2000000 (dblD p) := by unfold inD dblD at *; simp only; omega
    refine W.dt [] 121 (decide (y < (i : Int))) (by kernel_rfl) (decide_eq_true (by omega)) ?_
    by_cases hk0 : 0 < k
    · obtain ⟨a, ha⟩ := hget (k - 1) (by omega)
      have hab := hsg _ a ha
      have hca := corn_taked ha
      rw [Nat.sub_add_cancel hk0] at hca
      have hwm : (⟨IntKind.i64.wrap (p.x + a.x), IntKind.i64.wrap (p.y + a.y)⟩ : Dp) = midD a p := by
        unfold inD at hpb hab
        refine Dp.eq_iff.2 ⟨?_, ?_⟩ <;> (simp only [midD, IntKind.wrap_i64]; omega)
      have hmb : inD 2000000 (midD a p) := by unfold inD midD at *; simp only; omega
      refine W.dt [121] 125 (decide (y > 0)) (by kernel_rfl) (decide_eq_true (by omega)) ?_
      refine W.ia [125] 2 ba oa i c1 .i64 k y hy tbOk (by kernel_rfl) hlt ?_
      refine W.fa [] 0 ba (oa + k * 2) tbOk (by kernel_rfl) ?_
      refine W.ld [] 1 ba (oa + k * 2 + 0) (.int .i64 p.x) tbOk (by kernel_rfl) (fun I w hI hh => RA.rdn ba oa (k * 2) (dp_atq hp) I w hI hh 0 _ rfl) ?_
      refine W.ia [] 2 ba oa i c1 .i64 (k - 1) (IntKind.i64.wrap (y - 1)) (by rw [IntKind.wrap_i64]; omega) tbOk (by kernel_rfl) (by omega) ?_
      refine W.fa [] 0 ba (oa + (k - 1) * 2) tbOk (by kernel_rfl) ?_
      refine W.ld [] 1 ba (oa + (k - 1) * 2 + 0) (.int .i64 a.x) tbOk (by kernel_rfl) (fun I w hI hh => RA.rdn ba oa ((k - 1) * 2) (dp_atq ha) I w hI hh 0 _ rfl) ?_
      refine W.ia [] 2 ba oa i c1 .i64 k y hy tbOk (by kernel_rfl) hlt ?_
      refine W.fa [] 1 ba (oa + k * 2) tbOk (by kernel_rfl) ?_
      refine W.ld [] 1 ba (oa + k * 2 + 1) (.int .i64 p.y) tbOk (by kernel_rfl) (fun I w hI hh => RA.rdn ba oa (k * 2) (dp_atq hp) I w hI hh 1 _ rfl) ?_
      refine W.ia [] 2 ba oa i c1 .i64 (k - 1) (IntKind.i64.wrap (y - 1)) (by rw [IntKind.wrap_i64]; omega) tbOk (by kernel_rfl) (by omega) ?_
      refine W.fa [] 1 ba (oa + (k - 1) * 2) tbOk (by kernel_rfl) ?_
      refine W.ld [] 1 ba (oa + (k - 1) * 2 + 1) (.int .i64 a.y) tbOk (by kernel_rfl) (fun I w hI hh => RA.rdn ba oa ((k - 1) * 2) (dp_atq ha) I w hI hh 1 _ rfl) ?_
      refine W.bs [] 1 (dpc ⟨IntKind.i64.wrap (p.x + a.x), IntKind.i64.wrap (p.y + a.y)⟩) tbOk (by kernel_rfl) (fun B => ?_)
      refine W.app [] (O ++ O2) [] O O2 2 16 qr.length 1 v (.slice (some ⟨B, 0, none⟩) 1 1) (qr.flatMap dpc) (dpc ⟨IntKind.i64.wrap (p.x + a.x), IntKind.i64.wrap (p.y + a.y)⟩) tbOk (by kernel_rfl) (by simp) hgr (reads_row B (O ++ O2) 1 2 rfl 1) (dp_one _) (by omega) (by decide) (fun v4 O4 hg4 => ?_)
      obtain ⟨g4, cap4, cur4, hv, hO, _⟩ := hg4.own (by omega)
      subst hv hO
      refine W.ia [] 2 ba oa i c1 .i64 k y hy tbOk (by kernel_rfl) hlt ?_
      refine W.fa [] 0 ba (oa + k * 2) tbOk (by kernel_rfl) ?_
      refine W.ld [] 1 ba (oa + k * 2 + 0) (.int .i64 p.x) tbOk (by kernel_rfl) (fun I w hI hh => RA.rdn ba oa (k * 2) (dp_atq hp) I w hI hh 0 _ rfl) ?_
      refine W.ia [] 2 ba oa i c1 .i64 k y hy tbOk (by kernel_rfl) hlt ?_
      refine W.fa [] 1 ba (oa + k * 2) tbOk (by kernel_rfl) ?_
      refine W.ld [] 1 ba (oa + k * 2 + 1) (.int .i64 p.y) tbOk (by kernel_rfl) (fun I w hI hh => RA.rdn ba oa (k * 2) (dp_atq hp) I w hI hh 1 _ rfl) ?_
      refine W.bs [] 1 (dpc ⟨IntKind.i64.wrap (2 * p.x), IntKind.i64.wrap (2 * p.y)⟩) tbOk (by kernel_rfl) (fun B5 => ?_)
      refine W.app [] ([] ++ [(g4, cur4)] ++ O2) [] [(g4, cur4)] O2 2 16 (qr.length + 1) 1 (.slice (some ⟨g4, 0, none⟩) (qr.length + 1) cap4) (.slice (some ⟨B5, 0, none⟩) 1 1) (qr.flatMap dpc ++ dpc ⟨IntKind.i64.wrap (p.x + a.x), IntKind.i64.wrap (p.y + a.y)⟩) (dpc ⟨IntKind.i64.wrap (2 * p.x), IntKind.i64.wrap (2 * p.y)⟩) tbOk (by kernel_rfl) (by simp) hg4 (reads_row B5 ([] ++ [(g4, cur4)] ++ O2) 1 2 rfl 1) (dp_one _) (by omega) (by decide) (fun v5 O5 hg5 => ?_)
      obtain ⟨g5, cap5, cur5, hv, hO, _⟩ := hg5.own (by omega)
      subst hv hO
      refine W.ia [] 2 ba oa i c1 .i64 k y hy tbOk (by kernel_rfl) hlt ?_
      refine W.fa [] 0 ba (oa + k * 2) tbOk (by kernel_rfl) ?_
      refine W.ld [] 1 ba (oa + k * 2 + 0) (.int .i64 p.x) tbOk (by kernel_rfl) (fun I w hI hh => RA.rdn ba oa (k * 2) (dp_atq hp) I w hI hh 0 _ rfl) ?_
      refine W.ia [] 2 ba oa i c1 .i64 k y hy tbOk (by kernel_rfl) hlt ?_
      refine W.fa [] 1 ba (oa + k * 2) tbOk (by kernel_rfl) ?_
      refine W.ld [] 1 ba (oa + k * 2 + 1) (.int .i64 p.y) tbOk (by kernel_rfl) (fun I w hI hh => RA.rdn ba oa (k * 2) (dp_atq hp) I w hI hh 1 _ rfl) ?_
      refine W.bs [] 1 (dpc ⟨IntKind.i64.wrap (2 * p.x), IntKind.i64.wrap (2 * p.y)⟩) tbOk (by kernel_rfl) (fun B6 => ?_)
      refine W.app [] ([] ++ [(g5, cur5)] ++ O2) [(g5, cur5)] O2 [] 2 16 k 1 v2 (.slice (some ⟨B6, 0, none⟩) 1 1) (((ps.take k).map dblD).flatMap dpc) (dpc ⟨IntKind.i64.wrap (2 * p.x), IntKind.i64.wrap (2 * p.y)⟩) tbOk (by kernel_rfl) (by simp) hgs (reads_row B6 ([] ++ [(g5, cur5)] ++ O2) 1 2 rfl 1) (dp_one _) (by omega) (by decide) (fun v6 O6 hg6 => ?_)
      obtain ⟨g6, cap6, cur6, hv, hO, _⟩ := hg6.own (by omega)
      subst hv hO
      exact close [] _ _ ⟨k + 1, IntKind.i64.wrap (y + 1), .slice (some ⟨g5, 0, none⟩) (qr.length + 1 + 1) cap5, [(g5, cur5)], qr ++ [midD a p] ++ [dblD p], .slice (some ⟨g6, 0, none⟩) (k + 1) cap6, [(g6, cur6)]⟩ (by kernel_rfl) (by simp only [List.nil_append, List.append_nil]; kernel_rfl) ⟨by simp only [IntKind.wrap_i64]; omega, hlt, by simp only; rw [corn_snoc, corn_snoc, hcr, hca, push_mid, ← hca, hcp], by simp only [List.length_append, List.length_cons, List.length_nil]; omega, mem_snoc (mem_snoc hrs hmb) hdb, Grow.cast (by rw [snoc_dp, snoc_dp, hw, hwm]) (by simp) hg5, Grow.cast (by rw [take_dp hp dblD, hw]) rfl hg6⟩ (by simp only; omega) (entC entK (entC entK (entC entK entE)))
    · refine W.df [121] 125 (decide (y > 0)) (by kernel_rfl) (decide_eq_false (by omega)) ?_
      refine W.ia [125] 2 ba oa i c1 .i64 k y hy tbOk (by kernel_rfl) hlt ?_
      refine W.fa [] 0 ba (oa + k * 2) tbOk (by kernel_rfl) ?_
      refine W.ld [] 1 ba (oa + k * 2 + 0) (.int .i64 p.x) tbOk (by kernel_rfl) (fun I w hI hh => RA.rdn ba oa (k * 2) (dp_atq hp) I w hI hh 0 _ rfl) ?_
      refine W.ia [] 2 ba oa i c1 .i64 k y hy tbOk (by kernel_rfl) hlt ?_
      refine W.fa [] 1 ba (oa + k * 2) tbOk (by kernel_rfl) ?_
      refine W.ld [] 1 ba (oa + k * 2 + 1) (.int .i64 p.y) tbOk (by kernel_rfl) (fun I w hI hh => RA.rdn ba oa (k * 2) (dp_atq hp) I w hI hh 1 _ rfl) ?_
      refine W.bs [] 1 (dpc ⟨IntKind.i64.wrap (2 * p.x), IntKind.i64.wrap (2 * p.y)⟩) tbOk (by kernel_rfl) (fun B5 => ?_)
      refine W.app [] (O ++ O2) [] O O2 2 16 qr.length 1 v (.slice (some ⟨B5, 0, none⟩) 1 1) (qr.flatMap dpc) (dpc ⟨IntKind.i64.wrap (2 * p.x), IntKind.i64.wrap (2 * p.y)⟩) tbOk (by kernel_rfl) (by simp) hgr (reads_row B5 (O ++ O2) 1 2 rfl 1) (dp_one _) (by omega) (by decide) (fun v5 O5 hg5 => ?_)
      obtain ⟨g5, cap5, cur5, hv, hO, _⟩ := hg5.own (by omega)
      subst hv hO
      refine W.ia [] 2 ba oa i c1 .i64 k y hy tbOk (by kernel_rfl) hlt ?_
      refine W.fa [] 0 ba (oa + k * 2) tbOk (by kernel_rfl) ?_
      refine W.ld [] 1 ba (oa + k * 2 + 0) (.int .i64 p.x) tbOk (by kernel_rfl) (fun I w hI hh => RA.rdn ba oa (k * 2) (dp_atq hp) I w hI hh 0 _ rfl) ?_
      refine W.ia [] 2 ba oa i c1 .i64 k y hy tbOk (by kernel_rfl) hlt ?_
      refine W.fa [] 1 ba (oa + k * 2) tbOk (by kernel_rfl) ?_
      refine W.ld [] 1 ba (oa + k * 2 + 1) (.int .i64 p.y) tbOk (by kernel_rfl) (fun I w hI hh => RA.rdn ba oa (k * 2) (dp_atq hp) I w hI hh 1 _ rfl) ?_
      refine W.bs [] 1 (dpc ⟨IntKind.i64.wrap (2 * p.x), IntKind.i64.wrap (2 * p.y)⟩) tbOk (by kernel_rfl) (fun B6 => ?_)
      refine W.app [] ([] ++ [(g5, cur5)] ++ O2) [(g5, cur5)] O2 [] 2 16 k 1 v2 (.slice (some ⟨B6, 0, none⟩) 1 1) (((ps.take k).map dblD).flatMap dpc) (dpc ⟨IntKind.i64.wrap (2 * p.x), IntKind.i64.wrap (2 * p.y)⟩) tbOk (by kernel_rfl) (by simp) hgs (reads_row B6 ([] ++ [(g5, cur5)] ++ O2) 1 2 rfl 1) (dp_one _) (by omega) (by decide) (fun v6 O6 hg6 => ?_)
      obtain ⟨g6, cap6, cur6, hv, hO, _⟩ := hg6.own (by omega)
      subst hv hO
      exact close [] _ _ ⟨k + 1, IntKind.i64.wrap (y + 1), .slice (some ⟨g5, 0, none⟩) (qr.length + 1) cap5, [(g5, cur5)], qr ++ [dblD p], .slice (some ⟨g6, 0, none⟩) (k + 1) cap6, [(g6, cur6)]⟩ (by kernel_rfl) (by simp only [List.nil_append, List.append_nil]; kernel_rfl) ⟨by simp only [IntKind.wrap_i64]; omega, hlt, by simp only; rw [corn_snoc, hcr, hcp], by simp only [List.length_append, List.length_cons, List.length_nil]; omega, mem_snoc hrs hdb, Grow.cast (by rw [snoc_dp, hw]) (by simp) hg5, Grow.cast (by rw [take_dp hp dblD, hw]) rfl hg6⟩ (by simp only; omega) (entC entK (entC entK (entC entK entE)))
  · obtain rfl : k = i := by omega
    have hall2 : ps.take k = ps := List.take_of_length_le (by omega)
    rw [hall2] at hcr hgs
    refine W.pubgs (O1 := O) (O2 := O2) rfl hgr rfl (fun a1 c1' h1 => ?_)
    have ha1 := own_ad hgr a1 c1' h1
    subst h1
    refine W.pubgs (O1 := O2) (O2 := []) (List.append_nil _).symm hgs rfl (fun a2 c2' h2 => ?_)
    have ha2 := own_ad hgs a2 c2' h2
    subst h2
    refine W.df [] 121 (decide (y < (k : Int))) (by kernel_rfl) (decide_eq_false (by omega)) ?_
    refine W.cl [121] (by kernel_rfl) (p_olofW a1 qr.length c1' qr (2 * w1) kind (2 * b1) (2 * e1) (IntKind.i64.wrap (2 * w1)) (IntKind.i64.wrap (2 * b1)) (IntKind.i64.wrap (2 * e1)) ww2 wb2 we2 rfl (by omega) ha1) ?_
    rintro _ _ (⟨h0r, rfl, rfl⟩ | ⟨h0r, br, or', cr, lr, rfl, hlcr, hlr, rfl⟩)
    · exact absurd (oerr_like hz2 hcr (by omega) hrs (by decide)) h0r
    refine W.cl [] (by kernel_rfl) (p_olofW a2 k c2' (ps.map dblD) (2 * w1) kind (2 * b1) (2 * e1) (IntKind.i64.wrap (2 * w1)) (IntKind.i64.wrap (2 * b1)) (IntKind.i64.wrap (2 * e1)) ww2 wb2 we2 (by rw [List.length_map]; exact hn1) (by omega) ha2) ?_
    rintro _ _ (⟨h0s', rfl, rfl⟩ | ⟨h0s', bs, os, cs, ls, rfl, hlcs, hls, rfl⟩)
    · exact absurd hz2 h0s'
    rw [hcr, ← hls] at hlr
    have hlens : lr.length = ls.length := by
      have := num_len hlr
      simpa using this
    have hlles := places_le (corn (ps.map dblD)).1.reverse (corn (ps.map dblD)).2.reverse (2 * w1) kind (2 * b1) (2 * e1)
    rw [← hls, List.length_map] at hlles
    have h9 := corn_le (ps.map dblD)
    simp only [List.length_reverse, List.length_map] at hlles h9
    refine W.cl [212] (by kernel_rfl) (p_olsame (some ⟨bl, ol, none⟩) l.length cl l (some ⟨bm, om, none⟩) l2.length cm l2 rfl rfl hlen2.symm (by omega) (alike_of hl2.symm)) ?_
    rintro _ _ ⟨rfl, rfl⟩
    refine W.cl [225, 221, 217, 212] (by kernel_rfl) (p_olsame (some ⟨br, or', none⟩) lr.length cr lr (some ⟨bs, os, none⟩) ls.length cs ls rfl rfl hlens (by omega) (alike_of hlr)) ?_
    rintro _ _ ⟨rfl, rfl⟩
    exact W.r [225] (.bool true) (by kernel_rfl) ⟨rfl, rfl⟩ ent0

end Go.Proofs.Ytaafmafdnnjmdaa
namespace Go.Proofs.Ytaafmafdnnjmdaa.outlineStays
open Go.ChangeShapes Go.WideShapes Go.ChangeAt Go.RowKit
open Go.ChangeMaps (open_string shut_string)

theorem closed : joinedFacts Try.pinned.checked.prog 4 Try.f4 Rows.outlineStaysSpec Rows.outlineStaysRow = true := by
  unfold joinedFacts
  rw [show Try.pinned.checked.prog.mayEnter = true from jn_enter, show (Rows.outlineStaysRow.lifted == Try.pinned.checked.prog.liftsFinal) = true from jn_lift, show (Try.pinned.checked.prog.make == some Rows.outlineStaysRow.make) = true from jn_make,
    show laidOutB Try.pinned.checked.prog = true from jn_laid, show mapsRowed Try.pinned.checked.prog = true from jn_maps]
  kernel_rfl

set_option maxRecDepth 100000 in
set_option maxHeartbeats 2000000 in
theorem lifted (os : Os) (started : os.Started) (H : Type) (enc : TypeId × Value → H) :
    ReturnsInHanded {} Try.checked os 4 .any (Rows.outlineStaysSpec.pre6 enc Try.prog Try.f4 Rows.outlineStaysRow.domain false) (Rows.outlineStaysSpec.post enc Try.prog Try.f4 false true false false) := by
  refine returnsInHanded_of_change (C := Try.checked) jn_own started (by kernel_rfl) Try.func4
    (ChangeSpec.witness6 (enc := enc) (C := Try.checked) false ⟨#[], #[.agg #[.slice none 0 0, .int .i64 0, .int .i64 0, .int .i64 0, .int .i64 0], .int .i64 0, .int .i64 0], []⟩ 8 (by kernel_rfl) (by kernel_rfl) (by kernel_rfl) (by kernel_rfl)) ?_
  intro W base args ds gs before hval0 hW hcnd _
  have hval : ∀ (j : Nat) t v, Try.f4.params[j]? = some t → args[j]? = some v → Value.okWide Try.prog W .any base t v := hval0
  have hW' := hW
  obtain ⟨p, q, hA0, hV, rfl, hfz, hnd⟩ := hW
  have hA : DataW.TrodAll enc Try.prog W 0 (fun _ => true) true Try.f4.params.toList args.toList ds p := hA0
  have hK := hA
  rw [Try.params4] at hA hval hK
  obtain ⟨v0, vs0, d0, ds0, p0, q0, hargs, rfl, rfl, h0, r0⟩ := trodAll_cons hA
  obtain ⟨v1, vs1, d1, ds1, p1, q1, rfl, rfl, rfl, h1, r1⟩ := trodAll_cons r0
  obtain ⟨v2, vs2, d2, ds2, p2, q2, rfl, rfl, rfl, h2, r2⟩ := trodAll_cons r1
  obtain ⟨rfl, rfl, rfl⟩ := trodAll_nil r2
  obtain rfl : args = #[v0, v1, v2] := by cases args; simp_all
  obtain ⟨rfl, rfl⟩ := trodVars_none hV
  obtain ⟨ao0, n0, c0, a0, M0, N0, B0, E0, rfl, e0, hc0, hp0, wM0, wN0, wB0, wE0, g0⟩ := open_path Try.underlying36 (by kernel_rfl) ⟨rfl, rfl⟩ ⟨rfl, rfl⟩ ⟨rfl, rfl⟩ ⟨rfl, rfl⟩ ⟨rfl, rfl⟩ Try.underlying23 (by kernel_rfl) Try.underlying3 (by kernel_rfl) Try.underlying25 (by kernel_rfl) ⟨rfl, rfl⟩ ⟨rfl, rfl⟩ (hval 0 36 v0 rfl rfl) h0
  obtain ⟨a1, rfl, rfl, rfl, w1⟩ := open_int Try.underlying3 (hval 1 3 v1 rfl rfl) h1
  obtain ⟨a2, rfl, rfl, rfl, w2⟩ := open_int Try.underlying3 (hval 2 3 v2 rfl rfl) h2
  clear hA0 hval0
  simp only [List.append_nil] at hW' hK
  refine (law_calls' (p_outlineStays ao0 n0 c0 a0 e0 hc0 hp0 M0 N0 B0 E0 wM0 wN0 wB0 wE0 a1 w1 a2 w2) W (Holds.cons g0 (Holds.nil _ _))).mono fun e W' ⟨he, hg⟩ => ?_
  subst he
  exact ⟨_, rfl, law_post hW' rfl (fun _ _ _ => (trodAll_cons_mk (shut_bool Try.underlying4 _) trodAll_mk0)) (fun sp hsp => trodAll_stays jn_laid hg (by kernel_rfl) hK (fun x hx => hW'.lt x (by first | exact hx | simpa using hx)) (fun x hx => hsp x (by first | exact hx | simpa using hx))) rfl hg⟩

theorem over : Rows.outlineStaysRow.holds Try.pinned (OpenSpec.ofChange Rows.outlineStaysSpec) :=
  OpenClaim.holds_of_wide 4 Try.f4 rfl rfl rfl rfl rfl rfl rfl ⟨rfl, rfl, rfl, rfl, rfl⟩ rfl rfl rfl rfl rfl (by kernel_rfl) Try.func4 closed
    (of_decide_eq_true (by kernel_rfl)) (by unfold Func.isWrapper; first | (rw [if_pos (by decide +kernel)]; kernel_rfl) | (rw [if_neg (by decide +kernel)]; exact ⟨rfl, rfl⟩))
    (fun os started H enc _ => lifted os started H enc)
end Go.Proofs.Ytaafmafdnnjmdaa.outlineStays
namespace Go.Proofs.Ytaafmafdnnjmdaa

/-- The statement. -/
theorem outlineStays_holds : Rows.OutlineStaysSaid := outlineStays.over
end Go.Proofs.Ytaafmafdnnjmdaa
