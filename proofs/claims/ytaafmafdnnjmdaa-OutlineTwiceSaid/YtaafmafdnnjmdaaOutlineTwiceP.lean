
/- A path that is twice as great. -/
import Derived.Test.YtaafmafdnnjmdaaRows
import Derived.Test.YtaafmafdnnjmdaaOm
import Derived.Test.YtaafmafdnnjmdaaLawZ
import Derived.Test.YtaafmafdnnjmdaaVs
import Derived.Test.YtaafmafdnnjmdaaJn
set_option linter.unusedSimpArgs false
set_option linter.unusedVariables false
namespace Go.Proofs.Ytaafmafdnnjmdaa
open Go.RowKit Go.IntWalk
set_option maxHeartbeats 4000000 in
theorem p_outlineTwice (ao : Option Addr) (n c : Nat) (pts : List Dp) (hn : n = pts.length) (hc : n ≤ c) (hpw : ∀ p ∈ pts, (Lit.int .i64 p.x).wf = true ∧ (Lit.int .i64 p.y).wf = true) (width kind bg en : Int) (ww : (Lit.int .i64 width).wf = true) (wk : (Lit.int .i64 kind).wf = true) (wb : (Lit.int .i64 bg).wf = true) (we : (Lit.int .i64 en).wf = true) :
    PCalls tb Try.prog 5 [.agg #[.slice ao n c, .int .i64 width, .int .i64 kind, .int .i64 bg, .int .i64 en]] [RA ao (pts.flatMap dpc)] (IsV (.bool true)) := by
  obtain ⟨ps, hps⟩ : ∃ ps, ps = pts.take 12 := ⟨_, rfl⟩
  have hpl : ps.length ≤ 12 := by rw [hps, List.length_take]; omega
  obtain ⟨w1, hw1⟩ : ∃ w1, min width 1000000 = w1 := ⟨_, rfl⟩
  obtain ⟨b1, hb1⟩ : ∃ b1, bg.tmod 1000000 = b1 := ⟨_, rfl⟩
  obtain ⟨e1, he1⟩ : ∃ e1, en.tmod 1000000 = e1 := ⟨_, rfl⟩
  have hbb : -1000000 ≤ b1 ∧ b1 ≤ 1000000 := by
    have := Int.lt_tmod_of_pos bg (show (0 : Int) < 1000000 by decide)
    have := Int.tmod_lt_of_pos bg (show (0 : Int) < 1000000 by decide)
    omega
  have hee : -1000000 ≤ e1 ∧ e1 ≤ 1000000 := by
    have := Int.lt_tmod_of_pos en (show (0 : Int) < 1000000 by decide)
    have := Int.tmod_lt_of_pos en (show (0 : Int) < 1000000 by decide)
    omega
  have hw1b : w1 ≤ 1000000 := by omega
  refine PCalls.of_W tbOk Try.func5 rfl (by kernel_rfl) ?_
  refine W.ad ao rfl (fun had => ?_)
  have hadn : 0 < ps.length → ∃ b off, ao = some ⟨b, off, none⟩ := fun h => had (dpc_ne (by rw [hps, List.length_take] at h; omega))
  clear had
  refine W.cl [] (by kernel_rfl) (p_olfewP ao n c pts ps width kind bg en hn hc hps) ?_
  rintro _ _ ⟨n1, c1, rfl, hn1, hc1, rfl⟩
  refine W.mn [] .i64 width 1000000 w1 (by kernel_rfl) hw1 ?_
  refine W.rem [] bg 1000000 b1 (by kernel_rfl) (by decide) hb1 ?_
  refine W.rem [] en 1000000 e1 (by kernel_rfl) (by decide) he1 ?_
  refine W.cl [] (by kernel_rfl) (p_olof ao n1 c1 ps w1 kind b1 e1 hn1 (by omega) (fun h => hadn (by omega))) ?_
  rintro _ _ (⟨h0, rfl, rfl⟩ | ⟨h0, bl, ol, cl, l, rfl, hlc, hl, rfl⟩)
  · refine W.cl [] (by kernel_rfl) p_olknown ?_
    rintro _ _ ⟨rfl, rfl⟩
    refine W.dt [35] 39 (oerr ps w1 kind b1 e1 != 0) (by kernel_rfl) (by simpa using h0) ?_
    refine W.cl [43, 39] (by kernel_rfl) p_olknown ?_
    rintro _ _ ⟨rfl, rfl⟩
    exact W.r [] (.bool true) (by kernel_rfl) ⟨rfl, rfl⟩ ent0
  refine W.cl [] (by kernel_rfl) p_olknown ?_
  rintro _ _ ⟨rfl, rfl⟩
  refine W.cl [39, 35] (by kernel_rfl) (p_olsmall ao n1 c1 ps w1 kind b1 e1 1000000 hn1 (by omega) (by omega)) ?_
  rintro _ _ ⟨rfl, rfl⟩
  by_cases hsm : ps.all (smallD 1000000) = true
  rotate_left
  · refine W.dt [39] 43 (!(ps.all (smallD 1000000))) (by kernel_rfl) (by simpa using hsm) ?_
    refine W.cl [43] (by kernel_rfl) p_olknown ?_
    rintro _ _ ⟨rfl, rfl⟩
    exact W.r [] (.bool true) (by kernel_rfl) ⟨rfl, rfl⟩ ent0
  refine W.df [39] 43 (!(ps.all (smallD 1000000))) (by kernel_rfl) (by rw [hsm]; rfl) ?_
  have hsmall : ∀ p ∈ ps, inD 1000000 p := fun p hp => smallD_spec (List.all_eq_true.1 hsm p hp)
  have hor := oerr_zero h0
  have hw0 := (argBad_good.1 hor.2.1).2.1
  have ww2 : IntKind.i64.wrap (2 * w1) = 2 * w1 := by rw [IntKind.wrap_i64]; omega
  have wb2 : IntKind.i64.wrap (2 * b1) = 2 * b1 := by rw [IntKind.wrap_i64]; omega
  have we2 : IntKind.i64.wrap (2 * e1) = 2 * e1 := by rw [IntKind.wrap_i64]; omega
  refine W.lpo [43] [6] (fun a : QSt => [(6, .int .i64 a.z)]) (fun a => [(5, [a.v, .int .i64 (IntKind.i64.wrap (2 * w1)), .int .i64 kind, .int .i64 (IntKind.i64.wrap (2 * b1)), .int .i64 (IntKind.i64.wrap (2 * e1))])]) (fun a => a.O) (fun _ => [RA ao (ps.flatMap dpc), OL PlR (some ⟨bl, ol, none⟩) (130, l)]) (fun a => a.z = a.i ∧ a.i ≤ n1 ∧ Grow 2 a.O a.v a.i (((ps.take a.i).map dblD).flatMap dpc)) (fun a => n1 - a.i) ⟨0, 0, .slice none 0 0, []⟩ (by kernel_rfl) (by kernel_rfl) ⟨rfl, Nat.zero_le _, Grow.nil 2⟩ (entC entK (entC entK entE)) ?_
  rintro ⟨i, z, v, O⟩ K ⟨hz, hi, hg⟩ close
  simp only at hz hi hg
  by_cases hlt : i < n1
  · obtain ⟨p, hp⟩ : ∃ p, ps[i]? = some p := ⟨_, List.getElem?_eq_getElem (by omega)⟩
    have hpb := hsmall p (by obtain ⟨_, rfl⟩ := List.getElem?_eq_some_iff.1 hp; exact List.getElem_mem _)
    have hw : (⟨IntKind.i64.wrap (2 * p.x), IntKind.i64.wrap (2 * p.y)⟩ : Dp) = dblD p := by
      unfold inD at hpb
      refine Dp.eq_iff.2 ⟨?_, ?_⟩ <;> (simp only [dblD, IntKind.wrap_i64]; omega)
    obtain ⟨ba, oa, e⟩ := hadn (by omega)
    subst e
    refine W.dt [] 61 (decide (z < (n1 : Int))) (by kernel_rfl) (decide_eq_true (by omega)) ?_
    refine W.ia [61] 2 ba oa n1 c1 .i64 i z hz tbOk (by kernel_rfl) hlt ?_
    refine W.fa [] 0 ba (oa + i * 2) tbOk (by kernel_rfl) ?_
    refine W.ld [] 1 ba (oa + i * 2 + 0) (.int .i64 p.x) tbOk (by kernel_rfl) (fun I w hI hh => RA.rdn ba oa (i * 2) (dp_atq hp) I w hI hh 0 _ rfl) ?_
    refine W.ia [] 2 ba oa n1 c1 .i64 i z hz tbOk (by kernel_rfl) hlt ?_
    refine W.fa [] 1 ba (oa + i * 2) tbOk (by kernel_rfl) ?_
    refine W.ld [] 1 ba (oa + i * 2 + 1) (.int .i64 p.y) tbOk (by kernel_rfl) (fun I w hI hh => RA.rdn ba oa (i * 2) (dp_atq hp) I w hI hh 1 _ rfl) ?_
    refine W.bs [] 1 (dpc ⟨IntKind.i64.wrap (2 * p.x), IntKind.i64.wrap (2 * p.y)⟩) tbOk (by kernel_rfl) (fun B => ?_)
    refine W.app [] O [] O [] 2 16 i 1 v (.slice (some ⟨B, 0, none⟩) 1 1) (((ps.take i).map dblD).flatMap dpc) (dpc ⟨IntKind.i64.wrap (2 * p.x), IntKind.i64.wrap (2 * p.y)⟩) tbOk (by kernel_rfl) (by simp) hg (reads_row B O 1 2 rfl 1) (dp_one _) (by omega) (by decide) (fun v' O' hg' => ?_)
    obtain ⟨g, cap, cur, hv, hO, _⟩ := hg'.own (by omega)
    subst hv hO
    exact close [] _ _ ⟨i + 1, IntKind.i64.wrap (z + 1), .slice (some ⟨g, 0, none⟩) (i + 1) cap, [(g, cur)]⟩ (by kernel_rfl) (by simp only [List.nil_append, List.append_nil]; kernel_rfl) ⟨by simp only [IntKind.wrap_i64]; omega, hlt, Grow.cast (by rw [take_dp hp dblD, hw]) rfl hg'⟩ (by simp only; omega) (entC entK (entC entK entE))
  obtain rfl : i = n1 := by omega
  have hall : ps.take i = ps := List.take_of_length_le (by omega)
  rw [hall] at hg
  have ha1 : ∀ a1 c1', v = .slice a1 i c1' → 0 < i → ∃ b off, a1 = some ⟨b, off, none⟩ := fun a1 c1' hv h => by
    obtain ⟨g, cap, cur, hv2, _⟩ := hg.own h
    rw [hv] at hv2
    injection hv2 with h1 _ _
    exact ⟨g, 0, h1⟩
  refine W.pubgs (O1 := O) (O2 := []) (List.append_nil _).symm hg rfl (fun a1 c1' h1 => ?_)
  have ha2 := ha1 a1 c1' h1
  clear ha1
  subst h1
  refine W.df [] 61 (decide (z < (i : Int))) (by kernel_rfl) (decide_eq_false (by omega)) ?_
  refine W.cl [61] (by kernel_rfl) (p_olofW a1 i c1' (ps.map dblD) (2 * w1) kind (2 * b1) (2 * e1) (IntKind.i64.wrap (2 * w1)) (IntKind.i64.wrap (2 * b1)) (IntKind.i64.wrap (2 * e1)) ww2 wb2 we2 (by rw [List.length_map]; exact hn1) (by omega) ha2) ?_
  have hz2 := oerr_dbl h0 hsmall hw1b hbb hee
  rintro _ _ (⟨h0', rfl, rfl⟩ | ⟨h0', bm, om, cm, l2, rfl, hlc2, hl2, rfl⟩)
  · exact absurd hz2 h0'
  rw [corn_dbl] at hl2
  simp only [← List.map_reverse] at hl2
  rw [places_dbl, ← hl] at hl2
  have hlen2 : l2.length = l.length := by
    have := num_len hl2
    simpa using this
  refine W.df [91] 97 ((l2.length : Int) != (l.length : Int)) (by kernel_rfl) (by rw [hlen2]; simp) ?_
  refine W.lp [97] [9] (fun a : Nat × Int => [(9, .int .i64 a.2)]) (fun _ => []) (fun _ => [OL PlR (some ⟨bl, ol, none⟩) (130, l), OL PlR (some ⟨bm, om, none⟩) (130, l2)]) (fun a => a.2 = a.1 ∧ a.1 ≤ l.length) (fun a => l.length - a.1) (0, 0) (by kernel_rfl) (by kernel_rfl) ⟨rfl, Nat.zero_le _⟩ (entC entK (entC entK entE)) ?_
  rintro ⟨k, y⟩ K2 ⟨hy, hk⟩ close2
  simp only at hy hk
  subst hy
  by_cases hlt2 : k < l.length
  · obtain ⟨x, hx⟩ : ∃ x, l[k]? = some x := ⟨_, List.getElem?_eq_getElem hlt2⟩
    obtain ⟨y, hy⟩ : ∃ y, l2[k]? = some y := ⟨_, List.getElem?_eq_getElem (by omega)⟩
    have hxy : y.num = dblP x.num := by
      have e1 : (l2.map PlE.num)[k]? = some y.num := by rw [List.getElem?_map, hy]; rfl
      rw [hl2, List.getElem?_map, List.getElem?_map, hx] at e1
      simpa using e1.symm
    have hxX : x.X.add x.X = y.X := (congrArg Prod.fst hxy).symm
    have hxY : x.Y.add x.Y = y.Y := (congrArg Prod.snd hxy).symm
    have hwk : IntKind.i64.wrap ((k : Int) + 1) = ((k + 1 : Nat) : Int) := by
      have := places_le (corn ps).1.reverse (corn ps).2.reverse w1 kind b1 e1
      rw [← hl, List.length_map] at this
      have h8 := corn_le ps
      rw [IntKind.wrap_i64]
      simp only [List.length_reverse] at this
      omega
    refine W.elp (some ⟨bl, ol, none⟩) hx rfl (fun _ _ _ => ?_)
    refine W.dt [] 101 (decide ((k : Int) < (l.length : Int))) (by kernel_rfl) (decide_eq_true (by omega)) ?_
    refine W.ia [101] 40 bl ol l.length cl .i64 k k rfl tbOk (by kernel_rfl) hlt2 ?_
    refine W.fa [] 0 bl (ol + k * 40) tbOk (by kernel_rfl) ?_
    refine W.lds [] bl (ol + k * 40 + 0) (svc x.x) tbOk (by kernel_rfl) (OL.toldx hx) ?_
    refine W.ia [] 40 bl ol l.length cl .i64 k k rfl tbOk (by kernel_rfl) hlt2 ?_
    refine W.fa [] 0 bl (ol + k * 40) tbOk (by kernel_rfl) ?_
    refine W.lds [] bl (ol + k * 40 + 0) (svc x.x) tbOk (by kernel_rfl) (OL.toldx hx) ?_
    refine W.cl [] (by kernel_rfl) (p_xadd x.x (S := x.X) x.x (T := x.X) rfl rfl) ?_
    rintro _ _ ⟨X1, rfl, rfl⟩
    refine W.ia [] 40 bl ol l.length cl .i64 k k rfl tbOk (by kernel_rfl) hlt2 ?_
    refine W.fa [] 20 bl (ol + k * 40) tbOk (by kernel_rfl) ?_
    refine W.lds [] bl (ol + k * 40 + 20) (svc x.y) tbOk (by kernel_rfl) (OL.toldy hx) ?_
    refine W.ia [] 40 bl ol l.length cl .i64 k k rfl tbOk (by kernel_rfl) hlt2 ?_
    refine W.fa [] 20 bl (ol + k * 40) tbOk (by kernel_rfl) ?_
    refine W.lds [] bl (ol + k * 40 + 20) (svc x.y) tbOk (by kernel_rfl) (OL.toldy hx) ?_
    refine W.cl [] (by kernel_rfl) (p_xadd x.y (S := x.Y) x.y (T := x.Y) rfl rfl) ?_
    rintro _ _ ⟨Y1, rfl, rfl⟩
    refine W.sls [] 40 bm om l2.length cm (some (.int .i64 (k : Int))) (some (.int .i64 (IntKind.i64.wrap ((k : Int) + 1)))) k (k + 1) tbOk (by kernel_rfl) (.inl rfl) (.inl (by rw [hwk])) (by omega) (by omega) (by omega) ?_
    refine W.bs [] 1 (svc X1 ++ svc Y1) tbOk (by kernel_rfl) (fun B => ?_)
    refine W.cx [] (by kernel_rfl) (entC (entO2 (B := B) (x := X1) (y := Y1) (L' := 265) ⟨by omega, by omega⟩) (entC (entOsub (b := bm) (off := om) hy) entE)) (p_olsame (some ⟨B, 0, none⟩) 1 1 [⟨X1, Y1, x.X.add x.X, x.Y.add x.Y⟩] (some ⟨bm, om + k * 40, none⟩) (k + 1 - k) (cm - k) [y] rfl (by simp) (by omega) (by omega) (fun i a b ha hb => ?_)) ?_
    · cases i with
      | zero =>
        simp at ha hb
        subst ha hb
        exact ⟨Alike.rfl' hxX, Alike.rfl' hxY⟩
      | succ i => simp at ha
    rintro _ _ ⟨rfl, rfl⟩
    exact close2 [142] _ _ (k + 1, IntKind.i64.wrap ((k : Int) + 1)) (by kernel_rfl) (by kernel_rfl) ⟨hwk, hlt2⟩ (by simp only; omega) (entC entK (entC entK entE))
  · refine W.df [] 101 (decide ((k : Int) < (l.length : Int))) (by kernel_rfl) (decide_eq_false (by omega)) ?_
    exact W.r [101] (.bool true) (by kernel_rfl) ⟨rfl, rfl⟩ ent0

end Go.Proofs.Ytaafmafdnnjmdaa
namespace Go.Proofs.Ytaafmafdnnjmdaa.outlineTwice
open Go.ChangeShapes Go.WideShapes Go.ChangeAt Go.RowKit
open Go.ChangeMaps (open_string shut_string)

theorem closed : joinedFacts Try.pinned.checked.prog 5 Try.f5 Rows.outlineTwiceSpec Rows.outlineTwiceRow = true := by
  unfold joinedFacts
  rw [show Try.pinned.checked.prog.mayEnter = true from jn_enter, show (Rows.outlineTwiceRow.lifted == Try.pinned.checked.prog.liftsFinal) = true from jn_lift, show (Try.pinned.checked.prog.make == some Rows.outlineTwiceRow.make) = true from jn_make,
    show laidOutB Try.pinned.checked.prog = true from jn_laid, show mapsRowed Try.pinned.checked.prog = true from jn_maps]
  kernel_rfl

set_option maxRecDepth 100000 in
set_option maxHeartbeats 2000000 in
theorem lifted (os : Os) (started : os.Started) (H : Type) (enc : TypeId × Value → H) :
    ReturnsInHanded {} Try.checked os 5 .any (Rows.outlineTwiceSpec.pre6 enc Try.prog Try.f5 Rows.outlineTwiceRow.domain false) (Rows.outlineTwiceSpec.post enc Try.prog Try.f5 false true false false) := by
  refine returnsInHanded_of_change (C := Try.checked) jn_own started (by kernel_rfl) Try.func5
    (ChangeSpec.witness6 (enc := enc) (C := Try.checked) false ⟨#[], #[.agg #[.slice none 0 0, .int .i64 0, .int .i64 0, .int .i64 0, .int .i64 0]], []⟩ 8 (by kernel_rfl) (by kernel_rfl) (by kernel_rfl) (by kernel_rfl)) ?_
  intro W base args ds gs before hval0 hW hcnd _
  have hval : ∀ (j : Nat) t v, Try.f5.params[j]? = some t → args[j]? = some v → Value.okWide Try.prog W .any base t v := hval0
  have hW' := hW
  obtain ⟨p, q, hA0, hV, rfl, hfz, hnd⟩ := hW
  have hA : DataW.TrodAll enc Try.prog W 0 (fun _ => true) true Try.f5.params.toList args.toList ds p := hA0
  have hK := hA
  rw [Try.params5] at hA hval hK
  obtain ⟨v0, vs0, d0, ds0, p0, q0, hargs, rfl, rfl, h0, r0⟩ := trodAll_cons hA
  obtain ⟨rfl, rfl, rfl⟩ := trodAll_nil r0
  obtain rfl : args = #[v0] := by cases args; simp_all
  obtain ⟨rfl, rfl⟩ := trodVars_none hV
  obtain ⟨ao0, n0, c0, a0, M0, N0, B0, E0, rfl, e0, hc0, hp0, wM0, wN0, wB0, wE0, g0⟩ := open_path Try.underlying36 (by kernel_rfl) ⟨rfl, rfl⟩ ⟨rfl, rfl⟩ ⟨rfl, rfl⟩ ⟨rfl, rfl⟩ ⟨rfl, rfl⟩ Try.underlying23 (by kernel_rfl) Try.underlying3 (by kernel_rfl) Try.underlying25 (by kernel_rfl) ⟨rfl, rfl⟩ ⟨rfl, rfl⟩ (hval 0 36 v0 rfl rfl) h0
  clear hA0 hval0
  simp only [List.append_nil] at hW' hK
  refine (law_calls' (p_outlineTwice ao0 n0 c0 a0 e0 hc0 hp0 M0 N0 B0 E0 wM0 wN0 wB0 wE0) W (Holds.cons g0 (Holds.nil _ _))).mono fun e W' ⟨he, hg⟩ => ?_
  subst he
  exact ⟨_, rfl, law_post hW' rfl (fun _ _ _ => (trodAll_cons_mk (shut_bool Try.underlying4 _) trodAll_mk0)) (fun sp hsp => trodAll_stays jn_laid hg (by kernel_rfl) hK (fun x hx => hW'.lt x (by first | exact hx | simpa using hx)) (fun x hx => hsp x (by first | exact hx | simpa using hx))) rfl hg⟩

theorem over : Rows.outlineTwiceRow.holds Try.pinned (OpenSpec.ofChange Rows.outlineTwiceSpec) :=
  OpenClaim.holds_of_wide 5 Try.f5 rfl rfl rfl rfl rfl rfl rfl ⟨rfl, rfl, rfl, rfl, rfl⟩ rfl rfl rfl rfl rfl (by kernel_rfl) Try.func5 closed
    (of_decide_eq_true (by kernel_rfl)) (by unfold Func.isWrapper; first | (rw [if_pos (by decide +kernel)]; kernel_rfl) | (rw [if_neg (by decide +kernel)]; exact ⟨rfl, rfl⟩))
    (fun os started H enc _ => lifted os started H enc)
end Go.Proofs.Ytaafmafdnnjmdaa.outlineTwice
namespace Go.Proofs.Ytaafmafdnnjmdaa

/-- The statement. -/
theorem outlineTwice_holds : Rows.OutlineTwiceSaid := outlineTwice.over
end Go.Proofs.Ytaafmafdnnjmdaa
