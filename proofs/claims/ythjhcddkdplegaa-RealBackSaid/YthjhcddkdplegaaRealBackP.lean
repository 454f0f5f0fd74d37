
/- What is decoded is encoded again by bytes that mean the same. -/
import Derived.Test.YthjhcddkdplegaaRows
import Derived.Test.YthjhcddkdplegaaRo
import Derived.Test.YthjhcddkdplegaaLawZ
import Derived.Test.YthjhcddkdplegaaVs
import Derived.Test.YthjhcddkdplegaaJn
set_option linter.unusedSimpArgs false
set_option linter.unusedVariables false
namespace Go.Proofs.Ythjhcddkdplegaa
open Go.RowKit Go.IntWalk
theorem p_realBack (ao : Option Addr) (n c : Nat) (zs : List Int) (hn : n = zs.length) (hw : ∀ z ∈ zs, (Lit.int .u8 z).wf = true) (hc : n ≤ c) :
    PCalls tb Try.prog 5 [.slice ao n c] [RA ao (zs.map (Value.int .u8))] (IsV (.bool true)) := by
  have hz := wf_bytes hw
  refine PCalls.of_W tbOk Try.func5 rfl (by kernel_rfl) ?_
  by_cases h : n < 8
  · refine W.dt [] 13 (decide ((n : Int) < 8)) (by kernel_rfl) (decide_eq_true (by omega)) ?_
    refine W.cl [13] (by kernel_rfl) (p_rknown) ?_
    rintro _ _ ⟨rfl, rfl⟩
    exact W.r [] (.bool true) (by kernel_rfl) ⟨rfl, rfl⟩ ent0
  refine W.ra ao rfl (by intro e; rw [List.map_eq_nil_iff] at e; subst e; simp at hn; omega) (fun ba of e => ?_)
  subst e
  refine W.more rfl (entRAt (b := ba) (off := of) (take_map 8)) ?_
  have hn2 : 8 = (zs.take 8).length := by rw [List.length_take]; omega
  have hz2 := hz.take 8
  refine W.df [] 13 (decide ((n : Int) < 8)) (by kernel_rfl) (decide_eq_false (by omega)) ?_
  refine W.sls [13] 1 ba of n c none (some (.int .i64 ((8 : Nat) : Int))) 0 8 tbOk (by kernel_rfl) (.inr ⟨rfl, rfl⟩) (.inl rfl) (by decide) (by omega) (by omega) ?_
  refine W.cl [] (by kernel_rfl) (p_copied (some ⟨ba, of + 0 * 1, none⟩) 8 c (zs.take 8) hn2 (by decide)) ?_
  rintro _ _ ⟨bo2, cc2, rfl, hc2, rfl⟩
  generalize zs.take 8 = ys at *
  refine W.cl [] (by kernel_rfl) (p_rdec bo2 8 cc2 ys hn2 hz2 hc2) ?_
  rintro _ _ ⟨n3, a3, m3, b3, rfl, rfl⟩
  have hd0 : derr ys = 0 := by unfold derr; rw [if_pos hn2.symm]
  refine W.cl [] (by kernel_rfl) (p_enc n3 a3 m3 b3) ?_
  rintro _ _ ⟨r, hr, hv⟩
  obtain ⟨bs, rfl, hbl, hbb, hval, hexp, hsgn⟩ := enc_back ys hn2.symm hz2 hr
  rcases hv with ⟨hx, _⟩ | ⟨bs', bo4, cc4, hbs, -, -, rfl, hc4, rfl⟩
  · exact absurd hx (by simp)
  simp only [Option.some.injEq] at hbs
  subst hbs
  obtain ⟨y0, y1, y2, y3, y4, y5, y6, y7, rfl⟩ := eight hn2.symm
  obtain ⟨x0, x1, x2, x3, x4, x5, x6, x7, rfl⟩ := eight hbl
  refine W.code 999 ?_
  refine W.ra bo2 (by kernel_rfl) (by simp) (fun b2 o2 e => ?_)
  subst e
  refine W.ra bo4 (by kernel_rfl) (by simp) (fun b4 o4 e => ?_)
  subst e
  have hx0 := hbb x0 (by simp)
  have hy0 := hz2 y0 (by simp)
  have hd1 : derr [x0, x1, x2, x3, x4, x5, x6, x7] = 0 := rfl
  refine W.cl [] (by kernel_rfl) (p_rknown) ?_
  rintro _ _ ⟨rfl, rfl⟩
  refine W.df [30] 34 (derr [y0, y1, y2, y3, y4, y5, y6, y7] != 0) (by kernel_rfl) rfl ?_
  refine W.cl [38, 42, 34] (by kernel_rfl) (p_rdec (some ⟨b4, o4, none⟩) 8 cc4 [x0, x1, x2, x3, x4, x5, x6, x7] rfl hbb hc4) ?_
  rintro _ _ ⟨n6, a6, m6, b6, rfl, rfl⟩
  refine W.cl [] (by kernel_rfl) (p_enc n6 a6 m6 b6) ?_
  rintro _ _ ⟨r', hr', hv'⟩
  rw [hval] at hr'
  obtain rfl := hr'.unique hr
  rcases hv' with ⟨hx, _⟩ | ⟨bs', bo7, cc7, hbs, -, -, rfl, hc7, rfl⟩
  · exact absurd hx (by simp)
  simp only [Option.some.injEq] at hbs
  subst hbs
  refine W.cl [] (by kernel_rfl) (p_qsign n3 a3 m3 b3) ?_
  rintro _ _ ⟨rfl, rfl⟩
  refine W.d [] 56 ((rval [y0, y1, y2, y3, y4, y5, y6, y7]).num.sign != 0) (by kernel_rfl) (fun hs => ?_) (fun hs => ?_)
  · refine W.ia [56] 1 b2 o2 8 cc2 .i64 0 0 rfl tbOk (by kernel_rfl) (by decide) ?_
    refine W.ld [56] 1 b2 (o2 + 0 * 1) (.int .u8 y0) tbOk (by kernel_rfl) (RA.rd b2 o2 0 rfl) ?_
    refine W.ia [56] 1 b4 o4 8 cc4 .i64 0 0 rfl tbOk (by kernel_rfl) (by decide) ?_
    refine W.ld [56] 1 b4 (o4 + 0 * 1) (.int .u8 x0) tbOk (by kernel_rfl) (RA.rd b4 o4 0 rfl) ?_
    have hne : rval [y0, y1, y2, y3, y4, y5, y6, y7] ≠ 0 := fun e => by
      rw [e] at hs
      exact absurd hs (by decide)
    refine W.df [56] 66 (Go.bits .and .u8 (Go.bits .xor .u8 y0 x0) 128 != 0) (by kernel_rfl) (by rw [high_same hy0.1 hy0.2 hx0.1 hx0.2 (hsgn hne)]; rfl) ?_
    refine W.cl [73, 69, 66] (by kernel_rfl) (p_qcmp n6 a6 m6 b6 n3 a3 m3 b3) ?_
    rintro _ _ ⟨rfl, rfl⟩
    refine W.dt [73] 79 (cmpQ (rval [x0, x1, x2, x3, x4, x5, x6, x7]) (rval [y0, y1, y2, y3, y4, y5, y6, y7]) == 0) (by kernel_rfl) (by rw [cmpQ_eq.2 hval]; rfl) ?_
    refine W.cl [79] (by kernel_rfl) (p_bsame bo7 8 cc7 [x0, x1, x2, x3, x4, x5, x6, x7] (some ⟨b4, o4, none⟩) 8 cc4 rfl rfl) ?_
    rintro _ _ ⟨rfl, rfl⟩
    refine W.ia [84, 79] 1 b4 o4 8 cc4 .i64 0 0 rfl tbOk (by kernel_rfl) (by decide) ?_
    refine W.ld [84] 1 b4 (o4 + 0 * 1) (.int .u8 x0) tbOk (by kernel_rfl) (RA.rd b4 o4 0 rfl) ?_
    refine W.ia [84] 1 b2 o2 8 cc2 .i64 0 0 rfl tbOk (by kernel_rfl) (by decide) ?_
    refine W.ld [84] 1 b2 (o2 + 0 * 1) (.int .u8 y0) tbOk (by kernel_rfl) (RA.rd b2 o2 0 rfl) ?_
    refine W.dt [84] 95 (decide (Go.bits .and .u8 x0 127 ≤ Go.bits .and .u8 y0 127)) (by kernel_rfl) (by rw [u8_and127 hx0.1 hx0.2, u8_and127 hy0.1 hy0.2]; exact decide_eq_true hexp) ?_
    refine W.cl [95] (by kernel_rfl) (p_rsame (some ⟨b2, o2, none⟩) 8 cc2 [y0, y1, y2, y3, y4, y5, y6, y7] (some ⟨b4, o4, none⟩) 8 cc4 [x0, x1, x2, x3, x4, x5, x6, x7] rfl hz2 hc2 rfl hbb hc4) ?_
    rintro _ _ ⟨rfl, rfl⟩
    refine W.r [95] (.bool (decide (derr [y0, y1, y2, y3, y4, y5, y6, y7] = 0 ∧ derr [x0, x1, x2, x3, x4, x5, x6, x7] = 0 ∧ rval [y0, y1, y2, y3, y4, y5, y6, y7] = rval [x0, x1, x2, x3, x4, x5, x6, x7]))) (by kernel_rfl) ⟨?_, rfl⟩ ent0
    rw [decide_eq_true ⟨rfl, rfl, hval.symm⟩]
  · refine W.cl [73, 69, 66, 56] (by kernel_rfl) (p_qcmp n6 a6 m6 b6 n3 a3 m3 b3) ?_
    rintro _ _ ⟨rfl, rfl⟩
    refine W.dt [73] 79 (cmpQ (rval [x0, x1, x2, x3, x4, x5, x6, x7]) (rval [y0, y1, y2, y3, y4, y5, y6, y7]) == 0) (by kernel_rfl) (by rw [cmpQ_eq.2 hval]; rfl) ?_
    refine W.cl [79] (by kernel_rfl) (p_bsame bo7 8 cc7 [x0, x1, x2, x3, x4, x5, x6, x7] (some ⟨b4, o4, none⟩) 8 cc4 rfl rfl) ?_
    rintro _ _ ⟨rfl, rfl⟩
    refine W.ia [84, 79] 1 b4 o4 8 cc4 .i64 0 0 rfl tbOk (by kernel_rfl) (by decide) ?_
    refine W.ld [84] 1 b4 (o4 + 0 * 1) (.int .u8 x0) tbOk (by kernel_rfl) (RA.rd b4 o4 0 rfl) ?_
    refine W.ia [84] 1 b2 o2 8 cc2 .i64 0 0 rfl tbOk (by kernel_rfl) (by decide) ?_
    refine W.ld [84] 1 b2 (o2 + 0 * 1) (.int .u8 y0) tbOk (by kernel_rfl) (RA.rd b2 o2 0 rfl) ?_
    refine W.dt [84] 95 (decide (Go.bits .and .u8 x0 127 ≤ Go.bits .and .u8 y0 127)) (by kernel_rfl) (by rw [u8_and127 hx0.1 hx0.2, u8_and127 hy0.1 hy0.2]; exact decide_eq_true hexp) ?_
    refine W.cl [95] (by kernel_rfl) (p_rsame (some ⟨b2, o2, none⟩) 8 cc2 [y0, y1, y2, y3, y4, y5, y6, y7] (some ⟨b4, o4, none⟩) 8 cc4 [x0, x1, x2, x3, x4, x5, x6, x7] rfl hz2 hc2 rfl hbb hc4) ?_
    rintro _ _ ⟨rfl, rfl⟩
    refine W.r [95] (.bool (decide (derr [y0, y1, y2, y3, y4, y5, y6, y7] = 0 ∧ derr [x0, x1, x2, x3, x4, x5, x6, x7] = 0 ∧ rval [y0, y1, y2, y3, y4, y5, y6, y7] = rval [x0, x1, x2, x3, x4, x5, x6, x7]))) (by kernel_rfl) ⟨?_, rfl⟩ ent0
    rw [decide_eq_true ⟨rfl, rfl, hval.symm⟩]

end Go.Proofs.Ythjhcddkdplegaa
namespace Go.Proofs.Ythjhcddkdplegaa.realBack
open Go.ChangeShapes Go.WideShapes Go.ChangeAt Go.RowKit
open Go.ChangeMaps (open_string shut_string)

theorem closed : joinedFacts Try.pinned.checked.prog 5 Try.f5 Rows.realBackSpec Rows.realBackRow = true := by
  unfold joinedFacts
  rw [show Try.pinned.checked.prog.mayEnter = true from jn_enter, show (Rows.realBackRow.lifted == Try.pinned.checked.prog.liftsFinal) = true from jn_lift, show (Try.pinned.checked.prog.make == some Rows.realBackRow.make) = true from jn_make,
    show laidOutB Try.pinned.checked.prog = true from jn_laid, show mapsRowed Try.pinned.checked.prog = true from jn_maps]
  kernel_rfl

set_option maxRecDepth 100000 in
set_option maxHeartbeats 2000000 in
theorem lifted (os : Os) (started : os.Started) (H : Type) (enc : TypeId × Value → H) :
    ReturnsInHanded {} Try.checked os 5 .any (Rows.realBackSpec.pre6 enc Try.prog Try.f5 Rows.realBackRow.domain false) (Rows.realBackSpec.post enc Try.prog Try.f5 false true false false) := by
  refine returnsInHanded_of_change (C := Try.checked) jn_own started (by kernel_rfl) Try.func5
    (ChangeSpec.witness6 (enc := enc) (C := Try.checked) false ⟨#[], #[.slice none 0 0], []⟩ 8 (by kernel_rfl) (by kernel_rfl) (by kernel_rfl) (by kernel_rfl)) ?_
  intro W base args ds gs before hval0 hW hcnd _
  have hval : ∀ (j : Nat) t v, Try.f5.params[j]? = some t → args[j]? = some v → Value.okWide Try.prog W .any base t v := hval0
  have hW' := hW
  obtain ⟨p, q, hA0, hV, rfl, hfz, hnd⟩ := hW
  have hA : DataW.TrodAll enc Try.prog W 0 (fun _ => true) true Try.f5.params.toList args.toList ds p := hA0
  have hK := hA
  rw [Try.params5] at hA hval hK
  obtain ⟨v0, vs0, d0, ds0, p0, q0, hargs, rfl, rfl, h0, r0⟩ := trodAll_cons hA
  obtain ⟨rfl, rfl, rfl⟩ := trodAll_nil r0
  obtain rfl : args = #[v0] := by cases args; simp_all
  obtain ⟨rfl, rfl⟩ := trodVars_none hV
  obtain ⟨ao0, n0, c0, hv0⟩ := okWide_slice Try.underlying22 (hval 0 22 v0 rfl rfl)
  obtain ⟨a0, e0, w0, q0, g0⟩ := row_ints Try.underlying22 Try.underlying5 (by kernel_rfl) hv0 h0
  subst hv0
  clear hA0 hval0
  simp only [List.append_nil] at hW' hK
  refine (law_calls' (p_realBack ao0 n0 c0 a0 e0 w0 q0) W (Holds.cons g0 (Holds.nil _ _))).mono fun e W' ⟨he, hg⟩ => ?_
  subst he
  exact ⟨_, rfl, law_post hW' rfl (fun _ _ _ => (trodAll_cons_mk (shut_bool Try.underlying4 _) trodAll_mk0)) (fun sp hsp => trodAll_stays jn_laid hg (by kernel_rfl) hK (fun x hx => hW'.lt x (by first | exact hx | simpa using hx)) (fun x hx => hsp x (by first | exact hx | simpa using hx))) rfl hg⟩

theorem over : Rows.realBackRow.holds Try.pinned (OpenSpec.ofChange Rows.realBackSpec) :=
  OpenClaim.holds_of_wide 5 Try.f5 rfl rfl rfl rfl rfl rfl rfl ⟨rfl, rfl, rfl, rfl, rfl⟩ rfl rfl rfl rfl rfl (by kernel_rfl) Try.func5 closed
    (of_decide_eq_true (by kernel_rfl)) (by unfold Func.isWrapper; first | (rw [if_pos (by decide +kernel)]; kernel_rfl) | (rw [if_neg (by decide +kernel)]; exact ⟨rfl, rfl⟩))
    (fun os started H enc _ => lifted os started H enc)
end Go.Proofs.Ythjhcddkdplegaa.realBack
namespace Go.Proofs.Ythjhcddkdplegaa

/-- The statement. -/
theorem realBack_holds : Rows.RealBackSaid := realBack.over
end Go.Proofs.Ythjhcddkdplegaa
