
/- Two rows of bytes mean the same number just if the document says so. -/
import Derived.Test.YthjhcddkdplegaaRows
import Derived.Test.YthjhcddkdplegaaRo
import Derived.Test.YthjhcddkdplegaaLawZ
import Derived.Test.YthjhcddkdplegaaVs
import Derived.Test.YthjhcddkdplegaaJn
set_option linter.unusedSimpArgs false
set_option linter.unusedVariables false
namespace Go.Proofs.Ythjhcddkdplegaa
open Go.RowKit Go.IntWalk
theorem p_realSame (ao : Option Addr) (n c : Nat) (zs : List Int) (hn : n = zs.length) (hw : ∀ z ∈ zs, (Lit.int .u8 z).wf = true) (hc : n ≤ c)
    (bo : Option Addr) (k d : Nat) (ys : List Int) (hk : k = ys.length) (hw' : ∀ z ∈ ys, (Lit.int .u8 z).wf = true) (hd : k ≤ d) :
    PCalls tb Try.prog 6 [.slice ao n c, .slice bo k d] [RA ao (zs.map (Value.int .u8)), RA bo (ys.map (Value.int .u8))] (IsV (.bool true)) := by
  have hz := wf_bytes hw
  have hy := wf_bytes hw'
  refine PCalls.of_W tbOk Try.func6 rfl (by kernel_rfl) ?_
  by_cases h : n > 64
  · by_cases h' : k > 64
    · refine W.ra ao rfl (by intro e; rw [List.map_eq_nil_iff] at e; subst e; simp at hn; omega) (fun ba of e => ?_)
      subst e
      refine W.more rfl (entRAt (b := ba) (off := of) (take_map 64)) ?_
      have hn2 : 64 = (zs.take 64).length := by rw [List.length_take]; omega
      have hz2 := hz.take 64
      refine W.ra bo rfl (by intro e; rw [List.map_eq_nil_iff] at e; subst e; simp at hk; omega) (fun bb og e => ?_)
      subst e
      refine W.more rfl (entRAt (b := bb) (off := og) (take_map 64)) ?_
      have hk2 : 64 = (ys.take 64).length := by rw [List.length_take]; omega
      have hy2 := hy.take 64
      refine W.dt [] 11 (decide ((n : Int) > 64)) (by kernel_rfl) (decide_eq_true (by omega)) ?_
      refine W.sls [11] 1 ba of n c none (some (.int .i64 ((64 : Nat) : Int))) 0 64 tbOk (by kernel_rfl) (.inr ⟨rfl, rfl⟩) (.inl rfl) (by decide) (by omega) (by omega) ?_
      refine W.dt [] 16 (decide ((k : Int) > 64)) (by kernel_rfl) (decide_eq_true (by omega)) ?_
      refine W.sls [16] 1 bb og k d none (some (.int .i64 ((64 : Nat) : Int))) 0 64 tbOk (by kernel_rfl) (.inr ⟨rfl, rfl⟩) (.inl rfl) (by decide) (by omega) (by omega) ?_
      refine W.cl [] (by kernel_rfl) (r_rdec (some ⟨ba, of + 0 * 1, none⟩) 64 c (zs.take 64) hn2 hz2 (by omega)) ?_
      rintro _ _ ⟨S1, s1, R1, t1, rfl, rfl⟩
      refine W.cl [] (by kernel_rfl) (r_rdec (some ⟨bb, og + 0 * 1, none⟩) 64 d (ys.take 64) hk2 hy2 (by omega)) ?_
      rintro _ _ ⟨S2, s2, R2, t2, rfl, rfl⟩
      refine W.cl [] (by kernel_rfl) (p_rknown) ?_
      rintro _ _ ⟨rfl, rfl⟩
      refine W.cl [30] (by kernel_rfl) (p_rsame (some ⟨ba, of + 0 * 1, none⟩) 64 c (zs.take 64) (some ⟨bb, og + 0 * 1, none⟩) 64 d (ys.take 64) hn2 hz2 (by omega) hk2 hy2 (by omega)) ?_
      rintro _ _ ⟨rfl, rfl⟩
      refine W.d [30] 36 (derr (zs.take 64) == 0) (by kernel_rfl) (fun h1 => ?_) (fun h1 => ?_)
      · have e1 : derr (zs.take 64) = 0 := by simpa using h1
        refine W.d [30, 36] 40 (derr (ys.take 64) == 0) (by kernel_rfl) (fun h2 => ?_) (fun h2 => ?_)
        · have e2 : derr (ys.take 64) = 0 := by simpa using h2
          refine W.cl [40] (by kernel_rfl) (s_cmp S1 s1 R1 t1 S2 s2 R2 t2) ?_
          rintro _ _ ⟨rfl, rfl⟩
          refine W.r [30, 40] (.bool (decide (derr (zs.take 64) = 0 ∧ derr (ys.take 64) = 0 ∧ rval (zs.take 64) = rval (ys.take 64)) == (cmpQ (rval (zs.take 64)) (rval (ys.take 64)) == 0))) (by kernel_rfl) ⟨?_, rfl⟩ ent0
          have := cmpQ_eq (a := rval (zs.take 64)) (b := rval (ys.take 64))
          simp only [e1, e2, true_and]
          congr 1
          by_cases e3 : rval (zs.take 64) = rval (ys.take 64)
          · rw [this.2 e3]; simp [e3]
          · have e4 := mt this.1 e3; simp [e3, e4]
        · have e2 : derr (ys.take 64) ≠ 0 := by simpa using h2
          exact W.r [30, 40] (.bool (decide (derr (zs.take 64) = 0 ∧ derr (ys.take 64) = 0 ∧ rval (zs.take 64) = rval (ys.take 64)) == false)) (by kernel_rfl) ⟨by simp [e2], rfl⟩ ent0
      · have e1 : derr (zs.take 64) ≠ 0 := by simpa using h1
        exact W.r [40, 30, 36] (.bool (decide (derr (zs.take 64) = 0 ∧ derr (ys.take 64) = 0 ∧ rval (zs.take 64) = rval (ys.take 64)) == false)) (by kernel_rfl) ⟨by simp [e1], rfl⟩ ent0
    · refine W.ra ao rfl (by intro e; rw [List.map_eq_nil_iff] at e; subst e; simp at hn; omega) (fun ba of e => ?_)
      subst e
      refine W.more rfl (entRAt (b := ba) (off := of) (take_map 64)) ?_
      have hn2 : 64 = (zs.take 64).length := by rw [List.length_take]; omega
      have hz2 := hz.take 64
      refine W.dt [] 11 (decide ((n : Int) > 64)) (by kernel_rfl) (decide_eq_true (by omega)) ?_
      refine W.sls [11] 1 ba of n c none (some (.int .i64 ((64 : Nat) : Int))) 0 64 tbOk (by kernel_rfl) (.inr ⟨rfl, rfl⟩) (.inl rfl) (by decide) (by omega) (by omega) ?_
      refine W.df [] 16 (decide ((k : Int) > 64)) (by kernel_rfl) (decide_eq_false (by omega)) ?_
      refine W.cl [16] (by kernel_rfl) (r_rdec (some ⟨ba, of + 0 * 1, none⟩) 64 c (zs.take 64) hn2 hz2 (by omega)) ?_
      rintro _ _ ⟨S1, s1, R1, t1, rfl, rfl⟩
      refine W.cl [] (by kernel_rfl) (r_rdec bo k d ys hk hy hd) ?_
      rintro _ _ ⟨S2, s2, R2, t2, rfl, rfl⟩
      refine W.cl [] (by kernel_rfl) (p_rknown) ?_
      rintro _ _ ⟨rfl, rfl⟩
      refine W.cl [30] (by kernel_rfl) (p_rsame (some ⟨ba, of + 0 * 1, none⟩) 64 c (zs.take 64) bo k d ys hn2 hz2 (by omega) hk hy hd) ?_
      rintro _ _ ⟨rfl, rfl⟩
      refine W.d [30] 36 (derr (zs.take 64) == 0) (by kernel_rfl) (fun h1 => ?_) (fun h1 => ?_)
      · have e1 : derr (zs.take 64) = 0 := by simpa using h1
        refine W.d [30, 36] 40 (derr ys == 0) (by kernel_rfl) (fun h2 => ?_) (fun h2 => ?_)
        · have e2 : derr ys = 0 := by simpa using h2
          refine W.cl [40] (by kernel_rfl) (s_cmp S1 s1 R1 t1 S2 s2 R2 t2) ?_
          rintro _ _ ⟨rfl, rfl⟩
          refine W.r [30, 40] (.bool (decide (derr (zs.take 64) = 0 ∧ derr ys = 0 ∧ rval (zs.take 64) = rval ys) == (cmpQ (rval (zs.take 64)) (rval ys) == 0))) (by kernel_rfl) ⟨?_, rfl⟩ ent0
          have := cmpQ_eq (a := rval (zs.take 64)) (b := rval ys)
          simp only [e1, e2, true_and]
          congr 1
          by_cases e3 : rval (zs.take 64) = rval ys
          · rw [this.2 e3]; simp [e3]
          · have e4 := mt this.1 e3; simp [e3, e4]
        · have e2 : derr ys ≠ 0 := by simpa using h2
          exact W.r [30, 40] (.bool (decide (derr (zs.take 64) = 0 ∧ derr ys = 0 ∧ rval (zs.take 64) = rval ys) == false)) (by kernel_rfl) ⟨by simp [e2], rfl⟩ ent0
      · have e1 : derr (zs.take 64) ≠ 0 := by simpa using h1
        exact W.r [40, 30, 36] (.bool (decide (derr (zs.take 64) = 0 ∧ derr ys = 0 ∧ rval (zs.take 64) = rval ys) == false)) (by kernel_rfl) ⟨by simp [e1], rfl⟩ ent0
  · by_cases h' : k > 64
    · refine W.ra bo rfl (by intro e; rw [List.map_eq_nil_iff] at e; subst e; simp at hk; omega) (fun bb og e => ?_)
      subst e
      refine W.more rfl (entRAt (b := bb) (off := og) (take_map 64)) ?_
      have hk2 : 64 = (ys.take 64).length := by rw [List.length_take]; omega
      have hy2 := hy.take 64
      refine W.df [] 11 (decide ((n : Int) > 64)) (by kernel_rfl) (decide_eq_false (by omega)) ?_
      refine W.dt [11] 16 (decide ((k : Int) > 64)) (by kernel_rfl) (decide_eq_true (by omega)) ?_
      refine W.sls [16] 1 bb og k d none (some (.int .i64 ((64 : Nat) : Int))) 0 64 tbOk (by kernel_rfl) (.inr ⟨rfl, rfl⟩) (.inl rfl) (by decide) (by omega) (by omega) ?_
      refine W.cl [] (by kernel_rfl) (r_rdec ao n c zs hn hz hc) ?_
      rintro _ _ ⟨S1, s1, R1, t1, rfl, rfl⟩
      refine W.cl [] (by kernel_rfl) (r_rdec (some ⟨bb, og + 0 * 1, none⟩) 64 d (ys.take 64) hk2 hy2 (by omega)) ?_
      rintro _ _ ⟨S2, s2, R2, t2, rfl, rfl⟩
      refine W.cl [] (by kernel_rfl) (p_rknown) ?_
      rintro _ _ ⟨rfl, rfl⟩
      refine W.cl [30] (by kernel_rfl) (p_rsame ao n c zs (some ⟨bb, og + 0 * 1, none⟩) 64 d (ys.take 64) hn hz hc hk2 hy2 (by omega)) ?_
      rintro _ _ ⟨rfl, rfl⟩
      refine W.d [30] 36 (derr zs == 0) (by kernel_rfl) (fun h1 => ?_) (fun h1 => ?_)
      · have e1 : derr zs = 0 := by simpa using h1
        refine W.d [30, 36] 40 (derr (ys.take 64) == 0) (by kernel_rfl) (fun h2 => ?_) (fun h2 => ?_)
        · have e2 : derr (ys.take 64) = 0 := by simpa using h2
          refine W.cl [40] (by kernel_rfl) (s_cmp S1 s1 R1 t1 S2 s2 R2 t2) ?_
          rintro _ _ ⟨rfl, rfl⟩
          refine W.r [30, 40] (.bool (decide (derr zs = 0 ∧ derr (ys.take 64) = 0 ∧ rval zs = rval (ys.take 64)) == (cmpQ (rval zs) (rval (ys.take 64)) == 0))) (by kernel_rfl) ⟨?_, rfl⟩ ent0
          have := cmpQ_eq (a := rval zs) (b := rval (ys.take 64))
          simp only [e1, e2, true_and]
          congr 1
          by_cases e3 : rval zs = rval (ys.take 64)
          · rw [this.2 e3]; simp [e3]
          · have e4 := mt this.1 e3; simp [e3, e4]
        · have e2 : derr (ys.take 64) ≠ 0 := by simpa using h2
          exact W.r [30, 40] (.bool (decide (derr zs = 0 ∧ derr (ys.take 64) = 0 ∧ rval zs = rval (ys.take 64)) == false)) (by kernel_rfl) ⟨by simp [e2], rfl⟩ ent0
      · have e1 : derr zs ≠ 0 := by simpa using h1
        exact W.r [40, 30, 36] (.bool (decide (derr zs = 0 ∧ derr (ys.take 64) = 0 ∧ rval zs = rval (ys.take 64)) == false)) (by kernel_rfl) ⟨by simp [e1], rfl⟩ ent0
    · refine W.df [] 11 (decide ((n : Int) > 64)) (by kernel_rfl) (decide_eq_false (by omega)) ?_
      refine W.df [11] 16 (decide ((k : Int) > 64)) (by kernel_rfl) (decide_eq_false (by omega)) ?_
      refine W.cl [16] (by kernel_rfl) (r_rdec ao n c zs hn hz hc) ?_
      rintro _ _ ⟨S1, s1, R1, t1, rfl, rfl⟩
      refine W.cl [] (by kernel_rfl) (r_rdec bo k d ys hk hy hd) ?_
      rintro _ _ ⟨S2, s2, R2, t2, rfl, rfl⟩
      refine W.cl [] (by kernel_rfl) (p_rknown) ?_
      rintro _ _ ⟨rfl, rfl⟩
      refine W.cl [30] (by kernel_rfl) (p_rsame ao n c zs bo k d ys hn hz hc hk hy hd) ?_
      rintro _ _ ⟨rfl, rfl⟩
      refine W.d [30] 36 (derr zs == 0) (by kernel_rfl) (fun h1 => ?_) (fun h1 => ?_)
      · have e1 : derr zs = 0 := by simpa using h1
        refine W.d [30, 36] 40 (derr ys == 0) (by kernel_rfl) (fun h2 => ?_) (fun h2 => ?_)
        · have e2 : derr ys = 0 := by simpa using h2
          refine W.cl [40] (by kernel_rfl) (s_cmp S1 s1 R1 t1 S2 s2 R2 t2) ?_
          rintro _ _ ⟨rfl, rfl⟩
          refine W.r [30, 40] (.bool (decide (derr zs = 0 ∧ derr ys = 0 ∧ rval zs = rval ys) == (cmpQ (rval zs) (rval ys) == 0))) (by kernel_rfl) ⟨?_, rfl⟩ ent0
          have := cmpQ_eq (a := rval zs) (b := rval ys)
          simp only [e1, e2, true_and]
          congr 1
          by_cases e3 : rval zs = rval ys
          · rw [this.2 e3]; simp [e3]
          · have e4 := mt this.1 e3; simp [e3, e4]
        · have e2 : derr ys ≠ 0 := by simpa using h2
          exact W.r [30, 40] (.bool (decide (derr zs = 0 ∧ derr ys = 0 ∧ rval zs = rval ys) == false)) (by kernel_rfl) ⟨by simp [e2], rfl⟩ ent0
      · have e1 : derr zs ≠ 0 := by simpa using h1
        exact W.r [40, 30, 36] (.bool (decide (derr zs = 0 ∧ derr ys = 0 ∧ rval zs = rval ys) == false)) (by kernel_rfl) ⟨by simp [e1], rfl⟩ ent0

end Go.Proofs.Ythjhcddkdplegaa
namespace Go.Proofs.Ythjhcddkdplegaa.realSame
open Go.ChangeShapes Go.WideShapes Go.ChangeAt Go.RowKit
open Go.ChangeMaps (open_string shut_string)

theorem closed : joinedFacts Try.pinned.checked.prog 6 Try.f6 Rows.realSameSpec Rows.realSameRow = true := by
  unfold joinedFacts
  rw [show Try.pinned.checked.prog.mayEnter = true from jn_enter, show (Rows.realSameRow.lifted == Try.pinned.checked.prog.liftsFinal) = true from jn_lift, show (Try.pinned.checked.prog.make == some Rows.realSameRow.make) = true from jn_make,
    show laidOutB Try.pinned.checked.prog = true from jn_laid, show mapsRowed Try.pinned.checked.prog = true from jn_maps]
  kernel_rfl

set_option maxRecDepth 100000 in
set_option maxHeartbeats 2000000 in
theorem lifted (os : Os) (started : os.Started) (H : Type) (enc : TypeId × Value → H) :
    ReturnsInHanded {} Try.checked os 6 .any (Rows.realSameSpec.pre6 enc Try.prog Try.f6 Rows.realSameRow.domain false) (Rows.realSameSpec.post enc Try.prog Try.f6 false true false false) := by
  refine returnsInHanded_of_change (C := Try.checked) jn_own started (by kernel_rfl) Try.func6
    (ChangeSpec.witness6 (enc := enc) (C := Try.checked) false ⟨#[], #[.slice none 0 0, .slice none 0 0], []⟩ 8 (by kernel_rfl) (by kernel_rfl) (by kernel_rfl) (by kernel_rfl)) ?_
  intro W base args ds gs before hval0 hW hcnd _
  have hval : ∀ (j : Nat) t v, Try.f6.params[j]? = some t → args[j]? = some v → Value.okWide Try.prog W .any base t v := hval0
  have hW' := hW
  obtain ⟨p, q, hA0, hV, rfl, hfz, hnd⟩ := hW
  have hA : DataW.TrodAll enc Try.prog W 0 (fun _ => true) true Try.f6.params.toList args.toList ds p := hA0
  have hK := hA
  rw [Try.params6] at hA hval hK
  obtain ⟨v0, vs0, d0, ds0, p0, q0, hargs, rfl, rfl, h0, r0⟩ := trodAll_cons hA
  obtain ⟨v1, vs1, d1, ds1, p1, q1, rfl, rfl, rfl, h1, r1⟩ := trodAll_cons r0
  obtain ⟨rfl, rfl, rfl⟩ := trodAll_nil r1
  obtain rfl : args = #[v0, v1] := by cases args; simp_all
  obtain ⟨rfl, rfl⟩ := trodVars_none hV
  obtain ⟨ao0, n0, c0, hv0⟩ := okWide_slice Try.underlying22 (hval 0 22 v0 rfl rfl)
  obtain ⟨a0, e0, w0, q0, g0⟩ := row_ints Try.underlying22 Try.underlying5 (by kernel_rfl) hv0 h0
  subst hv0
  obtain ⟨ao1, n1, c1, hv1⟩ := okWide_slice Try.underlying22 (hval 1 22 v1 rfl rfl)
  obtain ⟨a1, e1, w1, q1, g1⟩ := row_ints Try.underlying22 Try.underlying5 (by kernel_rfl) hv1 h1
  subst hv1
  clear hA0 hval0
  simp only [List.append_nil] at hW' hK
  refine (law_calls' (p_realSame ao0 n0 c0 a0 e0 w0 q0 ao1 n1 c1 a1 e1 w1 q1) W (Holds.cons g0 (Holds.cons g1 (Holds.nil _ _)))).mono fun e W' ⟨he, hg⟩ => ?_
  subst he
  exact ⟨_, rfl, law_post hW' rfl (fun _ _ _ => (trodAll_cons_mk (shut_bool Try.underlying4 _) trodAll_mk0)) (fun sp hsp => trodAll_stays jn_laid hg (by kernel_rfl) hK (fun x hx => hW'.lt x (by first | exact hx | simpa using hx)) (fun x hx => hsp x (by first | exact hx | simpa using hx))) rfl hg⟩

theorem over : Rows.realSameRow.holds Try.pinned (OpenSpec.ofChange Rows.realSameSpec) :=
  OpenClaim.holds_of_wide 6 Try.f6 rfl rfl rfl rfl rfl rfl rfl ⟨rfl, rfl, rfl, rfl, rfl⟩ rfl rfl rfl rfl rfl (by kernel_rfl) Try.func6 closed
    (of_decide_eq_true (by kernel_rfl)) (by unfold Func.isWrapper; first | (rw [if_pos (by decide +kernel)]; kernel_rfl) | (rw [if_neg (by decide +kernel)]; exact ⟨rfl, rfl⟩))
    (fun os started H enc _ => lifted os started H enc)
end Go.Proofs.Ythjhcddkdplegaa.realSame
namespace Go.Proofs.Ythjhcddkdplegaa

/-- The statement. -/
theorem realSame_holds : Rows.RealSameSaid := realSame.over
end Go.Proofs.Ythjhcddkdplegaa
