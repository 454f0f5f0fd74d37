/- Texts are read as the reference reads them, and written as they were. -/
import Derived.Test.YtnjohlimjbmkgaaRows
import Derived.Test.YtnjohlimjbmkgaaZl
import Derived.Test.YtnjohlimjbmkgaaLawZ
set_option linter.unusedSimpArgs false
set_option linter.unusedVariables false
namespace Go.Proofs.Ytnjohlimjbmkgaa
open Go.RowKit Go.IntWalk

theorem zerr_zval {s : ByteArray} (h : zerr s ≠ 0) : zval s = 0 := by
  by_cases h1 : 4097 < s.size
  · exact (zerr_long h1).2
  · by_cases h2 : 4096 < (sdig s).size
    · exact (zerr_mid h1 h2).1
    · rw [zerr_short h1 h2] at h
      unfold zval
      rw [if_neg h]
theorem bs_ext {s t : ByteArray} (h : bs s = bs t) : s = t := by
  apply ByteArray.ext
  apply Array.ext'
  unfold bs at h
  exact List.map_inj_right (fun a b hab => UInt8.toNat_inj.1 hab) |>.1 h
theorem txt_dec {D : ByteArray} (h : Good (bs D)) : txt (dec (dval (bs D))) = D := by
  rw [dec_dval h]
  apply ByteArray.ext
  apply Array.ext'
  show List.map UInt8.ofNat (List.map UInt8.toNat D.data.toList) = D.data.toList
  rw [List.map_map]
  exact (List.map_congr_left (fun b _ => by simp)).trans (List.map_id _)
theorem zerr_text {s : ByteArray} (h : zerr s = 0) : ztxt (zval s) = s ∧ zerr s = 0 := by
  refine ⟨?_, h⟩
  have h1 : ¬ 4097 < s.size := fun h1 => by rw [(zerr_long h1).1] at h; exact absurd h (by decide)
  have h2 : ¬ 4096 < (sdig s).size := fun h2 => by
    unfold zerr at h
    rw [if_neg h1, if_pos h2] at h
    split at h <;> exact absurd h (by decide)
  by_cases hs : Shape s
  · obtain ⟨_, a2, a3, a4⟩ := zerr0 h1 (by omega) hs
    have hg := shape_good (by omega) hs
    have hp := (perr_ok hg).2
    have ht := txt_dec hg
    rw [← hp] at ht
    rw [a3]
    cases hn : sneg s with
    | true =>
      obtain ⟨e, h0, _⟩ := sdig_neg hn
      have hpos := a4 hn
      unfold ztxt
      rw [if_pos rfl, if_pos (by omega), show (-(pval (sdig s) : Int)).natAbs = pval (sdig s) by omega, ht, e]
      have hh := sneg_head h0
      rw [hn] at hh
      have hh := eq_of_beq hh.symm
      have h45 : s[0]'h0 = 45 := UInt8.toNat_inj.1 (by rw [hh]; rfl)
      have e1 := extract_one h0
      rw [h45] at e1
      rw [← e1, ByteArray.extract_append_extract, Nat.min_eq_left (by omega), Nat.max_eq_right (by omega)]
      exact ByteArray.extract_zero_size
    | false =>
      have e := sdig_pos hn
      unfold ztxt
      simp only [Bool.false_eq_true, if_false]
      rw [if_neg (by omega), show ((pval (sdig s) : Nat) : Int).natAbs = pval (sdig s) by omega, ht, e]
  · rw [(zerr3 h1 hs).1] at h
    exact absurd h (by decide)

theorem r_textY {Γ : List Fact} {L : Nat} (S : Int) (s : Sl) {x : Int} [h : Has (YF S s) (L, x) Γ] (hL : L ≤ 1000000000000 := by omega) : PCalls tb Try.prog 42 [mv s] Γ (IsV (.string (txt (dec x.natAbs)))) :=
  (r_text (Γ := RF s (L, x.natAbs) :: Γ) s).weak (fun I w _ hh => Holds.cons (h.p hh).1 hh) (fun _ _ h => h)
theorem p_yparse' {Γ : List Fact} (s : ByteArray) (h : s.size ≤ 9223372036854775807) : PCalls tb Try.prog 37 [.string s] Γ (fun v Δ => ∃ (S : Int) (u : Sl), v = .tuple #[yv S u, .int .i64 (zerr s)] ∧ S = (zval s).sign ∧ Δ = [YF S u (min s.size 4096, zval s)]) :=
  ((p_yparse s h).info (fun v Δ => ∀ S u, Δ = [YF S u (min s.size 4096, zval s)] → S = (zval s).sign) (by
    rintro v Δ - I w hh S u rfl
    exact (hh (YF S u (min s.size 4096, zval s)) (by simp)).2)).post fun v Δ ⟨⟨S, u, h1, h2⟩, h3⟩ => ⟨S, u, h1, h3 S u h2, h2⟩

set_option maxHeartbeats 2000000 in
theorem p_zedReads (x : ByteArray) (hx : x.size ≤ 9223372036854775807) : PCalls tb Try.prog 9 [.string x] [] (IsV (.bool true)) := by
  refine PCalls.of_W tbOk Try.func9 rfl (by kernel_rfl) ?_
  refine W.cl [] (by kernel_rfl) (p_zparse x hx) ?_
  rintro _ _ ⟨u1, d1, rfl, rfl⟩
  refine W.cl [] (by kernel_rfl) (p_yparse' x hx) ?_
  rintro _ _ ⟨S2, u2, rfl, hS, rfl⟩
  refine W.cl [] (by kernel_rfl) p_zknown ?_
  rintro _ _ ⟨rfl, rfl⟩
  refine W.df [22] 26 (zerr x != zerr x) (by kernel_rfl) (by simp) ?_
  by_cases he : zerr x = 0
  · have ht := (zerr_text he).1
    refine W.df [26] 28 (zerr x != 0) (by kernel_rfl) (by rw [he]; rfl) ?_
    generalize zval x = X at *
    refine W.cl [28] (by kernel_rfl) (p_zsmall u1 d1) ?_
    rintro _ _ ⟨rfl, rfl⟩
    refine W.cl [] (by kernel_rfl) (p_ysmall S2 u2) ?_
    rintro _ _ ⟨rfl, rfl⟩
    refine W.df [] 41 (!(small X == small X)) (by kernel_rfl) (by simp) ?_
    cases hsm : small X with
    | true =>
      have hsm' := hsm
      unfold small at hsm'
      simp only [Bool.and_eq_true, decide_eq_true_eq] at hsm'
      simp only [if_true]
      refine W.cl [41, 43] (by kernel_rfl) (p_zof X hsm'.1 (by omega)) ?_
      rintro _ _ ⟨u7, d7, rfl, rfl⟩
      refine W.cl [43, 41] (by kernel_rfl) (p_same u7 d7 S2 u2) ?_
      rintro _ _ ⟨rfl, rfl⟩
      by_cases hneg : X < 0
      · refine W.dt [58, 51, 54, 41, 43] 61 (decide (S2 < 0)) (by kernel_rfl) (by rw [hS]; simpa using sign_lt.2 hneg) ?_
        refine W.cl [61] (by kernel_rfl) (p_ztext u1 d1) ?_
        rintro _ _ ⟨rfl, rfl⟩
        refine W.dt [] 66 ((ztxt X).toList == x.toList) (by kernel_rfl) (by rw [ht]; simp) ?_
        refine W.cl [66] (by kernel_rfl) (p_zsign u1 d1) ?_
        rintro _ _ ⟨rfl, rfl⟩
        refine W.dt [66] 73 (X.sign == S2) (by kernel_rfl) (by rw [hS]; simp) ?_
        refine W.cl [73] (by kernel_rfl) (p_zabs u1 d1) ?_
        rintro _ _ ⟨rfl, rfl⟩
        refine W.cl [73] (by kernel_rfl) (p_text u1) ?_
        rintro _ _ ⟨rfl, rfl⟩
        refine W.cl [73] (by kernel_rfl) (r_textY S2 u2) ?_
        rintro _ _ ⟨rfl, rfl⟩
        refine W.dt [73] 82 ((txt (dec X.natAbs)).toList == (txt (dec X.natAbs)).toList) (by kernel_rfl) (by simp) ?_
        refine W.cl [82] (by kernel_rfl) (p_zabs u1 d1) ?_
        rintro _ _ ⟨rfl, rfl⟩
        refine W.cl [82] (by kernel_rfl) (p_zbig u1) ?_
        rintro _ _ ⟨u9, d9, rfl, rfl⟩
        refine W.cl [82] (by kernel_rfl) (p_zcmp u9 d9 u1 d1) ?_
        rintro _ _ ⟨rfl, rfl⟩
        refine W.r [82] (.bool (cmpZ (X.natAbs : Int) X == 1)) (by kernel_rfl) ⟨?_, rfl⟩ ent0
        congr 1
        rw [beq_iff_eq]
        unfold cmpZ
        (repeat' split) <;> omega
      · refine W.df [58, 51, 54, 41, 43] 61 (decide (S2 < 0)) (by kernel_rfl) (by rw [hS]; simpa using fun h => hneg (sign_lt.1 h)) ?_
        refine W.cl [61] (by kernel_rfl) (p_ztext u1 d1) ?_
        rintro _ _ ⟨rfl, rfl⟩
        refine W.dt [] 66 ((ztxt X).toList == x.toList) (by kernel_rfl) (by rw [ht]; simp) ?_
        refine W.cl [66] (by kernel_rfl) (p_zsign u1 d1) ?_
        rintro _ _ ⟨rfl, rfl⟩
        refine W.dt [66] 73 (X.sign == S2) (by kernel_rfl) (by rw [hS]; simp) ?_
        refine W.cl [73] (by kernel_rfl) (p_zabs u1 d1) ?_
        rintro _ _ ⟨rfl, rfl⟩
        refine W.cl [73] (by kernel_rfl) (p_text u1) ?_
        rintro _ _ ⟨rfl, rfl⟩
        refine W.cl [73] (by kernel_rfl) (r_textY S2 u2) ?_
        rintro _ _ ⟨rfl, rfl⟩
        refine W.dt [73] 82 ((txt (dec X.natAbs)).toList == (txt (dec X.natAbs)).toList) (by kernel_rfl) (by simp) ?_
        refine W.cl [82] (by kernel_rfl) (p_zabs u1 d1) ?_
        rintro _ _ ⟨rfl, rfl⟩
        refine W.cl [82] (by kernel_rfl) (p_zbig u1) ?_
        rintro _ _ ⟨u9, d9, rfl, rfl⟩
        refine W.cl [82] (by kernel_rfl) (p_zcmp u9 d9 u1 d1) ?_
        rintro _ _ ⟨rfl, rfl⟩
        refine W.r [82] (.bool (cmpZ (X.natAbs : Int) X == 0)) (by kernel_rfl) ⟨?_, rfl⟩ ent0
        congr 1
        rw [beq_iff_eq]
        unfold cmpZ
        (repeat' split) <;> omega
    | false =>
      by_cases hneg : X < 0
      · refine W.dt [51, 54, 58, 41, 43] 61 (decide (S2 < 0)) (by kernel_rfl) (by rw [hS]; simpa using sign_lt.2 hneg) ?_
        refine W.cl [61] (by kernel_rfl) (p_ztext u1 d1) ?_
        rintro _ _ ⟨rfl, rfl⟩
        refine W.dt [] 66 ((ztxt X).toList == x.toList) (by kernel_rfl) (by rw [ht]; simp) ?_
        refine W.cl [66] (by kernel_rfl) (p_zsign u1 d1) ?_
        rintro _ _ ⟨rfl, rfl⟩
        refine W.dt [66] 73 (X.sign == S2) (by kernel_rfl) (by rw [hS]; simp) ?_
        refine W.cl [73] (by kernel_rfl) (p_zabs u1 d1) ?_
        rintro _ _ ⟨rfl, rfl⟩
        refine W.cl [73] (by kernel_rfl) (p_text u1) ?_
        rintro _ _ ⟨rfl, rfl⟩
        refine W.cl [73] (by kernel_rfl) (r_textY S2 u2) ?_
        rintro _ _ ⟨rfl, rfl⟩
        refine W.dt [73] 82 ((txt (dec X.natAbs)).toList == (txt (dec X.natAbs)).toList) (by kernel_rfl) (by simp) ?_
        refine W.cl [82] (by kernel_rfl) (p_zabs u1 d1) ?_
        rintro _ _ ⟨rfl, rfl⟩
        refine W.cl [82] (by kernel_rfl) (p_zbig u1) ?_
        rintro _ _ ⟨u9, d9, rfl, rfl⟩
        refine W.cl [82] (by kernel_rfl) (p_zcmp u9 d9 u1 d1) ?_
        rintro _ _ ⟨rfl, rfl⟩
        refine W.r [82] (.bool (cmpZ (X.natAbs : Int) X == 1)) (by kernel_rfl) ⟨?_, rfl⟩ ent0
        congr 1
        rw [beq_iff_eq]
        unfold cmpZ
        (repeat' split) <;> omega
      · refine W.df [51, 54, 58, 41, 43] 61 (decide (S2 < 0)) (by kernel_rfl) (by rw [hS]; simpa using fun h => hneg (sign_lt.1 h)) ?_
        refine W.cl [61] (by kernel_rfl) (p_ztext u1 d1) ?_
        rintro _ _ ⟨rfl, rfl⟩
        refine W.dt [] 66 ((ztxt X).toList == x.toList) (by kernel_rfl) (by rw [ht]; simp) ?_
        refine W.cl [66] (by kernel_rfl) (p_zsign u1 d1) ?_
        rintro _ _ ⟨rfl, rfl⟩
        refine W.dt [66] 73 (X.sign == S2) (by kernel_rfl) (by rw [hS]; simp) ?_
        refine W.cl [73] (by kernel_rfl) (p_zabs u1 d1) ?_
        rintro _ _ ⟨rfl, rfl⟩
        refine W.cl [73] (by kernel_rfl) (p_text u1) ?_
        rintro _ _ ⟨rfl, rfl⟩
        refine W.cl [73] (by kernel_rfl) (r_textY S2 u2) ?_
        rintro _ _ ⟨rfl, rfl⟩
        refine W.dt [73] 82 ((txt (dec X.natAbs)).toList == (txt (dec X.natAbs)).toList) (by kernel_rfl) (by simp) ?_
        refine W.cl [82] (by kernel_rfl) (p_zabs u1 d1) ?_
        rintro _ _ ⟨rfl, rfl⟩
        refine W.cl [82] (by kernel_rfl) (p_zbig u1) ?_
        rintro _ _ ⟨u9, d9, rfl, rfl⟩
        refine W.cl [82] (by kernel_rfl) (p_zcmp u9 d9 u1 d1) ?_
        rintro _ _ ⟨rfl, rfl⟩
        refine W.r [82] (.bool (cmpZ (X.natAbs : Int) X == 0)) (by kernel_rfl) ⟨?_, rfl⟩ ent0
        congr 1
        rw [beq_iff_eq]
        unfold cmpZ
        (repeat' split) <;> omega
  · have hz := zerr_zval he
    refine W.dt [26] 28 (zerr x != 0) (by kernel_rfl) (by simp [he]) ?_
    refine W.cl [28] (by kernel_rfl) (p_ztext u1 d1) ?_
    rintro _ _ ⟨rfl, rfl⟩
    refine W.r [] (.bool ((ztxt (zval x)).toList == (⟨#[48]⟩ : ByteArray).toList)) (by kernel_rfl) ⟨?_, rfl⟩ ent0
    rw [hz, show ((ztxt 0).toList == (⟨#[48]⟩ : ByteArray).toList) = true from by decide +kernel]
theorem zedReads_walk (a0 : ByteArray) (h0 : a0.size ≤ 9223372036854775807) (w : World) : Calls Try.prog 9 #[.string a0] w fun e w' => e = .returned (.bool true) ∧ Below w.heap.size w w' := law_calls (p_zedReads a0 h0) w

end Go.Proofs.Ytnjohlimjbmkgaa
namespace Go.Proofs.Ytnjohlimjbmkgaa.zedReads
open Go.ChangeShapes Go.WideShapes Go.ChangeAt Go.RowKit
open Go.ChangeMaps (open_string shut_string)

theorem own : ownKnob Try.prog.godebug = none := by kernel_rfl

set_option maxRecDepth 100000 in
theorem lifted (os : Os) (started : os.Started) (H : Type) (enc : TypeId × Value → H) :
    ReturnsInHanded {} Try.checked os 9 .any (Rows.zedReadsSpec.pre6 enc Try.prog Try.f9 Rows.zedReadsRow.domain false) (Rows.zedReadsSpec.post enc Try.prog Try.f9 false true false false) := by
  refine returnsInHanded_of_change (C := Try.checked) own started (by kernel_rfl) Try.func9
    (ChangeSpec.witness6 (enc := enc) (C := Try.checked) false ⟨#[], #[.string ⟨#[]⟩], []⟩ 8 (by kernel_rfl) (by kernel_rfl) (by kernel_rfl) (by kernel_rfl)) ?_
  intro W base args ds gs before hval0 hW hcnd _
  have hval : ∀ (j : Nat) t v, Try.f9.params[j]? = some t → args[j]? = some v → Value.okWide Try.prog W .any base t v := hval0
  have hW' := hW
  obtain ⟨p, q, hA0, hV, rfl, hfz, hnd⟩ := hW
  have hA : DataW.TrodAll enc Try.prog W 0 (fun _ => true) true Try.f9.params.toList args.toList ds p := hA0
  rw [Try.params9] at hA hval
  obtain ⟨v0, vs0, d0, ds0, p0, q0, hargs, rfl, rfl, h0, r0⟩ := trodAll_cons hA
  obtain ⟨rfl, rfl, rfl⟩ := trodAll_nil r0
  obtain rfl : args = #[v0] := by cases args; simp_all
  obtain ⟨rfl, rfl⟩ := trodVars_none hV
  obtain ⟨a0, rfl, rfl, rfl, w0⟩ := open_string Try.underlying9 (hval 0 9 v0 rfl rfl) h0
  clear hA0 hval0
  simp only [List.append_nil] at hW'
  refine (zedReads_walk a0 w0 W).mono fun e W' ⟨he, hg⟩ => ?_
  subst he
  exact ⟨_, rfl, law_post hW' rfl (fun _ _ _ => (trodAll_cons_mk (shut_bool Try.underlying4 _) trodAll_mk0)) (fun sp _ => (trodAll_cons_mk (shut_string Try.underlying9 w0) trodAll_mk0)) rfl hg⟩

theorem over : Rows.zedReadsRow.holds Try.pinned (OpenSpec.ofChange Rows.zedReadsSpec) :=
  OpenClaim.holds_of_wide 9 Try.f9 rfl rfl rfl rfl rfl rfl rfl ⟨rfl, rfl, rfl, rfl, rfl⟩ rfl rfl rfl rfl rfl (by kernel_rfl) Try.func9 (by kernel_rfl)
    (of_decide_eq_true (by kernel_rfl)) (by unfold Func.isWrapper; first | (rw [if_pos (by decide +kernel)]; kernel_rfl) | (rw [if_neg (by decide +kernel)]; exact ⟨rfl, rfl⟩))
    (fun os started H enc _ => lifted os started H enc)
end Go.Proofs.Ytnjohlimjbmkgaa.zedReads
namespace Go.Proofs.Ytnjohlimjbmkgaa

/-- The statement. -/
theorem zedReads_holds : Rows.ZedReadsSaid := zedReads.over
end Go.Proofs.Ytnjohlimjbmkgaa
