/- Parse of both sides, of a text of at most 4096 signs. -/
import Derived.Test.YtnjohlimjbmkgaaProg
import Derived.Test.YtnjohlimjbmkgaaZedQ
namespace Go.Proofs.Ytnjohlimjbmkgaa
open Go.RowKit

/-- The error of a text. -/
def zperr (s : ByteArray) : Int := if perr (sdig s) = 0 ∧ ¬ (sneg s = true ∧ pval (sdig s) = 0) then 0 else 3
/-- The number of a text. -/
def zval (s : ByteArray) : Int := if zperr s = 0 then (if sneg s = true then -(pval (sdig s) : Int) else (pval (sdig s) : Int)) else 0

theorem perr_two {D : ByteArray} (h : D.size ≤ 4096) : perr D = 0 ∨ perr D = 3 := by
  by_cases hg : Good (bs D)
  · exact .inl (perr_ok hg).1
  · exact .inr (perr_bad h hg).1
theorem zperr_bad {s : ByteArray} (h : perr (sdig s) = 3) : zperr s = 3 ∧ zval s = 0 := by
  have e : zperr s = 3 := by unfold zperr; rw [if_neg (fun H => by rw [h] at H; exact absurd H.1 (by decide))]
  exact ⟨e, by unfold zval; rw [e]; rfl⟩
theorem zperr_m0 {s : ByteArray} (hn : sneg s = true) (h : pval (sdig s) = 0) : zperr s = 3 ∧ zval s = 0 := by
  have e : zperr s = 3 := by unfold zperr; rw [if_neg (fun H => H.2 ⟨hn, h⟩)]
  exact ⟨e, by unfold zval; rw [e]; rfl⟩
theorem zperr_m {s : ByteArray} (hp : perr (sdig s) = 0) (hn : sneg s = true) (h : 0 < pval (sdig s)) : zperr s = 0 ∧ zval s = -(pval (sdig s) : Int) := by
  have e : zperr s = 0 := by unfold zperr; rw [if_pos ⟨hp, fun H => by omega⟩]
  exact ⟨e, by unfold zval; rw [e, if_pos rfl, if_pos hn]⟩
theorem zperr_p {s : ByteArray} (hp : perr (sdig s) = 0) (hn : sneg s = false) : zperr s = 0 ∧ zval s = (pval (sdig s) : Int) := by
  have e : zperr s = 0 := by unfold zperr; rw [if_pos ⟨hp, fun H => by rw [hn] at H; exact absurd H.1 (by decide)⟩]
  exact ⟨e, by unfold zval; rw [e, if_pos rfl, hn, if_neg (by decide)]⟩

theorem zparse_spec (s : ByteArray) (w : World) (h : s.size ≤ 4096) :
    Calls Try.prog 36 #[.string s] w fun e w' => ∃ (u : Sl) (d : Bool), e = .returned (.tuple #[.agg #[.slice u.ao u.n u.c, .bool d], .int .i64 (zperr s)]) ∧ ZS w' u d (zval s) ∧ u.n ≤ s.size ∧ Below w.heap.size w w' := by
  have hD := sdig_size s
  cases hs : sneg s with
  | true =>
    rcases perr_two (show (sdig s).size ≤ 4096 by omega) with hp | hp
    · rcases Nat.eq_zero_or_pos (pval (sdig s)) with hv | hv
      · obtain ⟨e1, e2⟩ := zperr_m0 hs hv
        rw [e1, e2]
        refine (zparse_minus0 s _ h rfl hs hp hv).mono ?_
        rintro e w' ⟨hb, rfl⟩
        exact ⟨⟨none, 0, 0⟩, false, rfl, ⟨NatS.nil _ _ _ (by omega), rfl⟩, Nat.zero_le _, hb⟩
      · obtain ⟨e1, e2⟩ := zperr_m hp hs hv
        rw [e1, e2]
        refine (zparse_minus s _ h rfl hs hp hv).mono ?_
        rintro e w' ⟨u, rfl, hu, hun, hb⟩
        exact ⟨u, true, rfl, ⟨by rw [Int.natAbs_neg]; exact hu, (decide_eq_true (by omega)).symm⟩, hun, hb⟩
    · obtain ⟨e1, e2⟩ := zperr_bad hp
      rw [e1, e2]
      refine (zparse_bad_n s _ h rfl hs hp).mono ?_
      rintro e w' ⟨hb, rfl⟩
      exact ⟨⟨none, 0, 0⟩, false, rfl, ⟨NatS.nil _ _ _ (by omega), rfl⟩, Nat.zero_le _, hb⟩
  | false =>
    rcases perr_two (show (sdig s).size ≤ 4096 by omega) with hp | hp
    · obtain ⟨e1, e2⟩ := zperr_p hp hs
      rw [e1, e2]
      refine (zparse_plus s _ h rfl hs hp).mono ?_
      rintro e w' ⟨u, rfl, hu, hun, hb⟩
      exact ⟨u, false, rfl, ⟨hu, (decide_eq_false (by omega)).symm⟩, hun, hb⟩
    · obtain ⟨e1, e2⟩ := zperr_bad hp
      rw [e1, e2]
      refine (zparse_bad_p s _ h rfl hs hp).mono ?_
      rintro e w' ⟨hb, rfl⟩
      exact ⟨⟨none, 0, 0⟩, false, rfl, ⟨NatS.nil _ _ _ (by omega), rfl⟩, Nat.zero_le _, hb⟩

theorem rmadeS {w : World} {s : Sl} {x : Nat} (S : Int) (hS : S = 1 ∨ S = -1) (h : RefS w s x) (hn : s.n ≤ 1000000) :
    Calls Try.prog 47 #[.int .i64 S, .agg #[.slice s.ao s.n s.c]] w fun e w' => ∃ (u : Sl) (d : Int), e = .returned (.agg #[.int .i64 d, .slice u.ao u.n u.c]) ∧ RS w' u d (S * x) ∧ u.n ≤ s.n ∧ Below w.heap.size w w' := by
  rcases Nat.eq_zero_or_pos x with hx | hx
  · refine (rmade_zero h (by omega) S hx).mono ?_
    rintro e w' ⟨rfl, hb⟩
    subst hx
    exact ⟨⟨none, 0, 0⟩, 0, rfl, ⟨by simpa using RefS.nil w' none 0 (by omega), by simp⟩, Nat.zero_le _, hb⟩
  · refine (rmade_pos h (by omega) S hx).mono ?_
    rintro e w' ⟨rfl, hb⟩
    refine ⟨s, S, rfl, ?_, Nat.le_refl _, hb⟩
    rcases hS with rfl | rfl
    · exact ⟨by simpa using h.up hb, by rw [Int.one_mul]; exact (sgn_p (x := (x : Int)) (by omega)).symm⟩
    · exact ⟨by simpa using h.up hb, (sgn_n (x := -1 * (x : Int)) (by omega)).symm⟩

/-- What Parse answers where the text is not wrong in front. -/
def RZPost (w : World) (D : ByteArray) (S : Int) (e : Ending) (w' : World) : Prop := (Digs (bs D) ∧ ∃ (u : Sl) (d : Int), e = .returned (.tuple #[.agg #[.int .i64 d, .slice u.ao u.n u.c], .int .i64 0]) ∧ RS w' u d (S * (pval D : Int)) ∧ u.n ≤ 4096 ∧ Below w.heap.size w w') ∨ (¬ Digs (bs D) ∧ e = .returned (.tuple #[.agg #[.int .i64 0, .slice none 0 0], .int .i64 3]) ∧ Below w.heap.size w w')

set_option maxRecDepth 100000 in
set_option maxHeartbeats 1600000 in
theorem rzparse_empty_p {w : World} (s : ByteArray) (h : s.size ≤ 4096) (hd : s.size = 0) :
    Calls Try.prog 37 #[.string s] w fun e w' => e = .returned (.tuple #[.agg #[.int .i64 0, .slice none 0 0], .int .i64 3]) ∧ Below w.heap.size w w' := by
  have hl : decide ((4097 : Int) < (s.size : Int)) = false := by simp; omega
  have hE1 := ent_new w (.cells #[.int .i64 0, .slice none 0 0] 28)
  have hB := (Grew.refl w).alloc (.cells #[.int .i64 0, .slice none 0 0] 28)
  have chE1a := box2_c0 hE1
  have chE1b := box2_c1 hE1
  have fhE1a := box2_f hE1 0
  have fhE1b := box2_f hE1 1
  have hne : ((s.size : Int) == 0) = true := beq_iff_eq.2 (by omega)
  have hp0 : decide ((0 : Int) < (s.size : Int)) = false := decide_eq_false (by omega)
  go_enter Try.func37, Try.ntmps37
  go_wp2
  exact bodyPost_ret (v := .tuple #[.agg #[.int .i64 0, .slice none 0 0], .int .i64 3]) (by simp [results, Try.results37, go_sem]) rfl ⟨rfl, (Grew.refl w).alloc _⟩

set_option maxRecDepth 100000 in
set_option maxHeartbeats 1600000 in
theorem rzparse_zero_p {w : World} (s : ByteArray) (h : s.size ≤ 4096) (h0 : 0 < s.size) (hs : (s[0]'h0).toNat ≠ 45) (h1 : 1 < s.size) (hd : 0 < s.size) (hz : (s[0]'hd).toNat = 48) :
    Calls Try.prog 37 #[.string s] w fun e w' => e = .returned (.tuple #[.agg #[.int .i64 0, .slice none 0 0], .int .i64 3]) ∧ Below w.heap.size w w' := by
  have hl : decide ((4097 : Int) < (s.size : Int)) = false := by simp; omega
  have hE1 := ent_new w (.cells #[.int .i64 0, .slice none 0 0] 28)
  have hB := (Grew.refl w).alloc (.cells #[.int .i64 0, .slice none 0 0] 28)
  have chE1a := box2_c0 hE1
  have chE1b := box2_c1 hE1
  have fhE1a := box2_f hE1 0
  have fhE1b := box2_f hE1 1
  have hp0 : (0 : Int) < (s.size : Int) := by omega
  have h45 : (((s[0]'h0).toNat : Int) == 45) = false := beq_eq_false_iff_ne.2 (by omega)
  have hne : ((s.size : Int) == 0) = false := beq_eq_false_iff_ne.2 (by omega)
  have h48 : (((s[0]'hd).toNat : Int) == 48) = true := by rw [hz]; rfl
  have hl1 : (1 : Int) < (s.size : Int) := by omega
  go_enter Try.func37, Try.ntmps37
  go_wp2
  exact bodyPost_ret (v := .tuple #[.agg #[.int .i64 0, .slice none 0 0], .int .i64 3]) (by simp [results, Try.results37, go_sem]) rfl ⟨rfl, (Grew.refl w).alloc _⟩

set_option maxRecDepth 100000 in
set_option maxHeartbeats 1600000 in
theorem rzparse_empty_n {w : World} (s D : ByteArray) (h : s.size ≤ 4096) (h0 : 0 < s.size) (hs : (s[0]'h0).toNat = 45) (hD : s.extract 1 s.size = D) (hd : D.size = 0) :
    Calls Try.prog 37 #[.string s] w fun e w' => e = .returned (.tuple #[.agg #[.int .i64 0, .slice none 0 0], .int .i64 3]) ∧ Below w.heap.size w w' := by
  have hl : decide ((4097 : Int) < (s.size : Int)) = false := by simp; omega
  have hE1 := ent_new w (.cells #[.int .i64 0, .slice none 0 0] 28)
  have hB := (Grew.refl w).alloc (.cells #[.int .i64 0, .slice none 0 0] 28)
  have chE1a := box2_c0 hE1
  have chE1b := box2_c1 hE1
  have fhE1a := box2_f hE1 0
  have fhE1b := box2_f hE1 1
  have hp0 : (0 : Int) < (s.size : Int) := by omega
  have h45 : (((s[0]'h0).toNat : Int) == 45) = true := by rw [hs]; rfl
  have hne : ((D.size : Int) == 0) = true := beq_iff_eq.2 (by omega)
  go_enter Try.func37, Try.ntmps37
  go_wp2
  exact bodyPost_ret (v := .tuple #[.agg #[.int .i64 0, .slice none 0 0], .int .i64 3]) (by simp [results, Try.results37, go_sem]) rfl ⟨rfl, (Grew.refl w).alloc _⟩

set_option maxRecDepth 100000 in
set_option maxHeartbeats 1600000 in
theorem rzparse_zero_n {w : World} (s D : ByteArray) (h : s.size ≤ 4096) (h0 : 0 < s.size) (hs : (s[0]'h0).toNat = 45) (hD : s.extract 1 s.size = D) (hd : 0 < D.size) (hz : (D[0]'hd).toNat = 48) :
    Calls Try.prog 37 #[.string s] w fun e w' => e = .returned (.tuple #[.agg #[.int .i64 0, .slice none 0 0], .int .i64 3]) ∧ Below w.heap.size w w' := by
  have hl : decide ((4097 : Int) < (s.size : Int)) = false := by simp; omega
  have hE1 := ent_new w (.cells #[.int .i64 0, .slice none 0 0] 28)
  have hB := (Grew.refl w).alloc (.cells #[.int .i64 0, .slice none 0 0] 28)
  have chE1a := box2_c0 hE1
  have chE1b := box2_c1 hE1
  have fhE1a := box2_f hE1 0
  have fhE1b := box2_f hE1 1
  have hp0 : (0 : Int) < (s.size : Int) := by omega
  have h45 : (((s[0]'h0).toNat : Int) == 45) = true := by rw [hs]; rfl
  have hne : ((D.size : Int) == 0) = false := beq_eq_false_iff_ne.2 (by omega)
  have h48 : (((D[0]'hd).toNat : Int) == 48) = true := by rw [hz]; rfl
  by_cases hl2 : 1 < D.size
  · have hl1 : (1 : Int) < (D.size : Int) := by omega
    go_enter Try.func37, Try.ntmps37
    go_wp2
    exact bodyPost_ret (v := .tuple #[.agg #[.int .i64 0, .slice none 0 0], .int .i64 3]) (by simp [results, Try.results37, go_sem]) rfl ⟨rfl, (Grew.refl w).alloc _⟩
  · have hl1 : decide ((1 : Int) < (D.size : Int)) = false := by simp; omega
    go_enter Try.func37, Try.ntmps37
    go_wp2
    exact bodyPost_ret (v := .tuple #[.agg #[.int .i64 0, .slice none 0 0], .int .i64 3]) (by simp [results, Try.results37, go_sem]) rfl ⟨rfl, (Grew.refl w).alloc _⟩

set_option maxRecDepth 100000 in
set_option maxHeartbeats 1600000 in
theorem rzparse_48_p {w : World} (s : ByteArray) (h : s.size ≤ 4096) (h0 : 0 < s.size) (hs : (s[0]'h0).toNat ≠ 45) (hd : 0 < s.size) (hgood : Digs (bs s) → Good (bs s)) (hz : (s[0]'hd).toNat ≠ 48) :
    Calls Try.prog 37 #[.string s] w fun e w' => RZPost w s 1 e w' := by
  have hl : decide ((4097 : Int) < (s.size : Int)) = false := by simp; omega
  have hp0 : (0 : Int) < (s.size : Int) := by omega
  have h45 : (((s[0]'h0).toNat : Int) == 45) = false := beq_eq_false_iff_ne.2 (by omega)
  have hne : ((s.size : Int) == 0) = false := beq_eq_false_iff_ne.2 (by omega)
  have h48 : (((s[0]'hd).toNat : Int) == 48) = false := beq_eq_false_iff_ne.2 (by omega)
  have hE0 := ent_new w (.cells #[.int .i64 0, .slice none 0 0] 28)
  have hB := (Grew.refl w).alloc (.cells #[.int .i64 0, .slice none 0 0] 28)
  have hR := box2_c0 hE0
  have hR1 := box2_c1 hE0
  have hRf := box2_f hE0 0
  have hRg := box2_f hE0 1
  go_enter Try.func37, Try.ntmps37
  go_wp2
  generalize w.alloc (.cells #[.int .i64 0, .slice none 0 0] 28) = W1 at *
  go_loop [6] (fun i => ∃ k : Nat, i = .int .i64 k ∧ k ≤ s.size ∧ Digs ((bs s).take k)) (fun i => s.size - (intOf i).toNat)
  case atStart => exact ⟨0, rfl, Nat.zero_le _, by simpa using Digs.nil⟩
  case round =>
    obtain ⟨k, rfl, hk, hdk⟩ := hrel
    by_cases hlt : k < s.size
    · have hk1 : (k : Int) < (s.size : Int) := by omega
      have hDg := bs_dg s k hlt
      obtain ⟨Z, hZ⟩ : ∃ Z : Nat, (s[k]'hlt).toNat = Z := ⟨_, rfl⟩
      have hDb : Z < 256 := by have := (s[k]'hlt).toNat_lt; omega
      rw [hZ] at hDg
      have HDg := Lib.hid hDg; clear hDg
      have hDm : ¬ (48 ≤ Z ∧ Z ≤ 57) → ¬ Digs (bs s) := fun h hd => h (by
        have := dg_digs hd (i := k) (by rw [bs_size]; exact hlt)
        rw [HDg.out] at this
        exact this)
      by_cases hlo : Z < 48
      · have hloI : (Z : Int) < 48 := by omega
        have hnd := hDm (by omega)
        clear hDm
        go_wp2
        have hq := box2_set hE0 (.int .i64 0) (.slice none 0 0)
        have hq0 := box2_c0 hq
        have hq1 := box2_c1 hq
        have hq9 := hB.set2 (k := w.heap.size) (by omega) (.int .i64 0) (.slice none 0 0)
        clear hR hR1 hRf hRg
        generalize (W1.setCell ⟨w.heap.size, 0, none⟩ (.int .i64 0)).setCell ⟨w.heap.size, 1, none⟩ (.slice none 0 0) = W9 at *
        exact bodyPost_ret (v := .tuple #[.agg #[.int .i64 0, .slice none 0 0], .int .i64 3]) (by simp [results, Try.results37, go_sem, hq0, hq1]) rfl (.inr ⟨hnd, rfl, hq9⟩)
      · have hloI : decide ((Z : Int) < 48) = false := by simp; omega
        by_cases hhi : 57 < Z
        · have hhiI : (57 : Int) < Z := by omega
          have hnd := hDm (by omega)
          clear hDm
          go_wp2
          have hq := box2_set hE0 (.int .i64 0) (.slice none 0 0)
          have hq0 := box2_c0 hq
          have hq1 := box2_c1 hq
          have hq9 := hB.set2 (k := w.heap.size) (by omega) (.int .i64 0) (.slice none 0 0)
          clear hR hR1 hRf hRg
          generalize (W1.setCell ⟨w.heap.size, 0, none⟩ (.int .i64 0)).setCell ⟨w.heap.size, 1, none⟩ (.slice none 0 0) = W9 at *
          exact bodyPost_ret (v := .tuple #[.agg #[.int .i64 0, .slice none 0 0], .int .i64 3]) (by simp [results, Try.results37, go_sem, hq0, hq1]) rfl (.inr ⟨hnd, rfl, hq9⟩)
        · have hhiI : decide ((57 : Int) < Z) = false := by simp; omega
          have hd1 : Digs ((bs s).take (k + 1)) := by
            rw [List.take_succ_eq_append_getElem (by rw [bs_size]; exact hlt)]
            refine hdk.append ?_
            intro d hd
            have e1 := HDg.out
            rw [dg_of (by rw [bs_size]; exact hlt)] at e1
            have : d = Z := by rw [← e1]; simpa using hd
            omega
          clear hDm
          go_wp2
          go_round
          case rel => exact ⟨k + 1, by go_num, by omega, hd1⟩
          case measure => simp [intOf]; omega
    · have hkk : k = s.size := by omega
      subst hkk
      have hall : (bs s).take s.size = bs s := List.take_of_length_le (by rw [bs_size]; exact Nat.le_refl _)
      rw [hall] at hdk
      have hpe := (perr_ok (hgood hdk)).1
      have Hpe := Lib.hid hpe
      clear hall hpe hgood
      have hsz : decide ((s.size : Int) < (s.size : Int)) = false := by simp
      have Hdk := Lib.hid hdk
      clear hdk
      go_wp2_with fail
      refine (rparse_spec s _ (by omega)).mono ?_
      rintro e w2 ⟨a, rfl, ha, han, -, hb1⟩
      rw [Hpe.out]
      have ha1 : Grew w2 ((w2.alloc (.cells #[.slice a.ao a.n a.c] 26))) := (Grew.refl w2).alloc (.cells #[.slice a.ao a.n a.c] 26)
      have hg1' := (Grew.call (Grew.refl _) hb1).trans ha1
      replace hE0 := ent_grew hg1' hE0
      replace ha := ha.grew ha1
      have hEa := ent_new w2 (.cells #[.slice a.ao a.n a.c] 26)
      replace hB := hB.trans hg1'
      clear hg1' ha1 hb1 hR hR1 hRf hRg
      have chE0a := box2_c0 hE0
      have chE0b := box2_c1 hE0
      have fhE0a := box2_f hE0 0
      have fhE0b := box2_f hE0 1
      have chEa := box_cell hEa
      go_wp2_with fail
      generalize (w2.alloc (.cells #[.slice a.ao a.n a.c] 26)) = W2 at *
      refine (rmadeS 1 (by decide) ha (by omega)).mono ?_
      rintro e w3 ⟨u, d, rfl, hu, hun, hb2⟩
      have ha2 : Grew w3 (w3) := Grew.refl w3
      have hg2' := (Grew.call (Grew.refl _) hb2).trans ha2
      replace ha := ha.grew hg2'
      replace hE0 := ent_grew hg2' hE0
      replace hEa := ent_grew hg2' hEa
      replace hu := hu.grew ha2
      replace hB := hB.trans hg2'
      clear hg2' ha2 hb2 chE0a chE0b fhE0a fhE0b chEa
      have chE0a := box2_c0 hE0
      have chE0b := box2_c1 hE0
      have fhE0a := box2_f hE0 0
      have fhE0b := box2_f hE0 1
      have chEa := box_cell hEa
      go_wp2
      have hq := box2_set hE0 (.int .i64 d) (.slice u.ao u.n u.c)
      have hq0 := box2_c0 hq
      have hq1 := box2_c1 hq
      have hq9 := hB.set2 (k := w.heap.size) (by omega) (.int .i64 d) (.slice u.ao u.n u.c)
      have hu2 := (hu).kp ((Kp.refl _).set2 hE0 (by decide) (.int .i64 d) (.slice u.ao u.n u.c))
      clear hq
      clear chE0a chE0b fhE0a fhE0b chEa
      generalize (w3.setCell ⟨w.heap.size, 0, none⟩ (.int .i64 d)).setCell ⟨w.heap.size, 1, none⟩ (.slice u.ao u.n u.c) = W9 at *
      refine bodyPost_ret (v := .tuple #[.agg #[.int .i64 d, .slice u.ao u.n u.c], .int .i64 0]) (by simp [results, Try.results37, go_sem, hq0, hq1]) rfl (.inl ⟨Hdk.out, u, d, rfl, hu2, by omega, hq9⟩)

set_option maxRecDepth 100000 in
set_option maxHeartbeats 1600000 in
theorem rzparse_one_p {w : World} (s : ByteArray) (h : s.size ≤ 4096) (h0 : 0 < s.size) (hs : (s[0]'h0).toNat ≠ 45) (hd : 0 < s.size) (hgood : Digs (bs s) → Good (bs s)) (hz : (s[0]'hd).toNat = 48) (h1 : s.size = 1) :
    Calls Try.prog 37 #[.string s] w fun e w' => RZPost w s 1 e w' := by
  have hl : decide ((4097 : Int) < (s.size : Int)) = false := by simp; omega
  have hp0 : (0 : Int) < (s.size : Int) := by omega
  have h45 : (((s[0]'h0).toNat : Int) == 45) = false := beq_eq_false_iff_ne.2 (by omega)
  have hne : ((s.size : Int) == 0) = false := beq_eq_false_iff_ne.2 (by omega)
  have h48 : (((s[0]'hd).toNat : Int) == 48) = true := by rw [hz]; rfl
  have hl1 : decide ((1 : Int) < (s.size : Int)) = false := by simp; omega
  have hE0 := ent_new w (.cells #[.int .i64 0, .slice none 0 0] 28)
  have hB := (Grew.refl w).alloc (.cells #[.int .i64 0, .slice none 0 0] 28)
  have hR := box2_c0 hE0
  have hR1 := box2_c1 hE0
  have hRf := box2_f hE0 0
  have hRg := box2_f hE0 1
  go_enter Try.func37, Try.ntmps37
  go_wp2
  generalize w.alloc (.cells #[.int .i64 0, .slice none 0 0] 28) = W1 at *
  go_loop [6] (fun i => ∃ k : Nat, i = .int .i64 k ∧ k ≤ s.size ∧ Digs ((bs s).take k)) (fun i => s.size - (intOf i).toNat)
  case atStart => exact ⟨0, rfl, Nat.zero_le _, by simpa using Digs.nil⟩
  case round =>
    obtain ⟨k, rfl, hk, hdk⟩ := hrel
    by_cases hlt : k < s.size
    · have hk1 : (k : Int) < (s.size : Int) := by omega
      have hDg := bs_dg s k hlt
      obtain ⟨Z, hZ⟩ : ∃ Z : Nat, (s[k]'hlt).toNat = Z := ⟨_, rfl⟩
      have hDb : Z < 256 := by have := (s[k]'hlt).toNat_lt; omega
      rw [hZ] at hDg
      have HDg := Lib.hid hDg; clear hDg
      have hDm : ¬ (48 ≤ Z ∧ Z ≤ 57) → ¬ Digs (bs s) := fun h hd => h (by
        have := dg_digs hd (i := k) (by rw [bs_size]; exact hlt)
        rw [HDg.out] at this
        exact this)
      by_cases hlo : Z < 48
      · have hloI : (Z : Int) < 48 := by omega
        have hnd := hDm (by omega)
        clear hDm
        go_wp2
        have hq := box2_set hE0 (.int .i64 0) (.slice none 0 0)
        have hq0 := box2_c0 hq
        have hq1 := box2_c1 hq
        have hq9 := hB.set2 (k := w.heap.size) (by omega) (.int .i64 0) (.slice none 0 0)
        clear hR hR1 hRf hRg
        generalize (W1.setCell ⟨w.heap.size, 0, none⟩ (.int .i64 0)).setCell ⟨w.heap.size, 1, none⟩ (.slice none 0 0) = W9 at *
        exact bodyPost_ret (v := .tuple #[.agg #[.int .i64 0, .slice none 0 0], .int .i64 3]) (by simp [results, Try.results37, go_sem, hq0, hq1]) rfl (.inr ⟨hnd, rfl, hq9⟩)
      · have hloI : decide ((Z : Int) < 48) = false := by simp; omega
        by_cases hhi : 57 < Z
        · have hhiI : (57 : Int) < Z := by omega
          have hnd := hDm (by omega)
          clear hDm
          go_wp2
          have hq := box2_set hE0 (.int .i64 0) (.slice none 0 0)
          have hq0 := box2_c0 hq
          have hq1 := box2_c1 hq
          have hq9 := hB.set2 (k := w.heap.size) (by omega) (.int .i64 0) (.slice none 0 0)
          clear hR hR1 hRf hRg
          generalize (W1.setCell ⟨w.heap.size, 0, none⟩ (.int .i64 0)).setCell ⟨w.heap.size, 1, none⟩ (.slice none 0 0) = W9 at *
          exact bodyPost_ret (v := .tuple #[.agg #[.int .i64 0, .slice none 0 0], .int .i64 3]) (by simp [results, Try.results37, go_sem, hq0, hq1]) rfl (.inr ⟨hnd, rfl, hq9⟩)
        · have hhiI : decide ((57 : Int) < Z) = false := by simp; omega
          have hd1 : Digs ((bs s).take (k + 1)) := by
            rw [List.take_succ_eq_append_getElem (by rw [bs_size]; exact hlt)]
            refine hdk.append ?_
            intro d hd
            have e1 := HDg.out
            rw [dg_of (by rw [bs_size]; exact hlt)] at e1
            have : d = Z := by rw [← e1]; simpa using hd
            omega
          clear hDm
          go_wp2
          go_round
          case rel => exact ⟨k + 1, by go_num, by omega, hd1⟩
          case measure => simp [intOf]; omega
    · have hkk : k = s.size := by omega
      subst hkk
      have hall : (bs s).take s.size = bs s := List.take_of_length_le (by rw [bs_size]; exact Nat.le_refl _)
      rw [hall] at hdk
      have hpe := (perr_ok (hgood hdk)).1
      have Hpe := Lib.hid hpe
      clear hall hpe hgood
      have hsz : decide ((s.size : Int) < (s.size : Int)) = false := by simp
      have Hdk := Lib.hid hdk
      clear hdk
      go_wp2_with fail
      refine (rparse_spec s _ (by omega)).mono ?_
      rintro e w2 ⟨a, rfl, ha, han, -, hb1⟩
      rw [Hpe.out]
      have ha1 : Grew w2 ((w2.alloc (.cells #[.slice a.ao a.n a.c] 26))) := (Grew.refl w2).alloc (.cells #[.slice a.ao a.n a.c] 26)
      have hg1' := (Grew.call (Grew.refl _) hb1).trans ha1
      replace hE0 := ent_grew hg1' hE0
      replace ha := ha.grew ha1
      have hEa := ent_new w2 (.cells #[.slice a.ao a.n a.c] 26)
      replace hB := hB.trans hg1'
      clear hg1' ha1 hb1 hR hR1 hRf hRg
      have chE0a := box2_c0 hE0
      have chE0b := box2_c1 hE0
      have fhE0a := box2_f hE0 0
      have fhE0b := box2_f hE0 1
      have chEa := box_cell hEa
      go_wp2_with fail
      generalize (w2.alloc (.cells #[.slice a.ao a.n a.c] 26)) = W2 at *
      refine (rmadeS 1 (by decide) ha (by omega)).mono ?_
      rintro e w3 ⟨u, d, rfl, hu, hun, hb2⟩
      have ha2 : Grew w3 (w3) := Grew.refl w3
      have hg2' := (Grew.call (Grew.refl _) hb2).trans ha2
      replace ha := ha.grew hg2'
      replace hE0 := ent_grew hg2' hE0
      replace hEa := ent_grew hg2' hEa
      replace hu := hu.grew ha2
      replace hB := hB.trans hg2'
      clear hg2' ha2 hb2 chE0a chE0b fhE0a fhE0b chEa
      have chE0a := box2_c0 hE0
      have chE0b := box2_c1 hE0
      have fhE0a := box2_f hE0 0
      have fhE0b := box2_f hE0 1
      have chEa := box_cell hEa
      go_wp2
      have hq := box2_set hE0 (.int .i64 d) (.slice u.ao u.n u.c)
      have hq0 := box2_c0 hq
      have hq1 := box2_c1 hq
      have hq9 := hB.set2 (k := w.heap.size) (by omega) (.int .i64 d) (.slice u.ao u.n u.c)
      have hu2 := (hu).kp ((Kp.refl _).set2 hE0 (by decide) (.int .i64 d) (.slice u.ao u.n u.c))
      clear hq
      clear chE0a chE0b fhE0a fhE0b chEa
      generalize (w3.setCell ⟨w.heap.size, 0, none⟩ (.int .i64 d)).setCell ⟨w.heap.size, 1, none⟩ (.slice u.ao u.n u.c) = W9 at *
      refine bodyPost_ret (v := .tuple #[.agg #[.int .i64 d, .slice u.ao u.n u.c], .int .i64 0]) (by simp [results, Try.results37, go_sem, hq0, hq1]) rfl (.inl ⟨Hdk.out, u, d, rfl, hu2, by omega, hq9⟩)

set_option maxRecDepth 100000 in
set_option maxHeartbeats 1600000 in
theorem rzparse_48_n {w : World} (s D : ByteArray) (h : s.size ≤ 4096) (h0 : 0 < s.size) (hs : (s[0]'h0).toNat = 45) (hD : s.extract 1 s.size = D) (hd : 0 < D.size) (hgood : Digs (bs D) → Good (bs D)) (hz : (D[0]'hd).toNat ≠ 48) :
    Calls Try.prog 37 #[.string s] w fun e w' => RZPost w D (-1) e w' := by
  have hl : decide ((4097 : Int) < (s.size : Int)) = false := by simp; omega
  have hp0 : (0 : Int) < (s.size : Int) := by omega
  have h45 : (((s[0]'h0).toNat : Int) == 45) = true := by rw [hs]; rfl
  have hne : ((D.size : Int) == 0) = false := beq_eq_false_iff_ne.2 (by omega)
  have hds : D.size ≤ s.size := by rw [← hD]; simp
  have h48 : (((D[0]'hd).toNat : Int) == 48) = false := beq_eq_false_iff_ne.2 (by omega)
  have hE0 := ent_new w (.cells #[.int .i64 0, .slice none 0 0] 28)
  have hB := (Grew.refl w).alloc (.cells #[.int .i64 0, .slice none 0 0] 28)
  have hR := box2_c0 hE0
  have hR1 := box2_c1 hE0
  have hRf := box2_f hE0 0
  have hRg := box2_f hE0 1
  go_enter Try.func37, Try.ntmps37
  go_wp2
  generalize w.alloc (.cells #[.int .i64 0, .slice none 0 0] 28) = W1 at *
  go_loop [6] (fun i => ∃ k : Nat, i = .int .i64 k ∧ k ≤ D.size ∧ Digs ((bs D).take k)) (fun i => D.size - (intOf i).toNat)
  case atStart => exact ⟨0, rfl, Nat.zero_le _, by simpa using Digs.nil⟩
  case round =>
    obtain ⟨k, rfl, hk, hdk⟩ := hrel
    by_cases hlt : k < D.size
    · have hk1 : (k : Int) < (D.size : Int) := by omega
      have hDg := bs_dg D k hlt
      obtain ⟨Z, hZ⟩ : ∃ Z : Nat, (D[k]'hlt).toNat = Z := ⟨_, rfl⟩
      have hDb : Z < 256 := by have := (D[k]'hlt).toNat_lt; omega
      rw [hZ] at hDg
      have HDg := Lib.hid hDg; clear hDg
      have hDm : ¬ (48 ≤ Z ∧ Z ≤ 57) → ¬ Digs (bs D) := fun h hd => h (by
        have := dg_digs hd (i := k) (by rw [bs_size]; exact hlt)
        rw [HDg.out] at this
        exact this)
      by_cases hlo : Z < 48
      · have hloI : (Z : Int) < 48 := by omega
        have hnd := hDm (by omega)
        clear hDm
        go_wp2
        have hq := box2_set hE0 (.int .i64 0) (.slice none 0 0)
        have hq0 := box2_c0 hq
        have hq1 := box2_c1 hq
        have hq9 := hB.set2 (k := w.heap.size) (by omega) (.int .i64 0) (.slice none 0 0)
        clear hR hR1 hRf hRg
        generalize (W1.setCell ⟨w.heap.size, 0, none⟩ (.int .i64 0)).setCell ⟨w.heap.size, 1, none⟩ (.slice none 0 0) = W9 at *
        exact bodyPost_ret (v := .tuple #[.agg #[.int .i64 0, .slice none 0 0], .int .i64 3]) (by simp [results, Try.results37, go_sem, hq0, hq1]) rfl (.inr ⟨hnd, rfl, hq9⟩)
      · have hloI : decide ((Z : Int) < 48) = false := by simp; omega
        by_cases hhi : 57 < Z
        · have hhiI : (57 : Int) < Z := by omega
          have hnd := hDm (by omega)
          clear hDm
          go_wp2
          have hq := box2_set hE0 (.int .i64 0) (.slice none 0 0)
          have hq0 := box2_c0 hq
          have hq1 := box2_c1 hq
          have hq9 := hB.set2 (k := w.heap.size) (by omega) (.int .i64 0) (.slice none 0 0)
          clear hR hR1 hRf hRg
          generalize (W1.setCell ⟨w.heap.size, 0, none⟩ (.int .i64 0)).setCell ⟨w.heap.size, 1, none⟩ (.slice none 0 0) = W9 at *
          exact bodyPost_ret (v := .tuple #[.agg #[.int .i64 0, .slice none 0 0], .int .i64 3]) (by simp [results, Try.results37, go_sem, hq0, hq1]) rfl (.inr ⟨hnd, rfl, hq9⟩)
        · have hhiI : decide ((57 : Int) < Z) = false := by simp; omega
          have hd1 : Digs ((bs D).take (k + 1)) := by
            rw [List.take_succ_eq_append_getElem (by rw [bs_size]; exact hlt)]
            refine hdk.append ?_
            intro d hd
            have e1 := HDg.out
            rw [dg_of (by rw [bs_size]; exact hlt)] at e1
            have : d = Z := by rw [← e1]; simpa using hd
            omega
          clear hDm
          go_wp2
          go_round
          case rel => exact ⟨k + 1, by go_num, by omega, hd1⟩
          case measure => simp [intOf]; omega
    · have hkk : k = D.size := by omega
      subst hkk
      have hall : (bs D).take D.size = bs D := List.take_of_length_le (by rw [bs_size]; exact Nat.le_refl _)
      rw [hall] at hdk
      have hpe := (perr_ok (hgood hdk)).1
      have Hpe := Lib.hid hpe
      clear hall hpe hgood
      have hsz : decide ((D.size : Int) < (D.size : Int)) = false := by simp
      have Hdk := Lib.hid hdk
      clear hdk
      go_wp2_with fail
      refine (rparse_spec D _ (by omega)).mono ?_
      rintro e w2 ⟨a, rfl, ha, han, -, hb1⟩
      rw [Hpe.out]
      have ha1 : Grew w2 ((w2.alloc (.cells #[.slice a.ao a.n a.c] 26))) := (Grew.refl w2).alloc (.cells #[.slice a.ao a.n a.c] 26)
      have hg1' := (Grew.call (Grew.refl _) hb1).trans ha1
      replace hE0 := ent_grew hg1' hE0
      replace ha := ha.grew ha1
      have hEa := ent_new w2 (.cells #[.slice a.ao a.n a.c] 26)
      replace hB := hB.trans hg1'
      clear hg1' ha1 hb1 hR hR1 hRf hRg
      have chE0a := box2_c0 hE0
      have chE0b := box2_c1 hE0
      have fhE0a := box2_f hE0 0
      have fhE0b := box2_f hE0 1
      have chEa := box_cell hEa
      go_wp2_with fail
      generalize (w2.alloc (.cells #[.slice a.ao a.n a.c] 26)) = W2 at *
      refine (rmadeS (-1) (by decide) ha (by omega)).mono ?_
      rintro e w3 ⟨u, d, rfl, hu, hun, hb2⟩
      have ha2 : Grew w3 (w3) := Grew.refl w3
      have hg2' := (Grew.call (Grew.refl _) hb2).trans ha2
      replace ha := ha.grew hg2'
      replace hE0 := ent_grew hg2' hE0
      replace hEa := ent_grew hg2' hEa
      replace hu := hu.grew ha2
      replace hB := hB.trans hg2'
      clear hg2' ha2 hb2 chE0a chE0b fhE0a fhE0b chEa
      have chE0a := box2_c0 hE0
      have chE0b := box2_c1 hE0
      have fhE0a := box2_f hE0 0
      have fhE0b := box2_f hE0 1
      have chEa := box_cell hEa
      go_wp2
      have hq := box2_set hE0 (.int .i64 d) (.slice u.ao u.n u.c)
      have hq0 := box2_c0 hq
      have hq1 := box2_c1 hq
      have hq9 := hB.set2 (k := w.heap.size) (by omega) (.int .i64 d) (.slice u.ao u.n u.c)
      have hu2 := (hu).kp ((Kp.refl _).set2 hE0 (by decide) (.int .i64 d) (.slice u.ao u.n u.c))
      clear hq
      clear chE0a chE0b fhE0a fhE0b chEa
      generalize (w3.setCell ⟨w.heap.size, 0, none⟩ (.int .i64 d)).setCell ⟨w.heap.size, 1, none⟩ (.slice u.ao u.n u.c) = W9 at *
      refine bodyPost_ret (v := .tuple #[.agg #[.int .i64 d, .slice u.ao u.n u.c], .int .i64 0]) (by simp [results, Try.results37, go_sem, hq0, hq1]) rfl (.inl ⟨Hdk.out, u, d, rfl, hu2, by omega, hq9⟩)


end Go.Proofs.Ytnjohlimjbmkgaa
