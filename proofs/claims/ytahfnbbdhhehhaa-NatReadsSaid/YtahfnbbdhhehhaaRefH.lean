/- The reference: Div. -/
import Derived.Test.YtahfnbbdhhehhaaProg
import Derived.Test.YtahfnbbdhhehhaaRefG
import Derived.Deep.RegionHeld3
import Derived.Deep.CutBlock
import Derived.Test.YtahfnbbdhhehhaaLawA
namespace Go.Proofs.Ytahfnbbdhhehhaa
open Go.RowKit

theorem IntsAt.set_far {w : World} {T : TypeId} {k : IntKind} {s : Sl} {l : List Nat} (h : IntsAt w T k s l) {a : Addr} (hf : 0 < s.n → ∀ b off, s.ao = some ⟨b, off, none⟩ → b ≠ a.block) (v : Value) : IntsAt (w.setCell a v) T k s l := by
  obtain ⟨h1, h2, h3, h4⟩ := h
  refine ⟨h1, h2, h3, fun hp => ?_⟩
  obtain ⟨b, off, cur, ha, hh, hr⟩ := h4 hp
  exact ⟨b, off, cur, ha, by rw [Below.heap_setCell _ _ _ _ (hf hp b off ha)]; exact hh, hr⟩

/-- cut, and where what it answers lies. -/
theorem rcut_at {w : World} {s : Sl} {l : List Nat} (h : IntsAt w 3 .i64 s l) (hd : ∀ d ∈ l, d < 10000) :
    Calls Try.prog 46 #[.slice s.ao s.n s.c] w fun e w' =>
      ∃ t : Sl, e = .returned (.agg #[.slice t.ao t.n t.c]) ∧ RefS w' t (val 10000 l) ∧ t.n ≤ s.n ∧ t.ao = s.ao ∧ Below w.heap.size w w' := by
  refine (rcut_walk s.ao s.n s.c l w h).mono ?_
  rintro e w' ⟨k, hk, rfl, h0, h1, hb⟩
  have hl := h.1
  have hn := norm_take (l := l) (k := k) (by omega) (fun i a b => h0 i a (by omega)) h1 10000
  exact ⟨⟨s.ao, k, s.c⟩, rfl, ⟨l.take k, (h.cut k s.c hk (by have := h.2.1; omega) (Nat.le_refl _)).up hb, fun d hdm => hd d (List.mem_of_mem_take hdm), hn.1, hn.2⟩, hk, rfl, hb⟩

/-- Div's memory. -/
def RDivSt (w : World) (s t : Sl) (R g : Nat) (o : List Nat) (sr : Sl) (P : Nat) (wr : World) : Prop :=
  wr.heap[w.heap.size]? = some (.cells #[.slice s.ao s.n s.c] 30 (0, 0)) ∧ wr.heap[w.heap.size + 1]? = some (.cells #[.slice t.ao t.n t.c] 30 (0, 0)) ∧
  wr.heap[w.heap.size + 1 + 1]? = some (.cells #[.slice none 0 0] 30 (0, 0)) ∧ wr.heap[w.heap.size + 1 + 1 + 1]? = some (.cells #[.slice none 0 0] 30 (0, 0)) ∧
  wr.heap[R]? = some (.cells #[.slice sr.ao sr.n sr.c] 30 (0, 0)) ∧ RefS wr sr P ∧ Own wr (w.heap.size + 4) 3 .i64 (.slice (some ⟨g, 0, none⟩) s.n s.n) o ∧ Below w.heap.size w wr

theorem RDivSt.up {w : World} {s t : Sl} {R g : Nat} {o : List Nat} {sr : Sl} {P : Nat} {wr w' : World} (h : RDivSt w s t R g o sr P wr) (hb : Below wr.heap.size wr w') : RDivSt w s t R g o sr P w' :=
  ⟨ent_up hb h.1, ent_up hb h.2.1, ent_up hb h.2.2.1, ent_up hb h.2.2.2.1, ent_up hb h.2.2.2.2.1, h.2.2.2.2.2.1.up hb, h.2.2.2.2.2.2.1.below hb (Nat.le_refl _), h.2.2.2.2.2.2.2.trans (hb.mono h.2.2.2.2.2.2.2.size)⟩
theorem RDivSt.drewN {w : World} {s t : Sl} {R g : Nat} {o : List Nat} {sr : Sl} {P : Nat} {wr : World} (h : RDivSt w s t R g o sr P wr) : RDivSt w s t R g o sr P wr.drew :=
  ⟨h.1, h.2.1, h.2.2.1, h.2.2.2.1, h.2.2.2.2.1, h.2.2.2.2.2.1, h.2.2.2.2.2.2.1, h.2.2.2.2.2.2.2.drew⟩
/-- Another rest. -/
theorem RDivSt.rest {w : World} {s t : Sl} {R g : Nat} {o : List Nat} {sr sr' : Sl} {P P' : Nat} {wr : World} (h : RDivSt w s t R g o sr P wr) (h' : RefS wr sr' P') (hR : w.heap.size + 1 + 1 + 1 < R) (hg : g ≠ R) : RDivSt w s t R g o sr' P' (wr.setCell ⟨R, 0, none⟩ (.slice sr'.ao sr'.n sr'.c)) :=
  ⟨ent_set_other h.1 (by simp; omega) _, ent_set_other h.2.1 (by simp; omega) _, ent_set_other h.2.2.1 (by simp; omega) _, ent_set_other h.2.2.2.1 (by simp; omega) _, ent_set h.2.2.2.2.1 _,
    h'.kp ((Kp.refl _).setCell (a := ⟨R, 0, none⟩) h.2.2.2.2.1 (by decide) _), h.2.2.2.2.2.2.1.set_ne (by simpa using hg) _, h.2.2.2.2.2.2.2.setCell (by simp; omega) _⟩
/-- A digit of the quotient. -/
theorem RDivSt.digit {w : World} {s t : Sl} {R g : Nat} {o : List Nat} {sr : Sl} {P : Nat} {wr : World} (h : RDivSt w s t R g o sr P wr) (hg : w.heap.size + 1 + 1 + 1 < g) (hgR : g ≠ R) (hf : 0 < sr.n → ∀ b off, sr.ao = some ⟨b, off, none⟩ → b ≠ g) (j d : Nat) : RDivSt w s t R g (o.set j d) sr P (wr.setCell ⟨g, j, none⟩ (.int .i64 ((d : Nat) : Int))) := by
  obtain ⟨l, g1, g2⟩ := h.2.2.2.2.2.1
  exact ⟨ent_set_other h.1 (by simp; omega) _, ent_set_other h.2.1 (by simp; omega) _, ent_set_other h.2.2.1 (by simp; omega) _, ent_set_other h.2.2.2.1 (by simp; omega) _, ent_set_other h.2.2.2.2.1 (by simpa using hgR.symm) _,
    ⟨l, g1.set_far (fun hp b off ha => hf hp b off ha) _, g2⟩, (h.2.2.2.2.2.2.1.store j d).1, h.2.2.2.2.2.2.2.setCell (by simp; omega) _⟩

theorem rcmp_any {w : World} {s t : Sl} {x y : Nat} (h : RefS w s x) (h' : RefS w t y) (hn : s.n ≤ 1000000000000) (hm : t.n ≤ 1000000000000) :
    Calls Try.prog 19 #[.agg #[.slice s.ao s.n s.c], .agg #[.slice t.ao t.n t.c]] w fun e w' =>
      ∃ c : Int, e = .returned (.int .i64 c) ∧ (x ≤ y → c ≤ 0) ∧ (y < x → 0 < c) ∧ Below w.heap.size w w' := by
  refine (rcmp_spec h h' hn hm).mono ?_
  rintro e w' ⟨rfl, hb⟩
  refine ⟨_, rfl, fun hle => ?_, fun hlt => ?_, hb⟩
  · rcases Nat.lt_or_eq_of_le hle with h | h
    · rw [cmpN_lt h]; omega
    · subst h; rw [cmpN_eq]; omega
  · rw [cmpN_gt hlt]; omega

/-- A new row lies apart from an elder block. -/
theorem own_far {w : World} {B g : Nat} {u t : Sl} {l : List Nat} {T : TypeId} {k : IntKind} (h : Own w B T k (.slice u.ao u.n u.c) l) (hg : g < B) (ht : t.ao = u.ao) : Hid (0 < t.n → ∀ b off, t.ao = some ⟨b, off, none⟩ → b ≠ g) := by
  intro _ b off hb
  rw [ht] at hb
  rcases h.2 with ⟨e, _⟩ | ⟨g', cap, cur, e, hg', _⟩
  · simp only [Value.slice.injEq] at e
    rw [e.1] at hb
    simp at hb
  · simp only [Value.slice.injEq] at e
    rw [e.1] at hb
    simp at hb
    omega

/-- The rounds of Div. -/
def RDivRel (w : World) (s t : Sl) (R g : Nat) (l : List Nat) (y : Nat) (iv : Value) (wr : World) : Prop := ∃ (k : Nat) (o : List Nat) (sr : Sl) (ρ : Nat), k ≤ s.n ∧ iv = .int .i64 ((k : Int) - 1) ∧ o.length = s.n ∧ (∀ d ∈ o, d < 10000) ∧
  val 10000 (l.drop k) = y * val 10000 (o.drop k) + ρ ∧ ρ < y ∧ sr.n ≤ t.n ∧ RDivSt w s t R g o sr ρ wr
/-- The search for a digit. -/
def RDivIn (w : World) (s t : Sl) (R g : Nat) (o : List Nat) (sr : Sl) (P y : Nat) (lv hv : Value) (wr : World) : Prop := ∃ lo hi : Nat, lv = .int .i64 lo ∧ hv = .int .i64 hi ∧ lo < hi ∧ hi ≤ 10000 ∧ y * lo ≤ P ∧ P < y * hi ∧ RDivSt w s t R g o sr P wr

set_option maxHeartbeats 3200000 in
theorem rdiv_walk {w : World} {s t : Sl} {y : Nat} {l : List Nat} (hi : IntsAt w 3 .i64 s l) (hld : ∀ d ∈ l, d < 10000) (h' : RefS w t y) (hn : s.n ≤ 1000000) (hm : t.n ≤ 1000000) (hy : 0 < y) :
    Calls Try.prog 32 #[.agg #[.slice s.ao s.n s.c], .agg #[.slice t.ao t.n t.c]] w fun e w' =>
      ∃ u v : Sl, e = .returned (.tuple #[.agg #[.slice u.ao u.n u.c], .agg #[.slice v.ao v.n v.c]]) ∧ RefS w' u (val 10000 l / y) ∧ RefS w' v (val 10000 l % y) ∧ Below w.heap.size w w' := by
  obtain ⟨ao, n, c⟩ := s
  simp only at hn ⊢
  obtain ⟨hE1, hE2, hE3, hE4, hz⟩ := ents4 w (.cells #[.slice ao n c] 30) (.cells #[.slice t.ao t.n t.c] 30) (.cells #[.slice none 0 0] 30) (.cells #[.slice none 0 0] 30)
  have hbx : Below w.heap.size w ((((w.alloc (.cells #[.slice ao n c] 30)).alloc (.cells #[.slice t.ao t.n t.c] 30)).alloc (.cells #[.slice none 0 0] 30)).alloc (.cells #[.slice none 0 0] 30)) := ((((Below.refl _ _).alloc (Nat.le_refl _) _).alloc (by simp) _).alloc (by simp; omega) _).alloc (by simp; omega) _
  have hA := ent_cell hE1 0
  go_enter Try.func32, Try.ntmps32
  go_wp2_with (at_make; refine wpList_mkfull' rowInt _ rfl _ _ rfl (w.heap.size + 4) _ _ _ _ n rfl rfl rfl rfl (by omega) (by unfold maxLen; omega) (by simp) ?_; intro w1 ho hb hsz; have hA1 := ent_cell (ent_up hb hE1) 0; have hA2 := ent_cell (ent_old (ent_up hb hE1) (.cells #[.slice none 0 0] 30)) 0)
  have hbR := hb.alloc (Nat.le_trans (Nat.le_of_lt hsz) (Nat.le_refl _)) (.cells #[.slice none 0 0] 30)
  have hoR : Own (w1.alloc (.cells #[.slice none 0 0] 30)) (w.heap.size + 4) 3 .i64 (.slice (some ⟨w.heap.size + 4, 0, none⟩) n n) (List.replicate n 0) := by
    have := ho.alloc (.cells #[.slice none 0 0] 30)
    simpa using this
  have hRlt : w.heap.size + 4 < w1.heap.size := by simp at hsz; omega
  have hst0 : RDivSt w ⟨ao, n, c⟩ t w1.heap.size (w.heap.size + 4) (List.replicate n 0) ⟨none, 0, 0⟩ 0 (w1.alloc (.cells #[.slice none 0 0] 30)) :=
    ⟨ent_up hbR hE1, ent_up hbR hE2, ent_up hbR hE3, ent_up hbR hE4, ent_new _ _, RefS.nil _ _ _ (by omega), hoR, hbx.trans (hbR.mono hbx.size)⟩
  have hll : Hid (n = l.length) := hi.1
  have hinit : RDivRel w ⟨ao, n, c⟩ t w1.heap.size (w.heap.size + 4) l y (.int .i64 ((n : Int) - 1)) (w1.alloc (.cells #[.slice none 0 0] 30)) :=
    ⟨n, _, _, 0, Nat.le_refl _, rfl, by simp, by simp, by have := hll.out; simp [this, val], hy, Nat.zero_le _, hst0⟩
  clear hst0 hoR hbR hA2 hA1 hsz hb ho hA hbx hE1 hE2 hE3 hE4 hz
  generalize w1.heap.size = R at *
  obtain ⟨g, hg⟩ : ∃ g : Nat, g = w.heap.size + 4 := ⟨_, rfl⟩
  have hgR : g ≠ R := by omega
  have hg4 : w.heap.size + 1 + 1 + 1 < g := by omega
  have hR4 : w.heap.size + 1 + 1 + 1 < R := by omega
  rw [show (⟨w.heap.size + 4, 0, none⟩ : Addr) = ⟨g, 0, none⟩ by rw [hg]]
  rw [← hg] at hinit
  have HG := Lib.hid hg; clear hg hRlt
  go_loopw [8] (fun iv wr => RDivRel w ⟨ao, n, c⟩ t R g l y iv wr) (fun iv _ => (intOf iv + 1).toNat)
  case atStart => exact hinit
  case round =>
    clear hinit
    obtain ⟨k, o, sr, ρ, hk, rfl, hol, hod, hval, hρ, hsn, hst⟩ := hrel
    have HOL : Hid (o.length = n) := hol
    clear hol
    have hk : k ≤ n := hk
    have HOD := Lib.hid hod; clear hod
    have HV := Lib.hid hval; clear hval
    by_cases hk0 : 0 < k
    · obtain ⟨j, rfl⟩ : ∃ j, k = j + 1 := ⟨k - 1, by omega⟩
      rw [show (((j + 1 : Nat) : Int) - 1) = (j : Int) by omega]
      obtain ⟨b, off, hao, hbw, hcell⟩ := (hi.up hst.2.2.2.2.2.2.2).open (by omega)
      simp only at hao hk
      subst hao
      have hck := hcell j (by simp; omega)
      clear hcell
      have hx : dg l j < 10000 := dg_lt hld (by omega) j
      have hstep := by_step (B := 10000) (o := o) (d := y) (x := dg l j) (by have := hll.out; omega) (by have := hll.out; have := HOL.out; omega) rfl HV.out
      have HST := Lib.hid hstep; clear hstep
      generalize dg l j = x at *
      obtain ⟨P, hP⟩ : ∃ P : Nat, P = ρ * 10000 + x := ⟨_, rfl⟩
      rw [← hP] at HST
      have hPy : P < y * 10000 := by
        have : (ρ + 1) * 10000 ≤ y * 10000 := Nat.mul_le_mul_right _ hρ
        omega
      obtain ⟨l2, hi2, hd2, hn2, hv2⟩ := hst.2.2.2.2.2.1
      have hvx : val 10000 (x :: l2) = P := by rw [val_cons, hv2, hP]; omega
      have HP := Lib.hid hvx; clear hvx hP hv2
      have hdx : Hid (∀ d ∈ x :: l2, d < 10000) := by
        intro d hd
        rcases List.mem_cons.1 hd with rfl | hd
        · exact hx
        · exact hd2 d hd
      have hl2 : Hid ((1 + l2.length) * 8 ≤ 140737488355328) := by have := hi2.1; show _ ≤ _; omega
      have hA := ent_cell hst.1 0
      have hC := ent_cell hst.2.2.2.2.1 0
      have hRw := ent_lt hst.2.2.2.2.1
      have hj0 : (0 : Int) ≤ (j : Int) := by omega
      have hj1 : (j : Int) < (n : Int) := by omega
      go_upto_region 6 with fail
      go_cut [] (fun wx => ∃ sr' : Sl, RDivSt w ⟨some ⟨b, off, none⟩, n, c⟩ t R g o sr' P wx ∧ sr'.n ≤ t.n + 1 ∧ Hid (0 < sr'.n → ∀ b off, sr'.ao = some ⟨b, off, none⟩ → b ≠ g))
      case first =>
        go_region_law (first
          | ((refine step_prepend (by rfl) _ _ (by rfl) wr.heap.size (x : Int) x sr l2 (by rfl) (by rfl) rfl (by exact ent_new wr _) (by exact hi2.up ((Below.refl _ _).alloc (Nat.le_refl _) _).drew) hl2.out ?_; intro u w2 hown2 hb2))
          | (go_simp; go_at_call 46; refine (rcut_at (s := u) hown2.intsAt hdx.out).mono ?_; rintro e w3 ⟨t', rfl, ht', htn, hta, hb3⟩; (have HTA := Lib.hid hta); clear hta; have hF := ent_up hb3 (ent_below (below_undrew hb2) hRw (ent_old hst.2.2.2.2.1 _)); have hFc := ent_cell hF 0; have hFf := ent_frozen hF 0))
        all_goals go_wp2
        all_goals go_meet
        all_goals (
          have hbw3 : Below wr.heap.size wr w3 := (((Below.refl wr.heap.size wr).alloc (Nat.le_refl _) _).trans (below_undrew hb2)).trans (hb3.mono (by have := (below_undrew hb2).size; simp at this; omega))
          rw [HP.out] at ht'
          exact ⟨t', (hst.up hbw3).rest ht' hR4 hgR, by have := hown2.intsAt.1; have := hi2.1; simp at *; omega, own_far hown2 (hst.2.2.2.2.2.2.1.lt g rfl).2 HTA.out⟩)
      case rest =>
        clear hst hbw hck hx hi2 hd2 hn2 hdx hl2 hA hC hRw hsn
        obtain ⟨sr', hst, hsn, hfar⟩ := hcut
        have hin0 : RDivIn w ⟨some ⟨b, off, none⟩, n, c⟩ t R g o sr' P y (.int .i64 0) (.int .i64 10000) wc := ⟨0, 10000, rfl, rfl, by omega, by omega, by omega, hPy, hst⟩
        clear hst
        go_wp2
        go_loopw [9, 10] (fun lv hv wr => RDivIn w ⟨some ⟨b, off, none⟩, n, c⟩ t R g o sr' P y lv hv wr) (fun lv hv _ => (intOf hv - intOf lv).toNat)
        case atStart => exact hin0
        case round =>
          clear hin0
          obtain ⟨lo, hgh, rfl, rfl, hlh, hh, h1, h2, hst⟩ := hrel
          have hty := h'.up hst.2.2.2.2.2.2.2
          have hsr := hst.2.2.2.2.2.1
          by_cases hgo : lo + 1 < hgh
          · obtain ⟨M, hM⟩ : ∃ M : Nat, M = (lo + hgh) / 2 := ⟨_, rfl⟩
            have hM1 : lo < M := by omega
            have hM2 : M < hgh := by omega
            have hMI : ((lo : Int) + (hgh : Int)) / 2 = (M : Int) := by omega
            have hgoI : (1 : Int) < (hgh : Int) - lo := by omega
            clear hM
            have mk : Hid (∀ w', Grew wr w' → w'.cell? ⟨w.heap.size + 1, 0, none⟩ = some (.slice t.ao t.n t.c) ∧ w'.cell? ⟨R, 0, none⟩ = some (.slice sr'.ao sr'.n sr'.c) ∧ Grew wr w') :=
              fun w' hg => ⟨cell_grew hg hst.2.1, cell_grew hg hst.2.2.2.2.1, hg⟩
            have Hst := Lib.hid hst; clear hst
            by_cases hle : y * M ≤ P
            · go_wp2
              go_region_held3 (fun w' => w'.cell? ⟨w.heap.size + 1, 0, none⟩ = some (.slice t.ao t.n t.c) ∧ w'.cell? ⟨R, 0, none⟩ = some (.slice sr'.ao sr'.n sr'.c) ∧ Grew wr w')
                (first
                  | exact mk.out _ (Grew.refl _).drew
                  | exact mk.out _ (Grew.call (‹_ ∧ _ ∧ Grew wr _›.2.2) ‹Below _ _ _›))
                (first
                  | (go_at_call 53; refine (rsmall_spec M _ rfl (by omega) (hty.grew (‹_ ∧ _ ∧ Grew wr _›.2.2)) (by omega)).mono ?_; rintro e w9 ⟨v, rfl, hv, hvn, hbw⟩)
                  | (go_at_call 19; refine (rcmp_any hv (hsr.grew (‹_ ∧ _ ∧ Grew wr _›.2.2)) (by omega) (by omega)).mono ?_; rintro e w9 ⟨cc, rfl, hc1, hc2, hbw⟩; have hcle := hc1 hle; clear hc1 hc2))
              all_goals go_wp2
              all_goals (
                have hgf := ‹_ ∧ _ ∧ Grew wr _›.2.2
                go_roundw
                case rel => exact ⟨M, hgh, rfl, rfl, by omega, hh, hle, h2, Hst.out.up hgf⟩
                case measure => simp [intOf]; omega)
            · have hlt : P < y * M := by omega
              clear hle
              go_wp2
              go_region_held3 (fun w' => w'.cell? ⟨w.heap.size + 1, 0, none⟩ = some (.slice t.ao t.n t.c) ∧ w'.cell? ⟨R, 0, none⟩ = some (.slice sr'.ao sr'.n sr'.c) ∧ Grew wr w')
                (first
                  | exact mk.out _ (Grew.refl _).drew
                  | exact mk.out _ (Grew.call (‹_ ∧ _ ∧ Grew wr _›.2.2) ‹Below _ _ _›))
                (first
                  | (go_at_call 53; refine (rsmall_spec M _ rfl (by omega) (hty.grew (‹_ ∧ _ ∧ Grew wr _›.2.2)) (by omega)).mono ?_; rintro e w9 ⟨v, rfl, hv, hvn, hbw⟩)
                  | (go_at_call 19; refine (rcmp_any hv (hsr.grew (‹_ ∧ _ ∧ Grew wr _›.2.2)) (by omega) (by omega)).mono ?_; rintro e w9 ⟨cc, rfl, hc1, hc2, hbw⟩; have hcgt := hc2 hlt; clear hc1 hc2))
              all_goals go_wp2
              all_goals (
                have hgf := ‹_ ∧ _ ∧ Grew wr _›.2.2
                go_roundw
                case rel => exact ⟨lo, M, rfl, rfl, by omega, by omega, h1, hlt, Hst.out.up hgf⟩
                case measure => simp [intOf]; omega)
          · have hhl : hgh = lo + 1 := by omega
            subst hhl
            have hdiv : P / y = lo := Nat.div_eq_of_lt_le (by rw [Nat.mul_comm]; exact h1) (by rw [Nat.mul_comm]; exact h2)
            have hmod : P % y = P - y * lo := by
              have := Nat.div_add_mod P y
              rw [hdiv] at this
              omega
            have hρ' : P - y * lo < y := by rw [← hmod]; exact Nat.mod_lt _ hy
            rw [hdiv, hmod] at HST
            have hgoI : decide ((1 : Int) < ((lo + 1 : Nat) : Int) - lo) = false := by simp; omega
            clear hdiv hmod
            have hdig := hst.digit hg4 hgR hfar.out j lo
            obtain ⟨hoc, hof, _, _⟩ := hst.2.2.2.2.2.2.1.slot j (by have := HOL.out; omega)
            have Hst := Lib.hid hst; clear hst
            have hj1 : (j : Int) < (n : Int) := by omega
            go_upto_region 14 with fail
            have hty2 := h'.up hdig.2.2.2.2.2.2.2
            have hsr2 := hdig.2.2.2.2.2.1
            have hC := ent_cell hdig.2.1 0
            have hD := ent_cell hdig.2.2.2.2.1 0
            clear hoc hof hty hsr
            generalize wr.setCell ⟨g, j, none⟩ (.int .i64 (lo : Int)) = wq at *
            have hty0 : RefS wq.drew t y := hty2
            have hsr0 : RefS wq.drew sr' P := hsr2
            have hdig0 := hdig.drewN
            go_region_with (first
              | (go_at_call 53; refine (rsmall_spec lo _ rfl (by omega) hty0 (by omega)).mono ?_; rintro e w4 ⟨v, rfl, hv, hvn, hb4⟩; have hR4' := ent_cell (ent_up hb4 hdig0.2.2.2.2.1) 0)
              | (go_at_call 43; refine (rless_spec (hsr0.up hb4) hv (by omega) h1).mono ?_; rintro e w5 ⟨u, rfl, hu, hun, hb5⟩; have hF := (hdig0.up hb4).up hb5; have hFc := ent_cell hF.2.2.2.2.1 0; have hFf := ent_frozen hF.2.2.2.2.1 0))
            all_goals (
              have hfin := hF.rest hu hR4 hgR
              have hun2 : u.n ≤ t.n := hu.n_le h' (Nat.le_of_lt hρ')
              go_wp2
              go_roundw
              case rel => exact ⟨j, o.set j lo, u, P - y * lo, (show j ≤ n by omega), rfl, by rw [List.length_set]; exact HOL.out, set_lt HOD.out (by omega), HST.out, hρ', hun2, hfin⟩
              case measure => simp [intOf])
    · have hk00 : k = 0 := by omega
      subst hk00
      have hnI : decide ((0 : Int) ≤ ((0 : Nat) : Int) - 1) = false := by simp
      have hoi := hst.2.2.2.2.2.2.1.intsAt
      have hq : val 10000 o = val 10000 l / y ∧ ρ = val 10000 l % y := by
        have h1 := HV.out
        simp only [List.drop_zero] at h1
        rw [h1]
        constructor
        · rw [Nat.mul_add_div hy, Nat.div_eq_of_lt hρ, Nat.add_zero]
        · rw [Nat.mul_add_mod, Nat.mod_eq_of_lt hρ]
      have HQ := Lib.hid hq; clear hq
      have hC := ent_cell hst.2.2.2.2.1 0
      have hst0 := hst.drewN
      have hoi0 : IntsAt wr.drew 3 .i64 ⟨some ⟨g, 0, none⟩, n, n⟩ o := hoi
      go_upto_region 15 with fail
      go_region_with (go_at_call 46; refine (rcut_spec hoi0 HOD.out).mono ?_; rintro e w2 ⟨u, rfl, hu, hun, hb2⟩; have hF := hst0.up hb2; have hFc := ent_cell hF.2.2.2.2.1 0; have hF3 := ent_cell hF.2.2.1 0; have hF3f := ent_frozen hF.2.2.1 0; have hF4 := ent_cell hF.2.2.2.1 0; have hF4f := ent_frozen hF.2.2.2.1 0)
      all_goals go_wp2
      all_goals (
        have k1 := ent_set (i := 0) hF.2.2.1 (.slice u.ao u.n u.c)
        have k2 := ent_set_other (a := ⟨w.heap.size + 1 + 1 + 1, 0, none⟩) k1 (by simp) (.slice sr.ao sr.n sr.c)
        have k3 := ent_set_other (a := ⟨w.heap.size + 1 + 1, 0, none⟩) hF.2.2.2.1 (by simp) (.slice u.ao u.n u.c)
        have k4 := ent_set (i := 0) k3 (.slice sr.ao sr.n sr.c)
        have kk := ((Kp.refl w2).setCell (a := ⟨w.heap.size + 1 + 1, 0, none⟩) hF.2.2.1 (by decide) (.slice u.ao u.n u.c)).setCell (a := ⟨w.heap.size + 1 + 1 + 1, 0, none⟩) k3 (by decide) (.slice sr.ao sr.n sr.c)
        refine bodyPost_ret (v := .tuple #[.agg #[.slice u.ao u.n u.c], .agg #[.slice sr.ao sr.n sr.c]]) (by simp [results, Try.results32, go_sem, ent_cell k2 0, ent_cell k4 0]) rfl ⟨u, sr, rfl, ?_, ?_, ?_⟩
        · rw [← HQ.out.1]; exact hu.kp kk
        · rw [← HQ.out.2]; exact hF.2.2.2.2.2.1.kp kk
        · exact (hF.2.2.2.2.2.2.2.setCell (by simp; omega) _).setCell (by simp; omega) _)

/-- The quotient and the rest. -/
theorem rdiv_spec {w : World} {s t : Sl} {x y : Nat} (h : RefS w s x) (h' : RefS w t y) (hn : s.n ≤ 1000000) (hm : t.n ≤ 1000000) (hy : 0 < y) :
    Calls Try.prog 32 #[.agg #[.slice s.ao s.n s.c], .agg #[.slice t.ao t.n t.c]] w fun e w' =>
      ∃ u v : Sl, e = .returned (.tuple #[.agg #[.slice u.ao u.n u.c], .agg #[.slice v.ao v.n v.c]]) ∧ RefS w' u (x / y) ∧ RefS w' v (x % y) ∧ u.n ≤ s.n ∧ v.n ≤ s.n ∧ v.n ≤ t.n ∧ Below w.heap.size w w' := by
  obtain ⟨l, h1, h2, h3, h4⟩ := id h
  refine (rdiv_walk h1 h2 h' hn hm hy).mono ?_
  rintro e w' ⟨u, v, rfl, hu, hv, hb⟩
  rw [h4] at hu hv
  exact ⟨u, v, rfl, hu, hv, hu.n_le h (Nat.div_le_self _ _), hv.n_le h (Nat.mod_le _ _), hv.n_le h' (Nat.le_of_lt (Nat.mod_lt _ hy)), hb⟩

end Go.Proofs.Ytahfnbbdhhehhaa
