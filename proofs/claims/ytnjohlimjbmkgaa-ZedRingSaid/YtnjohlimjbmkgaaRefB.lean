/- The reference: Parse. -/
import Derived.Test.YtnjohlimjbmkgaaProg
import Derived.Test.YtnjohlimjbmkgaaRefA
import Derived.Test.YtnjohlimjbmkgaaNatP
import Derived.Test.YtnjohlimjbmkgaaMathU
import Derived.Lib.Strings
import Derived.Deep.DeepCutAuto
import Derived.Deep.CutBlock
import Derived.Deep.LoopGhost
namespace Go.Proofs.Ytnjohlimjbmkgaa
open Go.RowKit

theorem rparse_long (s : ByteArray) (w : World) (h : 4096 < s.size) (h2 : s.size ≤ 9223372036854775807) :
    Calls Try.prog 79 #[.string s] w fun e w' => e = .returned (.tuple #[.agg #[.slice none 0 0], .int .i64 2]) ∧ Below w.heap.size w w' := by
  have hl : (4096 : Int) < (s.size : Int) := by omega
  have hbx : Below w.heap.size w _ := (Below.refl w.heap.size w).alloc (Nat.le_refl _) (.cells #[.slice none 0 0] 26)
  go_enter Try.func79, Try.ntmps79
  go_wp2
  exact bodyPost_ret (v := .tuple #[.agg #[.slice none 0 0], .int .i64 2]) (by simp [results, Try.results79, go_sem]) rfl ⟨rfl, hbx⟩

theorem rparse_empty (s : ByteArray) (w : World) (h : s.size = 0) :
    Calls Try.prog 79 #[.string s] w fun e w' => e = .returned (.tuple #[.agg #[.slice none 0 0], .int .i64 3]) ∧ Below w.heap.size w w' := by
  have hs : s = ⟨#[]⟩ := by
    obtain ⟨d⟩ := s
    have : d.size = 0 := h
    simp at this
    rw [this]
  subst hs
  have hbx : Below w.heap.size w _ := (Below.refl w.heap.size w).alloc (Nat.le_refl _) (.cells #[.slice none 0 0] 26)
  go_enter Try.func79, Try.ntmps79
  go_wp2
  exact bodyPost_ret (v := .tuple #[.agg #[.slice none 0 0], .int .i64 3]) (by simp [results, Try.results79, go_sem]) rfl ⟨rfl, hbx⟩

theorem rparse_zero (s : ByteArray) (w : World) (h : 1 < s.size) (h2 : s.size ≤ 4096) (h0 : (s[0]'(by omega)).toNat = 48) :
    Calls Try.prog 79 #[.string s] w fun e w' => e = .returned (.tuple #[.agg #[.slice none 0 0], .int .i64 3]) ∧ Below w.heap.size w w' := by
  have hl : (1 : Int) < (s.size : Int) := by omega
  have hl2 : decide ((4096 : Int) < (s.size : Int)) = false := by simp; omega
  have hne : ((s.size : Int) == 0) = false := beq_eq_false_iff_ne.2 (by omega)
  have h48 : (((s[0]'(by omega)).toNat : Int) == 48) = true := by rw [h0]; rfl
  have hbx : Below w.heap.size w _ := (Below.refl w.heap.size w).alloc (Nat.le_refl _) (.cells #[.slice none 0 0] 26)
  go_enter Try.func79, Try.ntmps79
  go_wp2
  exact bodyPost_ret (v := .tuple #[.agg #[.slice none 0 0], .int .i64 3]) (by simp [results, Try.results79, go_sem]) rfl ⟨rfl, hbx⟩

/-- What Parse answers where the text is neither too long nor wrong in front. -/
def RParsePost (w : World) (s : ByteArray) (e : Ending) (w' : World) : Prop :=
  (Digs (bs s) ∧ ∃ u : Sl, e = .returned (.tuple #[.agg #[.slice u.ao u.n u.c], .int .i64 0]) ∧ RefS w' u (dval (bs s)) ∧ u.n ≤ s.size ∧ Below w.heap.size w w') ∨
  (¬ Digs (bs s) ∧ e = .returned (.tuple #[.agg #[.slice none 0 0], .int .i64 3]) ∧ Below w.heap.size w w')

/-- The digits so far. -/
def RParseRel (w : World) (s : ByteArray) (ov ev : Value) (wr : World) : Prop := ∃ (z : Int) (k : Nat) (o : List Nat),
  ev = .int .i64 z ∧ z ≤ s.size ∧ -4 < z ∧ 4 * (k : Int) = s.size - z ∧ o.length = k ∧ (∀ d ∈ o, d < 10000) ∧ val 10000 o + 10000 ^ k * dval ((bs s).take z.toNat) = dval (bs s) ∧
  Own wr (w.heap.size + 1) 3 .i64 ov o ∧ wr.heap[w.heap.size]? = some (.cells #[.slice none 0 0] 26 (0, 0)) ∧ Below w.heap.size w wr

theorem bs_size (s : ByteArray) : (bs s).length = s.size := by simp [bs]
theorem bs_dg (s : ByteArray) (k : Nat) (h : k < s.size) : dg (bs s) k = (s[k]'h).toNat := by
  rw [dg_of (by rw [bs_size]; exact h)]
  simp [bs]
  rfl

/-- The digits of one round. -/
def RParseIn (s : ByteArray) (F E : Nat) (nv iv : Value) : Prop := ∃ j m : Nat, iv = .int .i64 j ∧ nv = .int .i64 m ∧ F ≤ j ∧ j ≤ E ∧ m < 10000 ∧ m = dval (seg (bs s) F j)

set_option maxHeartbeats 1600000 in
theorem rparse_rest (s : ByteArray) (w : World) (h : 0 < s.size) (h2 : s.size ≤ 4096) (h0 : s.size = 1 ∨ (s[0]'h).toNat ≠ 48) :
    Calls Try.prog 79 #[.string s] w (RParsePost w s) := by
  have hl2 : decide ((4096 : Int) < (s.size : Int)) = false := by simp; omega
  have hne : ((s.size : Int) == 0) = false := beq_eq_false_iff_ne.2 (by omega)
  have hE := ents1 w (.cells #[.slice none 0 0] 26)
  have hbx : Below w.heap.size w _ := (Below.refl w.heap.size w).alloc (Nat.le_refl _) (.cells #[.slice none 0 0] 26)
  have hinit : RParseRel w s (.slice none 0 0) (.int .i64 s.size) _ := ⟨s.size, 0, [], rfl, by omega, by omega, by omega, rfl, by simp, by simp [val, ← bs_size s], Own.nil _ _ _ _, hE.1, hbx⟩
  have hR := ent_cell hE.1 0
  have hRf := ent_frozen hE.1 0
  clear hE
  generalize hW1 : (w.alloc (.cells #[.slice none 0 0] 26)) = W1 at *
  have HW := Lib.hid hW1; clear hW1
  have hcase : (decide ((1 : Int) < (s.size : Int)) = false) ∨ (decide ((1 : Int) < (s.size : Int)) = true ∧ (((s[0]'h).toNat : Int) == 48) = false) := by
    rcases h0 with h0 | h0
    · left; simp; omega
    · by_cases h1 : s.size = 1
      · left; simp; omega
      · right
        exact ⟨by simp; omega, by simp; omega⟩
  clear h0
  rcases hcase with hl | ⟨hl, h48⟩
  all_goals (
    go_enter Try.func79, Try.ntmps79
    go_wp2
    rw [HW.out]
    go_loop [4] (fun i => ∃ k : Nat, i = .int .i64 k ∧ k ≤ s.size ∧ Digs ((bs s).take k)) (fun i => s.size - (intOf i).toNat)
    case atStart => exact ⟨0, rfl, Nat.zero_le _, by simpa using Digs.nil⟩
    case round =>
      obtain ⟨k, rfl, hk, hdk⟩ := hrel
      by_cases hlt : k < s.size
      · have hk1 : (k : Int) < (s.size : Int) := by omega
        have hDg := bs_dg s k hlt
        obtain ⟨D, hD⟩ : ∃ D : Nat, (s[k]'hlt).toNat = D := ⟨_, rfl⟩
        have hDb : D < 256 := by have := (s[k]'hlt).toNat_lt; omega
        rw [hD] at hDg
        have HDg := Lib.hid hDg; clear hDg
        have hDm : ¬ (48 ≤ D ∧ D ≤ 57) → ¬ Digs (bs s) := fun h hd => h (by
          have := dg_digs hd (i := k) (by rw [bs_size]; exact hlt)
          rw [HDg.out] at this
          exact this)
        by_cases hlo : D < 48
        · have hloI : (D : Int) < 48 := by omega
          have hnd := hDm (by omega)
          clear hDm
          go_wp2
          exact bodyPost_ret (v := .tuple #[.agg #[.slice none 0 0], .int .i64 3]) (by simp [results, Try.results79, go_sem, hR]) rfl (.inr ⟨hnd, rfl, hbx.setCell (by simp) _⟩)
        · have hloI : decide ((D : Int) < 48) = false := by simp; omega
          by_cases hhi : 57 < D
          · have hhiI : (57 : Int) < D := by omega
            have hnd := hDm (by omega)
            clear hDm
            go_wp2
            exact bodyPost_ret (v := .tuple #[.agg #[.slice none 0 0], .int .i64 3]) (by simp [results, Try.results79, go_sem, hR]) rfl (.inr ⟨hnd, rfl, hbx.setCell (by simp) _⟩)
          · have hhiI : decide ((57 : Int) < D) = false := by simp; omega
            have hd1 : Digs ((bs s).take (k + 1)) := by
              rw [List.take_succ_eq_append_getElem (by rw [bs_size]; exact hlt)]
              refine hdk.append ?_
              intro d hd
              have e1 := HDg.out
              rw [dg_of (by rw [bs_size]; exact hlt)] at e1
              have : d = D := by rw [← e1]; simpa using hd
              omega
            clear hDm
            go_wp2
            go_round
            case rel => exact ⟨k + 1, by go_num, by omega, hd1⟩
            case measure => simp [intOf]; omega
      · have hkk : k = s.size := by omega
        subst hkk
        have hall : (bs s).take s.size = bs s := List.take_of_length_le (by rw [bs_size]; exact Nat.le_refl _)
        rw [hall] at hdk
        have Hall := Lib.hid hall; clear hall
        have hsz : decide ((s.size : Int) < (s.size : Int)) = false := by simp
        clear hR hRf hbx
        go_wp2
        go_loopw [5, 6] (fun ov ev wr => RParseRel w s ov ev wr) (fun _ ev _ => (intOf ev).toNat)
        case atStart => exact hinit
        case round =>
          clear hinit
          obtain ⟨z, k, o, rfl, hz1, hz2, hzk, hol, hod, hval, hown, hE, hbl⟩ := hrel
          have HOL := Lib.hid hol; clear hol
          have HV := Lib.hid hval; clear hval
          have HZ := Lib.hid hzk; clear hzk
          by_cases hz0 : 0 < z
          · obtain ⟨E, rfl⟩ : ∃ E : Nat, z = E := ⟨z.toNat, by omega⟩
            have hEs : E ≤ s.size := by omega
            have hE0 : 0 < E := by omega
            have hst := rparse_step (l := bs s) (o := o) (e := E) (k := k) hdk (by rw [bs_size]; exact hEs) HOL.out (by have := HV.out; simpa using this) hE0
            have Hst := Lib.hid hst.1
            have hmlt := hst.2
            clear hst HV
            obtain ⟨F, hF⟩ : ∃ F : Nat, F = E - 4 := ⟨_, rfl⟩
            rw [← hF] at Hst hmlt
            have hFcase : (decide ((E : Int) - 4 < 0) = true ∧ F = 0) ∨ (decide ((E : Int) - 4 < 0) = false ∧ (E : Int) - 4 = (F : Int)) := by
              by_cases h4 : E < 4
              · left; exact ⟨by simp; omega, by omega⟩
              · right; exact ⟨by simp; omega, by omega⟩
            have HF := Lib.hid hF; clear hF
            go_upto_if 54 with fail
            go_cut [7] (fun fv wx => fv = .int .i64 F ∧ wx = wr)
            case first =>
              rcases hFcase with ⟨h4, h5⟩ | ⟨h4, h5⟩
              · have h4' : (E : Int) < 4 := by have := of_decide_eq_true h4; omega
                go_wp2
                go_meet
                exact ⟨by rw [h5]; rfl, rfl⟩
              · have h4' : ¬ (E : Int) < 4 := by have := of_decide_eq_false h4; omega
                go_wp2
                go_meet
                exact ⟨rfl, rfl⟩
            case rest =>
              clear hFcase
              obtain ⟨rfl, hwc⟩ := hcut
              obtain rfl := hwc.symm
              have hFE : F ≤ E := by have := HF.out; omega
              have hin0 : RParseIn s F E (.int .i64 0) (.int .i64 F) := ⟨F, 0, rfl, rfl, Nat.le_refl _, hFE, by omega, by rw [seg_empty]; rfl⟩
              go_wp2
              go_loop [8, 9] (fun nv iv => RParseIn s F E nv iv) (fun _ iv => E - (intOf iv).toNat)
              case atStart => exact hin0
              case round =>
                clear hin0
                obtain ⟨j, m, rfl, rfl, hFj, hjE, hm, hmd⟩ := hrel
                have HM := Lib.hid hmd; clear hmd
                by_cases hj : j < E
                · have hjI : (j : Int) < (E : Int) := by omega
                  have hjs : j < s.size := by omega
                  have hjsI : (j : Int) < (s.size : Int) := by omega
                  have hDg := bs_dg s j hjs
                  have hdd := dg_digs hdk (i := j) (by rw [bs_size]; exact hjs)
                  have hse := dval_seg_step (l := bs s) (f := F) (i := j) hdk hFj (by rw [bs_size]; exact hjs)
                  have hlt := dval_lt (seg_digs hdk F (j + 1))
                  rw [seg_len (by rw [bs_size]; omega)] at hlt
                  have h10 : 10 ^ (j + 1 - F) ≤ 10 ^ 4 := Nat.pow_le_pow_right (by omega) (by have := HF.out; omega)
                  obtain ⟨D, hD⟩ : ∃ D : Nat, (s[j]'hjs).toNat = D := ⟨_, rfl⟩
                  rw [hD] at hDg
                  rw [hDg] at hdd hse
                  have hm1 : dval (seg (bs s) F (j + 1)) < 10000 := by omega
                  obtain ⟨d, rfl⟩ : ∃ d : Nat, D = d + 48 := ⟨D - 48, by omega⟩
                  rw [Nat.add_sub_cancel] at hse
                  have hD9 : d ≤ 9 := by omega
                  have HN : Hid (10 * m + d = dval (seg (bs s) F (j + 1))) := by
                    unfold Hid
                    rw [hse, ← HM.out]
                  have HM1 := Lib.hid hm1
                  clear hDg hse hlt h10 hm1 hdd
                  go_wp2
                  go_round
                  case rel => exact ⟨j + 1, 10 * m + d, by go_num, by go_num, by omega, by omega, by rw [HN.out]; exact HM1.out, HN.out⟩
                  case measure => simp [intOf]; omega
                · have hjE' : Hid (j = E) := by unfold Hid; omega
                  have hjI : decide ((j : Int) < (E : Int)) = false := by simp; omega
                  have hws : w.heap.size + 1 ≤ wr.heap.size := ent_lt hE
                  have hl1 : (o.length + 1) * 8 ≤ 140737488355328 := by have := HOL.out; have := HZ.out; omega
                  have hl2 : o.length + 1 ≤ maxLen := by have := HOL.out; have := HZ.out; unfold maxLen; omega
                  go_wp2_with (at_builtin; refine wpList_push rowInt _ rfl _ _ rfl (w.heap.size + 1) u5 o _ m rfl rfl hown rfl hl1 hl2 hws ?_; intro v' w' hown' hb')
                  have hE' := ent_below hb' (by omega) hE
                  go_wp2
                  go_roundw
                  case rel =>
                    refine ⟨(E : Int) - 4, k + 1, o ++ [m], rfl, by omega, by omega, by have := HZ.out; push_cast; omega, by simp [HOL.out], snoc_lt hod hm, ?_, hown', hE', hbl.trans (hb'.mono (by omega))⟩
                    have e1 := HM.out
                    rw [hjE'.out] at e1
                    have e2 := HF.out
                    rw [show ((E : Int) - 4).toNat = F by omega, e1]
                    exact Hst.out
                  case measure => simp [intOf]; omega
          · have hzI : decide (0 < z) = false := by simp; omega
            obtain ⟨t, rfl, hti⟩ := hown.ints
            have htl := hti.1
            have HTL := Lib.hid htl; clear htl
            have hztn : z.toNat = 0 := by omega
            have hvd : val 10000 o = dval (bs s) := by
              have := HV.out
              rw [hztn] at this
              exact dval_all this
            have HVD := Lib.hid hvd
            clear hvd hztn
            go_wp2_with (go_at_call 94; refine (rcut_spec hti hod).mono ?_; rintro e w2 ⟨v, rfl, hv, hvn, hb2⟩; have hR := ent_cell (ent_up hb2 hE) 0; have hRf := ent_frozen (ent_up hb2 hE) 0)
            refine bodyPost_ret (v := .tuple #[.agg #[.slice v.ao v.n v.c], .int .i64 0]) (by simp [results, Try.results79, go_sem, hR]) rfl (.inl ⟨hdk, v, rfl, ?_, ?_, (hbl.trans (hb2.mono hbl.size)).setCell (by simp) _⟩)
            · have := hv.kp ((Kp.refl _).setCell (a := ⟨w.heap.size, 0, none⟩) (ent_up hb2 hE) (by decide) (.slice v.ao v.n v.c))
              rw [HVD.out] at this
              exact this
            · have := HTL.out
              have := HOL.out
              have := HZ.out
              omega)

end Go.Proofs.Ytnjohlimjbmkgaa
