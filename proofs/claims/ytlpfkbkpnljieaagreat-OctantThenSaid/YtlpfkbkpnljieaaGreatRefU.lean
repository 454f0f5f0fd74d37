/- The reference: cut. The reference: Parse. Both Parses, each in one contract. The reference: Text. -/
import Derived.Test.YtlpfkbkpnljieaaGreatProg
import Derived.Test.YtlpfkbkpnljieaaGreatBase
import Derived.Test.YtlpfkbkpnljieaaGreatNatX
import Derived.Test.YtlpfkbkpnljieaaGreatMaths
import Derived.Lib.Strings
import Derived.Deep.DeepCutAuto
import Derived.Deep.CutBlock
import Derived.Deep.LoopGhost
set_option linter.unusedSimpArgs false
set_option linter.unusedVariables false
namespace Go.Proofs.YtlpfkbkpnljieaaGreat
open Go.RowKit

set_option maxHeartbeats 400000 in
theorem rcut_walk (ao : Option Addr) (n c : Nat) (l : List Nat) (w : World) (h : IntsAt w 3 .i64 ⟨ao, n, c⟩ l) :
    Calls Tryz.prog 84 #[.slice ao n c] w fun e w' =>
      ∃ k : Nat, k ≤ n ∧ e = .returned (.agg #[.slice ao k c]) ∧ (∀ i, k ≤ i → i < n → dg l i = 0) ∧ (0 < k → dg l (k - 1) ≠ 0) ∧ Below w.heap.size w w' := by
  have hm : n ≤ 9223372036854775807 := by have := h.2.1; have := h.2.2.1; simp only at *; omega
  have hnc : n ≤ c := h.2.1
  have hl : Hid (n = l.length) := h.1
  have hop : Hid (0 < n → ∃ b off, ao = some ⟨b, off, none⟩ ∧ b < w.heap.size ∧ ∀ i, i < n → w.cell? ⟨b, off + i, none⟩ = some (.int .i64 ((dg l i : Nat) : Int))) := h.open
  have hcc : c ≤ 9223372036854775807 := h.2.2.1
  clear h
  go_enter Tryz.func84, Tryz.ntmps84
  go_wp2
  go_loop [3] (fun u => ∃ k : Nat, k ≤ n ∧ u = .int .i64 k ∧ Hid (∀ i, k ≤ i → i < n → dg l i = 0)) (fun u => (intOf u).toNat)
  case atStart => exact ⟨n, Nat.le_refl _, rfl, fun i h1 h2 => by omega⟩
  case round =>
    obtain ⟨k, hk, rfl, hz⟩ := hrel
    by_cases h0 : 0 < k
    · obtain ⟨b, off, rfl, hb, hcell⟩ := hop.out (by omega)
      obtain ⟨j, rfl⟩ : ∃ j, k = j + 1 := ⟨k - 1, by omega⟩
      have hcj := hcell j (by omega)
      clear hcell
      by_cases hd : dg l j = 0
      · rw [hd] at hcj
        go_wp2
        go_round
        case rel =>
          refine ⟨j, by omega, by go_num, fun i h1 h2 => ?_⟩
          by_cases hij : i = j
          · rw [hij]; exact hd
          · exact hz.out i (by omega) h2
        case measure => simp [intOf]
      · have hdd : (((dg l j : Nat) : Int) == 0) = false := by simp; omega
        generalize hx : dg l j = x at *
        have hx := Lib.hid hx
        have hd := Lib.hid hd
        go_wp2
        refine bodyPost_ret (v := .agg #[.slice (some ⟨b, off, none⟩) (j + 1) c]) (by simp [results, Tryz.results84, go_sem]) rfl ⟨j + 1, hk, rfl, hz.out, fun _ => by simp only [Nat.add_sub_cancel]; rw [hx.out]; exact hd.out, ?_⟩
        exact (Below.refl _ _).alloc (Nat.le_refl _) _
    · obtain rfl : k = 0 := by omega
      go_wp2
      refine bodyPost_ret (v := .agg #[.slice ao 0 c]) (by simp [results, Tryz.results84, go_sem]) rfl ⟨0, hk, rfl, hz.out, fun h => absurd h (by omega), ?_⟩
      exact (Below.refl _ _).alloc (Nat.le_refl _) _

/-- cut, as numbers. -/
theorem rcut_spec {w : World} {s : Sl} {l : List Nat} (h : IntsAt w 3 .i64 s l) (hd : ∀ d ∈ l, d < 10000) :
    Calls Tryz.prog 84 #[.slice s.ao s.n s.c] w fun e w' =>
      ∃ t : Sl, e = .returned (.agg #[.slice t.ao t.n t.c]) ∧ RefS w' t (val 10000 l) ∧ t.n ≤ s.n ∧ Below w.heap.size w w' := by
  refine (rcut_walk s.ao s.n s.c l w h).mono ?_
  rintro e w' ⟨k, hk, rfl, h0, h1, hb⟩
  have hl := h.1
  have hn := norm_take (l := l) (k := k) (by omega) (fun i a b => h0 i a (by omega)) h1 10000
  exact ⟨⟨s.ao, k, s.c⟩, rfl, ⟨l.take k, (h.cut k s.c hk (by have := h.2.1; omega) (Nat.le_refl _)).up hb, fun d hdm => hd d (List.mem_of_mem_take hdm), hn.1, hn.2⟩, hk, hb⟩

end Go.Proofs.YtlpfkbkpnljieaaGreat

namespace Go.Proofs.YtlpfkbkpnljieaaGreat
open Go.RowKit

theorem rparse_long (s : ByteArray) (w : World) (h : 4096 < s.size) (h2 : s.size ≤ 9223372036854775807) :
    Calls Tryz.prog 54 #[.string s] w fun e w' => e = .returned (.tuple #[.agg #[.slice none 0 0], .int .i64 2]) ∧ Below w.heap.size w w' := by
  have hl : (4096 : Int) < (s.size : Int) := by omega
  have hbx : Below w.heap.size w _ := (Below.refl w.heap.size w).alloc (Nat.le_refl _) (.cells #[.slice none 0 0] 35)
  go_enter Tryz.func54, Tryz.ntmps54
  go_wp2
  exact bodyPost_ret (v := .tuple #[.agg #[.slice none 0 0], .int .i64 2]) (by simp [results, Tryz.results54, go_sem]) rfl ⟨rfl, hbx⟩

theorem rparse_empty (s : ByteArray) (w : World) (h : s.size = 0) :
    Calls Tryz.prog 54 #[.string s] w fun e w' => e = .returned (.tuple #[.agg #[.slice none 0 0], .int .i64 3]) ∧ Below w.heap.size w w' := by
  have hs : s = ⟨#[]⟩ := by
    obtain ⟨d⟩ := s
    have : d.size = 0 := h
    simp at this
    rw [this]
  subst hs
  have hbx : Below w.heap.size w _ := (Below.refl w.heap.size w).alloc (Nat.le_refl _) (.cells #[.slice none 0 0] 35)
  go_enter Tryz.func54, Tryz.ntmps54
  go_wp2
  exact bodyPost_ret (v := .tuple #[.agg #[.slice none 0 0], .int .i64 3]) (by simp [results, Tryz.results54, go_sem]) rfl ⟨rfl, hbx⟩

theorem rparse_zero (s : ByteArray) (w : World) (h : 1 < s.size) (h2 : s.size ≤ 4096) (h0 : (s[0]'(by omega)).toNat = 48) :
    Calls Tryz.prog 54 #[.string s] w fun e w' => e = .returned (.tuple #[.agg #[.slice none 0 0], .int .i64 3]) ∧ Below w.heap.size w w' := by
  have hl : (1 : Int) < (s.size : Int) := by omega
  have hl2 : decide ((4096 : Int) < (s.size : Int)) = false := by simp; omega
  have hne : ((s.size : Int) == 0) = false := beq_eq_false_iff_ne.2 (by omega)
  have h48 : (((s[0]'(by omega)).toNat : Int) == 48) = true := by rw [h0]; rfl
  have hbx : Below w.heap.size w _ := (Below.refl w.heap.size w).alloc (Nat.le_refl _) (.cells #[.slice none 0 0] 35)
  go_enter Tryz.func54, Tryz.ntmps54
  go_wp2
  exact bodyPost_ret (v := .tuple #[.agg #[.slice none 0 0], .int .i64 3]) (by simp [results, Tryz.results54, go_sem]) rfl ⟨rfl, hbx⟩

/-- What Parse answers where the text is neither too long nor wrong in front. -/
def RParsePost (w : World) (s : ByteArray) (e : Ending) (w' : World) : Prop :=
  (Digs (bs s) ∧ ∃ u : Sl, e = .returned (.tuple #[.agg #[.slice u.ao u.n u.c], .int .i64 0]) ∧ RefS w' u (dval (bs s)) ∧ u.n ≤ s.size ∧ Below w.heap.size w w') ∨
  (¬ Digs (bs s) ∧ e = .returned (.tuple #[.agg #[.slice none 0 0], .int .i64 3]) ∧ Below w.heap.size w w')

/-- The digits so far. -/
def RParseRel (w : World) (s : ByteArray) (ov ev : Value) (wr : World) : Prop := ∃ (z : Int) (k : Nat) (o : List Nat),
  ev = .int .i64 z ∧ z ≤ s.size ∧ -4 < z ∧ 4 * (k : Int) = s.size - z ∧ o.length = k ∧ (∀ d ∈ o, d < 10000) ∧ val 10000 o + 10000 ^ k * dval ((bs s).take z.toNat) = dval (bs s) ∧
  Own wr (w.heap.size + 1) 3 .i64 ov o ∧ wr.heap[w.heap.size]? = some (.cells #[.slice none 0 0] 35 (0, 0)) ∧ Below w.heap.size w wr

theorem bs_size (s : ByteArray) : (bs s).length = s.size := by simp [bs]
theorem bs_dg (s : ByteArray) (k : Nat) (h : k < s.size) : dg (bs s) k = (s[k]'h).toNat := by
  rw [dg_of (by rw [bs_size]; exact h)]
  simp [bs]
  rfl

/-- The digits of one round. -/
def RParseIn (s : ByteArray) (F E : Nat) (nv iv : Value) : Prop := ∃ j m : Nat, iv = .int .i64 j ∧ nv = .int .i64 m ∧ F ≤ j ∧ j ≤ E ∧ m < 10000 ∧ m = dval (seg (bs s) F j)

set_option maxHeartbeats 1600000 in
theorem rparse_rest (s : ByteArray) (w : World) (h : 0 < s.size) (h2 : s.size ≤ 4096) (h0 : s.size = 1 ∨ (s[0]'h).toNat ≠ 48) :
    Calls Tryz.prog 54 #[.string s] w (RParsePost w s) := by
  have hl2 : decide ((4096 : Int) < (s.size : Int)) = false := by simp; omega
  have hne : ((s.size : Int) == 0) = false := beq_eq_false_iff_ne.2 (by omega)
  have hE := ents1 w (.cells #[.slice none 0 0] 35)
  have hbx : Below w.heap.size w _ := (Below.refl w.heap.size w).alloc (Nat.le_refl _) (.cells #[.slice none 0 0] 35)
  have hinit : RParseRel w s (.slice none 0 0) (.int .i64 s.size) _ := ⟨s.size, 0, [], rfl, by omega, by omega, by omega, rfl, by simp, by simp [val, ← bs_size s], Own.nil _ _ _ _, hE.1, hbx⟩
  have hR := ent_cell hE.1 0
  have hRf := ent_frozen hE.1 0
  clear hE
  generalize hW1 : (w.alloc (.cells #[.slice none 0 0] 35)) = W1 at *
  have HW := Lib.hid hW1; clear hW1
  have hcase : (decide ((1 : Int) < (s.size : Int)) = false) ∨ (decide ((1 : Int) < (s.size : Int)) = true ∧ (((s[0]'h).toNat : Int) == 48) = false) := by
    rcases h0 with h0 | h0
    · left; simp; omega
    · by_cases h1 : s.size = 1
      · left; simp; omega
      · right
        exact ⟨by simp; omega, by simp; omega⟩
  clear h0
  rcases hcase with hl | ⟨hl, h48⟩
  all_goals (
    go_enter Tryz.func54, Tryz.ntmps54
    go_wp2
    rw [HW.out]
    go_loop [4] (fun i => ∃ k : Nat, i = .int .i64 k ∧ k ≤ s.size ∧ Digs ((bs s).take k)) (fun i => s.size - (intOf i).toNat)
    case atStart => exact ⟨0, rfl, Nat.zero_le _, by simpa using Digs.nil⟩
    case round =>
      obtain ⟨k, rfl, hk, hdk⟩ := hrel
      by_cases hlt : k < s.size
      · have hk1 : (k : Int) < (s.size : Int) := by omega
        have hDg := bs_dg s k hlt
        obtain ⟨D, hD⟩ : ∃ D : Nat, (s[k]'hlt).toNat = D := ⟨_, rfl⟩
        have hDb : D < 256 := by have := (s[k]'hlt).toNat_lt; omega
        rw [hD] at hDg
        have HDg := Lib.hid hDg; clear hDg
        have hDm : ¬ (48 ≤ D ∧ D ≤ 57) → ¬ Digs (bs s) := fun h hd => h (by
          have := dg_digs hd (i := k) (by rw [bs_size]; exact hlt)
          rw [HDg.out] at this
          exact this)
        by_cases hlo : D < 48
        · have hloI : (D : Int) < 48 := by omega
          have hnd := hDm (by omega)
          clear hDm
          go_wp2
          exact bodyPost_ret (v := .tuple #[.agg #[.slice none 0 0], .int .i64 3]) (by simp [results, Tryz.results54, go_sem, hR]) rfl (.inr ⟨hnd, rfl, hbx.setCell (by simp) _⟩)
        · have hloI : decide ((D : Int) < 48) = false := by simp; omega
          by_cases hhi : 57 < D
          · have hhiI : (57 : Int) < D := by omega
            have hnd := hDm (by omega)
            clear hDm
            go_wp2
            exact bodyPost_ret (v := .tuple #[.agg #[.slice none 0 0], .int .i64 3]) (by simp [results, Tryz.results54, go_sem, hR]) rfl (.inr ⟨hnd, rfl, hbx.setCell (by simp) _⟩)
          · have hhiI : decide ((57 : Int) < D) = false := by simp; omega
            have hd1 : Digs ((bs s).take (k + 1)) := by
              rw [List.take_succ_eq_append_getElem (by rw [bs_size]; exact hlt)]
              refine hdk.append ?_
              intro d hd
              have e1 := HDg.out
              rw [dg_of (by rw [bs_size]; exact hlt)] at e1
              have : d = D := by rw [← e1]; simpa using hd
              omega
            clear hDm
            go_wp2
            go_round
            case rel => exact ⟨k + 1, by go_num, by omega, hd1⟩
            case measure => simp [intOf]; omega
      · have hkk : k = s.size := by omega
        subst hkk
        have hall : (bs s).take s.size = bs s := List.take_of_length_le (by rw [bs_size]; exact Nat.le_refl _)
        rw [hall] at hdk
        have Hall := Lib.hid hall; clear hall
        have hsz : decide ((s.size : Int) < (s.size : Int)) = false := by simp
        clear hR hRf hbx
        go_wp2
        go_loopw [5, 6] (fun ov ev wr => RParseRel w s ov ev wr) (fun _ ev _ => (intOf ev).toNat)
        case atStart => exact hinit
        case round =>
          clear hinit
          obtain ⟨z, k, o, rfl, hz1, hz2, hzk, hol, hod, hval, hown, hE, hbl⟩ := hrel
          have HOL := Lib.hid hol; clear hol
          have HV := Lib.hid hval; clear hval
          have HZ := Lib.hid hzk; clear hzk
          by_cases hz0 : 0 < z
          · obtain ⟨E, rfl⟩ : ∃ E : Nat, z = E := ⟨z.toNat, by omega⟩
            have hEs : E ≤ s.size := by omega
            have hE0 : 0 < E := by omega
            have hst := rparse_step (l := bs s) (o := o) (e := E) (k := k) hdk (by rw [bs_size]; exact hEs) HOL.out (by have := HV.out; simpa using this) hE0
            have Hst := Lib.hid hst.1
            have hmlt := hst.2
            clear hst HV
            obtain ⟨F, hF⟩ : ∃ F : Nat, F = E - 4 := ⟨_, rfl⟩
            rw [← hF] at Hst hmlt
            have hFcase : (decide ((E : Int) - 4 < 0) = true ∧ F = 0) ∨ (decide ((E : Int) - 4 < 0) = false ∧ (E : Int) - 4 = (F : Int)) := by
              by_cases h4 : E < 4
              · left; exact ⟨by simp; omega, by omega⟩
              · right; exact ⟨by simp; omega, by omega⟩
            have HF := Lib.hid hF; clear hF
            go_upto_if 54 with fail
            go_cut [7] (fun fv wx => fv = .int .i64 F ∧ wx = wr)
            case first =>
              rcases hFcase with ⟨h4, h5⟩ | ⟨h4, h5⟩
              · have h4' : (E : Int) < 4 := by have := of_decide_eq_true h4; omega
                go_wp2
                go_meet
                exact ⟨by rw [h5]; rfl, rfl⟩
              · have h4' : ¬ (E : Int) < 4 := by have := of_decide_eq_false h4; omega
                go_wp2
                go_meet
                exact ⟨rfl, rfl⟩
            case rest =>
              clear hFcase
              obtain ⟨rfl, hwc⟩ := hcut
              obtain rfl := hwc.symm
              have hFE : F ≤ E := by have := HF.out; omega
              have hin0 : RParseIn s F E (.int .i64 0) (.int .i64 F) := ⟨F, 0, rfl, rfl, Nat.le_refl _, hFE, by omega, by rw [seg_empty]; rfl⟩
              go_wp2
              go_loop [8, 9] (fun nv iv => RParseIn s F E nv iv) (fun _ iv => E - (intOf iv).toNat)
              case atStart => exact hin0
              case round =>
                clear hin0
                obtain ⟨j, m, rfl, rfl, hFj, hjE, hm, hmd⟩ := hrel
                have HM := Lib.hid hmd; clear hmd
                by_cases hj : j < E
                · have hjI : (j : Int) < (E : Int) := by omega
                  have hjs : j < s.size := by omega
                  have hjsI : (j : Int) < (s.size : Int) := by omega
                  have hDg := bs_dg s j hjs
                  have hdd := dg_digs hdk (i := j) (by rw [bs_size]; exact hjs)
                  have hse := dval_seg_step (l := bs s) (f := F) (i := j) hdk hFj (by rw [bs_size]; exact hjs)
                  have hlt := dval_lt (seg_digs hdk F (j + 1))
                  rw [seg_len (by rw [bs_size]; omega)] at hlt
                  have h10 : 10 ^ (j + 1 - F) ≤ 10 ^ 4 := Nat.pow_le_pow_right (by omega) (by have := HF.out; omega)
                  obtain ⟨D, hD⟩ : ∃ D : Nat, (s[j]'hjs).toNat = D := ⟨_, rfl⟩
                  rw [hD] at hDg
                  rw [hDg] at hdd hse
                  have hm1 : dval (seg (bs s) F (j + 1)) < 10000 := by omega
                  obtain ⟨d, rfl⟩ : ∃ d : Nat, D = d + 48 := ⟨D - 48, by omega⟩
                  rw [Nat.add_sub_cancel] at hse
                  have hD9 : d ≤ 9 := by omega
                  have HN : Hid (10 * m + d = dval (seg (bs s) F (j + 1))) := by
                    unfold Hid
                    rw [hse, ← HM.out]
                  have HM1 := Lib.hid hm1
                  clear hDg hse hlt h10 hm1 hdd
                  go_wp2
                  go_round
                  case rel => exact ⟨j + 1, 10 * m + d, by go_num, by go_num, by omega, by omega, by rw [HN.out]; exact HM1.out, HN.out⟩
                  case measure => simp [intOf]; omega
                · have hjE' : Hid (j = E) := by unfold Hid; omega
                  have hjI : decide ((j : Int) < (E : Int)) = false := by simp; omega
                  have hws : w.heap.size + 1 ≤ wr.heap.size := ent_lt hE
                  have hl1 : (o.length + 1) * 8 ≤ 140737488355328 := by have := HOL.out; have := HZ.out; omega
                  have hl2 : o.length + 1 ≤ maxLen := by have := HOL.out; have := HZ.out; unfold maxLen; omega
                  go_wp2_with (at_builtin; refine wpList_push rowInt _ rfl _ _ rfl (w.heap.size + 1) u5 o _ m rfl rfl hown rfl hl1 hl2 hws ?_; intro v' w' hown' hb')
                  have hE' := ent_below hb' (by omega) hE
                  go_wp2
                  go_roundw
                  case rel =>
                    refine ⟨(E : Int) - 4, k + 1, o ++ [m], rfl, by omega, by omega, by have := HZ.out; push_cast; omega, by simp [HOL.out], snoc_lt hod hm, ?_, hown', hE', hbl.trans (hb'.mono (by omega))⟩
                    have e1 := HM.out
                    rw [hjE'.out] at e1
                    have e2 := HF.out
                    rw [show ((E : Int) - 4).toNat = F by omega, e1]
                    exact Hst.out
                  case measure => simp [intOf]; omega
          · have hzI : decide (0 < z) = false := by simp; omega
            obtain ⟨t, rfl, hti⟩ := hown.ints
            have htl := hti.1
            have HTL := Lib.hid htl; clear htl
            have hztn : z.toNat = 0 := by omega
            have hvd : val 10000 o = dval (bs s) := by
              have := HV.out
              rw [hztn] at this
              exact dval_all this
            have HVD := Lib.hid hvd
            clear hvd hztn
            go_wp2_with (go_at_call 84; refine (rcut_spec hti hod).mono ?_; rintro e w2 ⟨v, rfl, hv, hvn, hb2⟩; have hR := ent_cell (ent_up hb2 hE) 0; have hRf := ent_frozen (ent_up hb2 hE) 0)
            refine bodyPost_ret (v := .tuple #[.agg #[.slice v.ao v.n v.c], .int .i64 0]) (by simp [results, Tryz.results54, go_sem, hR]) rfl (.inl ⟨hdk, v, rfl, ?_, ?_, (hbl.trans (hb2.mono hbl.size)).setCell (by simp) _⟩)
            · have := hv.kp ((Kp.refl _).setCell (a := ⟨w.heap.size, 0, none⟩) (ent_up hb2 hE) (by decide) (.slice v.ao v.n v.c))
              rw [HVD.out] at this
              exact this
            · have := HTL.out
              have := HOL.out
              have := HZ.out
              omega)

end Go.Proofs.YtlpfkbkpnljieaaGreat

namespace Go.Proofs.YtlpfkbkpnljieaaGreat
open Go.RowKit

/-- Is a text read? -/
def good (l : List Nat) : Bool := !l.isEmpty && decide (l.length ≤ 4096) && l.all (fun d => decide (48 ≤ d) && decide (d ≤ 57)) && (decide (l.length ≤ 1) || !(l.headD 0 == 48))

theorem good_iff (l : List Nat) : good l = true ↔ Good l := by
  unfold good Good Digs
  cases l with
  | nil => simp
  | cons a l =>
    simp only [Bool.and_eq_true, Bool.or_eq_true, decide_eq_true_eq, List.all_eq_true, List.isEmpty_cons, Bool.not_false, Bool.not_eq_true', beq_eq_false_iff_ne, List.headD_cons, List.head?_cons, ne_eq, Option.some.injEq, reduceCtorEq, not_false_eq_true, true_and, and_assoc]
    constructor
    · rintro ⟨h1, h2, h3⟩
      exact ⟨h1, h2, fun h => h3.resolve_left (by omega)⟩
    · rintro ⟨h1, h2, h3⟩
      refine ⟨h1, h2, ?_⟩
      by_cases h : (a :: l).length ≤ 1
      · exact .inl h
      · exact .inr (h3 (by omega))

/-- The error of a text. -/
def perr (s : ByteArray) : Int := if 4096 < s.size then 2 else if good (bs s) then 0 else 3
/-- The number of a text. -/
def pval (s : ByteArray) : Nat := if good (bs s) then dval (bs s) else 0

theorem good_size {s : ByteArray} (h : good (bs s) = true) : s.size ≤ 4096 := by
  have := ((good_iff _).1 h).2.1
  rwa [bs_size] at this

theorem perr_long {s : ByteArray} (h : 4096 < s.size) : perr s = 2 ∧ pval s = 0 := by
  have : ¬ good (bs s) = true := fun hg => by have := good_size hg; omega
  unfold perr pval
  rw [if_pos h, if_neg this]
  exact ⟨rfl, rfl⟩
theorem perr_bad {s : ByteArray} (h : s.size ≤ 4096) (hg : ¬ Good (bs s)) : perr s = 3 ∧ pval s = 0 := by
  have : ¬ good (bs s) = true := fun h => hg ((good_iff _).1 h)
  unfold perr pval
  rw [if_neg (by omega), if_neg this, if_neg this]
  exact ⟨rfl, rfl⟩
theorem perr_ok {s : ByteArray} (hg : Good (bs s)) : perr s = 0 ∧ pval s = dval (bs s) := by
  have hg' := (good_iff _).2 hg
  have := good_size hg'
  unfold perr pval
  rw [if_neg (by omega), if_pos hg', if_pos hg']
  exact ⟨rfl, rfl⟩

/-- What a text is. -/
theorem parse_cases (s : ByteArray) : (4096 < s.size) ∨ (s.size = 0 ∧ ¬ Good (bs s)) ∨ (∃ h : 1 < s.size, s.size ≤ 4096 ∧ (s[0]'(by omega)).toNat = 48 ∧ ¬ Good (bs s)) ∨
    (∃ h : 0 < s.size, s.size ≤ 4096 ∧ (s.size = 1 ∨ (s[0]'h).toNat ≠ 48) ∧ (Digs (bs s) → Good (bs s))) := by
  by_cases h1 : 4096 < s.size
  · exact .inl h1
  · by_cases h2 : s.size = 0
    · refine .inr (.inl ⟨h2, fun hg => hg.1 (List.eq_nil_of_length_eq_zero (by rw [bs_size]; exact h2))⟩)
    · have hp : 0 < s.size := by omega
      have hh : (bs s).head? = some (s[0]'hp).toNat := by
        have := bs_dg s 0 hp
        rw [List.head?_eq_getElem?, List.getElem?_eq_getElem (by rw [bs_size]; exact hp), ← this, dg_of (by rw [bs_size]; exact hp)]
      by_cases h3 : s.size = 1 ∨ (s[0]'hp).toNat ≠ 48
      · refine .inr (.inr (.inr ⟨hp, by omega, h3, fun hd => ⟨fun e => ?_, by rw [bs_size]; omega, hd, fun hl => ?_⟩⟩))
        · have := bs_size s
          rw [e] at this
          simp at this
          omega
        · rw [bs_size] at hl
          rw [hh]
          intro e
          injection e with e
          omega
      · refine .inr (.inr (.inl ⟨by omega, by omega, by omega, fun hg => ?_⟩))
        have := hg.2.2.2 (by rw [bs_size]; omega)
        rw [hh] at this
        exact this (congrArg some (by omega))

/-- nat.Parse. -/
theorem parse_spec (s : ByteArray) (w : World) (h : s.size ≤ 9223372036854775807) :
    Calls Tryz.prog 49 #[.string s] w fun e w' =>
      ∃ u : Sl, e = .returned (.tuple #[.agg #[.slice u.ao u.n u.c], .int .i64 (perr s)]) ∧ NatS w' u (pval s) ∧ u.n ≤ s.size ∧ u.n ≤ 4096 ∧ Below w.heap.size w w' := by
  have hnil : ∀ w', NatS w' ⟨none, 0, 0⟩ 0 := fun w' => NatS.nil w' _ _ (by omega)
  rcases parse_cases s with h1 | ⟨h1, h2⟩ | ⟨h1, h2, h3, h4⟩ | ⟨h1, h2, h3, h4⟩
  · obtain ⟨e1, e2⟩ := perr_long h1
    rw [e1, e2]
    refine (parse_long s w h1 h).mono ?_
    rintro e w' ⟨rfl, hb⟩
    exact ⟨⟨none, 0, 0⟩, rfl, hnil _, Nat.zero_le _, Nat.zero_le _, hb⟩
  · obtain ⟨e1, e2⟩ := perr_bad (by omega) h2
    rw [e1, e2]
    refine (parse_empty s w h1).mono ?_
    rintro e w' ⟨rfl, hb⟩
    exact ⟨⟨none, 0, 0⟩, rfl, hnil _, Nat.zero_le _, Nat.zero_le _, hb⟩
  · obtain ⟨e1, e2⟩ := perr_bad (by omega) h4
    rw [e1, e2]
    refine (parse_zero s w h1 h2 h3).mono ?_
    rintro e w' ⟨rfl, hb⟩
    exact ⟨⟨none, 0, 0⟩, rfl, hnil _, Nat.zero_le _, Nat.zero_le _, hb⟩
  · refine (parse_rest s w h1 h2 h3).mono ?_
    rintro e w' (⟨hd, u, rfl, hu, hun, hb⟩ | ⟨hd, rfl, hb⟩)
    · obtain ⟨e1, e2⟩ := perr_ok (h4 hd)
      rw [e1, e2]
      exact ⟨u, rfl, hu, hun, by omega, hb⟩
    · obtain ⟨e1, e2⟩ := perr_bad h2 (fun hg => hd hg.2.2.1)
      rw [e1, e2]
      exact ⟨⟨none, 0, 0⟩, rfl, hnil _, Nat.zero_le _, Nat.zero_le _, hb⟩

/-- The reference's Parse. -/
theorem rparse_spec (s : ByteArray) (w : World) (h : s.size ≤ 9223372036854775807) :
    Calls Tryz.prog 54 #[.string s] w fun e w' =>
      ∃ u : Sl, e = .returned (.tuple #[.agg #[.slice u.ao u.n u.c], .int .i64 (perr s)]) ∧ RefS w' u (pval s) ∧ u.n ≤ s.size ∧ u.n ≤ 4096 ∧ Below w.heap.size w w' := by
  have hnil : ∀ w', RefS w' ⟨none, 0, 0⟩ 0 := fun w' => RefS.nil w' _ _ (by omega)
  rcases parse_cases s with h1 | ⟨h1, h2⟩ | ⟨h1, h2, h3, h4⟩ | ⟨h1, h2, h3, h4⟩
  · obtain ⟨e1, e2⟩ := perr_long h1
    rw [e1, e2]
    refine (rparse_long s w h1 h).mono ?_
    rintro e w' ⟨rfl, hb⟩
    exact ⟨⟨none, 0, 0⟩, rfl, hnil _, Nat.zero_le _, Nat.zero_le _, hb⟩
  · obtain ⟨e1, e2⟩ := perr_bad (by omega) h2
    rw [e1, e2]
    refine (rparse_empty s w h1).mono ?_
    rintro e w' ⟨rfl, hb⟩
    exact ⟨⟨none, 0, 0⟩, rfl, hnil _, Nat.zero_le _, Nat.zero_le _, hb⟩
  · obtain ⟨e1, e2⟩ := perr_bad (by omega) h4
    rw [e1, e2]
    refine (rparse_zero s w h1 h2 h3).mono ?_
    rintro e w' ⟨rfl, hb⟩
    exact ⟨⟨none, 0, 0⟩, rfl, hnil _, Nat.zero_le _, Nat.zero_le _, hb⟩
  · refine (rparse_rest s w h1 h2 h3).mono ?_
    rintro e w' (⟨hd, u, rfl, hu, hun, hb⟩ | ⟨hd, rfl, hb⟩)
    · obtain ⟨e1, e2⟩ := perr_ok (h4 hd)
      rw [e1, e2]
      exact ⟨u, rfl, hu, hun, by omega, hb⟩
    · obtain ⟨e1, e2⟩ := perr_bad h2 (fun hg => hd hg.2.2.1)
      rw [e1, e2]
      exact ⟨⟨none, 0, 0⟩, rfl, hnil _, Nat.zero_le _, Nat.zero_le _, hb⟩

end Go.Proofs.YtlpfkbkpnljieaaGreat

namespace Go.Proofs.YtlpfkbkpnljieaaGreat
open Go.RowKit

theorem bs_append (s t : ByteArray) : bs (s ++ t) = bs s ++ bs t := by simp [bs]
theorem bs_drop (s : ByteArray) (a : Nat) : bs (s.extract a s.size) = (bs s).drop a := by
  unfold bs
  rw [Lib.extract_data, List.take_of_length_le (by simp), List.map_drop]
theorem bs_txt {l : List Nat} (h : ∀ d ∈ l, d < 256) : bs (txt l) = l := by
  unfold bs txt
  simp only [List.map_map]
  conv => rhs; rw [← List.map_id l]
  apply List.map_congr_left
  intro d hd
  have := h d hd
  simp
  omega
theorem txt_bs (s : ByteArray) : txt (bs s) = s := by
  obtain ⟨⟨l⟩⟩ := s
  simp only [bs, txt, List.map_map]
  have : (fun d => UInt8.ofNat d) ∘ (fun b : UInt8 => b.toNat) = id := by funext b; simp
  rw [this, List.map_id]
theorem eq_txt {s : ByteArray} {l : List Nat} (h : bs s = l) : s = txt l := by rw [← h, txt_bs]
theorem digs_lt {l : List Nat} (h : Digs l) : ∀ d ∈ l, d < 256 := fun d hd => by have := h d hd; omega

theorem conv_four {w : World} {b d : Nat} {a0 a1 a2 a3 : Int} (hd : d < 10000) (h0 : a0 = 48 + d / 1000) (h1 : a1 = 48 + d / 100 % 10) (h2 : a2 = 48 + d / 10 % 10) (h3 : a3 = 48 + d % 10)
    (hb : w.heap[b]? = some (.cells #[.int .u8 a0, .int .u8 a1, .int .u8 a2, .int .u8 a3] 5 (0, 0))) :
    (convert 177 9 (.slice (some ⟨b, 0, none⟩) 4 4)).run Tryz.prog w = .ok (.string (txt (four d))) w := by
  have := run_convert_bytes_back (P := Tryz.prog) w 177 9 5 ⟨b, 0, none⟩ 4 ((four d).map fun d => UInt8.ofNat d) Tryz.underlying177 Tryz.underlying5 Tryz.underlying9 ?_
  · simpa [txt, four] using this
  · intro j hj
    have hj' : j < 4 := by simpa [four] using hj
    have ha : (⟨b, 0, none⟩ : Addr).add j = ⟨b, j, none⟩ := by
      unfold Addr.add
      split
      · rename_i h0; subst h0; rfl
      · simp
    rw [ha, ent_cell hb]
    subst h0 h1 h2 h3
    rcases j with _ | _ | _ | _ | j
    · simp [four]; omega
    · simp [four]; omega
    · simp [four]; omega
    · simp [four]; omega
    · omega

/-- The digits so far, the highest first. -/
def RTextRel (n : Nat) (l : List Nat) (sv iv : Value) : Prop := ∃ (k : Nat) (S : ByteArray), iv = .int .i64 ((k : Int) - 1) ∧ sv = .string S ∧ k ≤ n ∧ S.size = 4 * (n - k) ∧ Digs (bs S) ∧ dval (bs S) = val 10000 (l.drop k)

/-- The zeros in front. -/
def RStripRel (x : Nat) (sv : Value) : Prop := ∃ S : ByteArray, sv = .string S ∧ Digs (bs S) ∧ dval (bs S) = x ∧ S.size ≤ 4000000000000

set_option maxHeartbeats 800000 in
theorem rtext_pos {w : World} {s : Sl} {x : Nat} (h : RefS w s x) (hn : s.n ≤ 1000000000000) (h0 : 0 < x) :
    Calls Tryz.prog 102 #[.agg #[.slice s.ao s.n s.c]] w fun e w' => e = .returned (.string (txt (dec x))) ∧ Below w.heap.size w w' := by
  have hsn : 0 < s.n := by have := h.zero_iff; omega
  obtain ⟨l, hi, hd, hnl, hv⟩ := h
  have hlen := Lib.hid hi.1
  obtain ⟨b, off, hao, hb, hcell⟩ := hi.open hsn
  have Hc := Lib.hid hcell; clear hcell
  have hnc : s.n ≤ s.c := hi.2.1
  have hcc : s.c ≤ 9223372036854775807 := hi.2.2.1
  have Hd := Lib.hid hd; clear hd
  have Hv := Lib.hid hv; clear hv
  obtain ⟨ao, n, c⟩ := s
  simp only at hao hn hsn hnc hcc
  subst hao
  have hlen : Hid (n = l.length) := hlen
  have Hc : Hid (∀ i, i < n → w.cell? ⟨b, off + i, none⟩ = some (.int .i64 ((dg l i : Nat) : Int))) := Hc
  have hE := ents1 w (.cells #[.slice (some ⟨b, off, none⟩) n c] 35)
  have hbx : Below w.heap.size w _ := (Below.refl w.heap.size w).alloc (Nat.le_refl _) (.cells #[.slice (some ⟨b, off, none⟩) n c] 35)
  have hA := ent_cell hE.1 0
  have hWs := ent_lt hE.1
  have hinit : RTextRel n l (.string ⟨#[]⟩) (.int .i64 ((n : Int) - 1)) := ⟨n, ⟨#[]⟩, rfl, rfl, Nat.le_refl _, by simp; rfl, by simpa [bs] using Digs.nil, by
    have := hlen.out
    simp [bs, dval, this, val]
    ⟩
  have hn0 : ((n : Int) == 0) = false := by simp; omega
  clear hE hnl
  generalize hW1 : (w.alloc (.cells #[.slice (some ⟨b, off, none⟩) n c] 35)) = W1 at *
  have HW := Lib.hid hW1; clear hW1
  go_enter Tryz.func102, Tryz.ntmps102
  go_wp2
  rw [HW.out]
  go_loopw [3, 4] (fun sv iv wr => RTextRel n l sv iv ∧ Below W1.heap.size W1 wr) (fun _ iv _ => (intOf iv + 1).toNat)
  case atStart => exact ⟨hinit, Below.refl _ _⟩
  case round =>
    clear hinit
    obtain ⟨⟨k, S, rfl, rfl, hk, hS, hSd, hSv⟩, hbl⟩ := hrel
    have HSv := Lib.hid hSv; clear hSv
    have HSs := Lib.hid hS; clear hS
    by_cases hk0 : 0 < k
    · obtain ⟨j, rfl⟩ : ∃ j, k = j + 1 := ⟨k - 1, by omega⟩
      have hA' := hbl.cell (p := ⟨w.heap.size, 0, none⟩) hWs
      rw [hA] at hA'
      have hck : wr.cell? ⟨b, off + j, none⟩ = some (.int .i64 ((dg l j : Nat) : Int)) := ((hbl.cell (p := ⟨b, off + j, none⟩) (Nat.lt_trans hb hWs)).trans (hbx.cell (p := ⟨b, off + j, none⟩) hb)).trans (Hc.out j (by omega))
      have hx : dg l j < 10000 := dg_lt Hd.out (by omega) j
      have hvs := val_drop_step (B := 10000) (l := l) (k := j) (by have := hlen.out; omega)
      generalize hxe : dg l j = d at *
      have hcv := conv_four (w := wr.alloc (.cells #[.int .u8 (48 + (d : Int) / 1000), .int .u8 (48 + (d : Int) / 100 % 10), .int .u8 (48 + (d : Int) / 10 % 10), .int .u8 (48 + (d : Int) % 10)] 5)) hx rfl rfl rfl rfl (ent_new wr _)
      have HX := Lib.hid hxe; clear hxe
      have hfs : (txt (four d)).size = 4 := by simp [txt, four]; rfl
      have hSz : S.size + 4 ≤ 9223372036854775807 := by have := HSs.out; omega
      have HVS := Lib.hid hvs; clear hvs
      go_wp2
      go_roundw
      case rel =>
        refine ⟨⟨j, S ++ txt (four d), rfl, rfl, by omega, ?_, ?_, ?_⟩, hbl.alloc (hbl.size) _⟩
        · rw [ByteArray.size_append, hfs]
          have := HSs.out
          omega
        · rw [bs_append, bs_txt (digs_lt (four_digs hx))]
          exact hSd.append (four_digs hx)
        · rw [bs_append, bs_txt (digs_lt (four_digs hx)), dval_cat4, HSv.out, HVS.out, Nat.add_comm]
      case measure => simp [intOf]
    · have hk0 : k = 0 := by omega
      subst hk0
      have hx : dval (bs S) = x := by
        rw [HSv.out, List.drop_zero]
        exact Hv.out
      have hS4 : S.size ≤ 4000000000000 := by have := HSs.out; omega
      have hstrip : RStripRel x (.string S) := ⟨S, rfl, hSd, hx, hS4⟩
      clear HSv HSs hSd hx hS4
      go_wp2
      go_loop [3] (fun sv => RStripRel x sv) (fun sv => match sv with | .string S => S.size | _ => 0)
      case atStart => exact hstrip
      case round =>
        clear hstrip
        obtain ⟨S, rfl, hSd, hx, hS4⟩ := hrel
        have hne : 0 < S.size := by
          have := List.length_pos_iff.2 (dval_ne (a := bs S) (by omega))
          rw [bs_size] at this
          exact this
        have hneI : (0 : Int) < (S.size : Int) := by omega
        have HX := Lib.hid hx; clear hx
        have hDg := bs_dg S 0 hne
        obtain ⟨D, hD⟩ : ∃ D : Nat, (S[0]'hne).toNat = D := ⟨_, rfl⟩
        rw [hD] at hDg
        have HDg := Lib.hid hDg; clear hDg
        by_cases h48 : D = 48
        · have hDI : ((D : Int) == 48) = true := by simp; omega
          have hst := dval_strip (a := bs S) (by rw [HDg.out]; exact h48)
          have HST := Lib.hid hst
          clear h48 hst
          have hsz : (S.extract 1 S.size).size < S.size := by simp; omega
          have HSZ := Lib.hid hsz; clear hsz
          go_wp2
          go_round
          case rel => exact ⟨S.extract 1 S.size, rfl, by rw [bs_drop]; exact hSd.drop 1, by rw [bs_drop, HST.out]; exact HX.out, Nat.le_trans (Nat.le_of_lt HSZ.out) hS4⟩
          case measure => exact HSZ.out
        · have hDI : ((D : Int) == 48) = false := by simp; omega
          have hend := dec_of_digs hSd (dval_ne (a := bs S) (by rw [HX.out]; omega)) (by rw [HDg.out]; exact h48)
          rw [HX.out] at hend
          have HEND := Lib.hid (eq_txt hend)
          clear hend h48
          go_wp2
          go_ret
          exact ⟨by rw [HEND.out]; rfl, hbx.trans (hbl.mono (Nat.le_of_lt hWs))⟩

theorem rtext_zero {w : World} {s : Sl} (h0 : s.n = 0) :
    Calls Tryz.prog 102 #[.agg #[.slice s.ao s.n s.c]] w fun e w' => e = .returned (.string (txt (dec 0))) ∧ Below w.heap.size w w' := by
  rw [h0]
  go_enter Tryz.func102, Tryz.ntmps102
  go_wp2
  go_ret
  exact ⟨rfl, (Below.refl _ _).alloc (Nat.le_refl _) _⟩

/-- The text of a number of the reference. -/
theorem rtext_spec {w : World} {s : Sl} {x : Nat} (h : RefS w s x) (hn : s.n ≤ 1000000000000) :
    Calls Tryz.prog 102 #[.agg #[.slice s.ao s.n s.c]] w fun e w' => e = .returned (.string (txt (dec x))) ∧ Below w.heap.size w w' := by
  by_cases hx : 0 < x
  · exact rtext_pos h hn hx
  · obtain rfl : x = 0 := by omega
    exact rtext_zero (h.zero_iff.1 rfl)

end Go.Proofs.YtlpfkbkpnljieaaGreat
