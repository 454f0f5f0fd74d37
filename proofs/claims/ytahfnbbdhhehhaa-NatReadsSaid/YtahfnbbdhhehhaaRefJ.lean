/- The reference: Bits. -/
import Derived.Test.YtahfnbbdhhehhaaProg
import Derived.Test.YtahfnbbdhhehhaaRefH
import Derived.Test.YtahfnbbdhhehhaaLen
import Derived.Deep.LoopGhost
namespace Go.Proofs.Ytahfnbbdhhehhaa
open Go.RowKit

theorem bl_zero : bl 0 = 0 := by
  have := (bl_le 0 0).2 (by simp)
  omega
theorem bl_half {x : Nat} (h : 0 < x) : bl x = bl (x / 2) + 1 := by
  have h1 : bl x ≤ bl (x / 2) + 1 := by
    rw [bl_le, Nat.pow_succ]
    have := (bl_le (x / 2) (bl (x / 2))).1 (Nat.le_refl _)
    omega
  have h2 : 0 < bl x := by
    rcases Nat.eq_zero_or_pos (bl x) with e | e
    · have := (bl_le x 0).1 (by omega)
      simp at this
      omega
    · exact e
  have h3 : bl (x / 2) ≤ bl x - 1 := by
    rw [bl_le]
    have h4 := (bl_le x (bl x)).1 (Nat.le_refl _)
    obtain ⟨k, hk⟩ : ∃ k, bl x = k + 1 := ⟨bl x - 1, by omega⟩
    rw [hk] at h4 ⊢
    rw [Nat.pow_succ] at h4
    simp only [Nat.add_sub_cancel]
    omega
  omega

/-- The halvings. -/
def RBitsRel (w : World) (N X x : Nat) (kv : Value) (wr : World) : Prop := ∃ (k : Nat) (sa : Sl), kv = .int .i64 k ∧ wr.heap[w.heap.size]? = some (.cells #[.slice sa.ao sa.n sa.c] 30 (0, 0)) ∧ RefS wr sa x ∧ sa.n ≤ N ∧ k + bl x = bl X ∧ Below w.heap.size w wr
/-- One halving. -/
def RBitsIn (W : World) (g n : Nat) (l : List Nat) (rv iv : Value) (wr : World) : Prop := ∃ (k q : Nat) (o : List Nat), k ≤ n ∧ iv = .int .i64 ((k : Int) - 1) ∧ rv = .int .i64 q ∧ q < 2 ∧ Own wr W.heap.size 3 .i64 (.slice (some ⟨g, 0, none⟩) n n) o ∧ o.length = n ∧ (∀ d ∈ o, d < 10000) ∧
  val 10000 (l.drop k) = 2 * val 10000 (o.drop k) + q ∧ Below W.heap.size W wr

theorem ref_bl {w : World} {s : Sl} {x : Nat} (h : RefS w s x) : bl x ≤ 14 * s.n := by
  rw [bl_le]
  have h1 := h.lt_pow
  have h2 : 10000 ^ s.n ≤ (2 ^ 14) ^ s.n := Nat.pow_le_pow_left (by decide) _
  rw [Nat.pow_mul]
  omega

set_option maxHeartbeats 1600000 in
theorem rbits_spec {w : World} {s : Sl} {X : Nat} (h : RefS w s X) (hn : s.n ≤ 1000000) :
    Calls Try.prog 24 #[.agg #[.slice s.ao s.n s.c]] w fun e w' => e = .returned (.int .i64 (bl X : Int)) ∧ Below w.heap.size w w' := by
  have hE := ents1 w (.cells #[.slice s.ao s.n s.c] 30)
  have hbx : Below w.heap.size w _ := (Below.refl w.heap.size w).alloc (Nat.le_refl _) (.cells #[.slice s.ao s.n s.c] 30)
  have hinit : RBitsRel w s.n X X (.int .i64 0) _ := ⟨0, s, rfl, hE.1, h.up hbx, Nat.le_refl _, by omega, hbx⟩
  have hbX : bl X ≤ 14000000 := by have := ref_bl h; omega
  generalize s.n = N at hinit hn ⊢
  clear hE hbx
  go_enter Try.func24, Try.ntmps24
  go_wp2
  go_loopg [3] X (fun x kv wr => RBitsRel w N X x kv wr)
  case atStart => exact hinit
  case round =>
    clear hinit
    obtain ⟨k, ⟨ao, n, c⟩, rfl, hE, ha, hna, hbl, hb⟩ := hrel
    have hE : wr.heap[w.heap.size]? = some (.cells #[.slice ao n c] 30 (0, 0)) := hE
    have hna : n ≤ N := hna
    have hA := ent_cell hE 0
    have hws := ent_lt hE
    by_cases h0 : 0 < n
    · have hx0 : 0 < gk := by have := ha.zero_iff; simp at this; omega
      have HBL : Hid (k + 1 + bl (gk / 2) = bl X) := by have := bl_half hx0; show _ = _; omega
      obtain ⟨l, hi, hld, hnl, hv⟩ := ha
      have hll : Hid (n = l.length) := hi.1
      obtain ⟨b, off, hao, hbw, hcell⟩ := hi.open h0
      simp only at hao
      subst hao
      have Hcell : Hid (∀ i, i < n → wr.cell? ⟨b, off + i, none⟩ = some (.int .i64 ((dg l i : Nat) : Int))) := hcell
      have Hld := Lib.hid hld
      have HV := Lib.hid hv
      have hkX : k < 14000000 := by have := HBL.out; omega
      clear hcell hld hv hnl hi hbl
      obtain ⟨wo, hwo⟩ : ∃ wo : World, wo = wr := ⟨_, rfl⟩
      subst hwo
      go_wp2_with (at_make; refine wpList_mkfull' rowInt _ rfl _ _ rfl wo.heap.size _ _ _ _ n rfl rfl rfl rfl (by omega) (by unfold maxLen; omega) (Nat.le_refl _) ?_; intro w1 ho hb1 hsz; have hA1 := ent_cell (ent_up hb1 hE) 0)
      have hin0 : RBitsIn wo wo.heap.size n l (.int .i64 0) (.int .i64 ((n : Int) - 1)) w1 := ⟨n, 0, _, Nat.le_refl _, rfl, rfl, by omega, ho, by simp, by simp, by have := hll.out; simp [this, val], hb1⟩
      clear ho hb1 hA1 hsz
      go_loopw [4, 6] (fun rv iv wr => RBitsIn wo wo.heap.size n l rv iv wr) (fun _ iv _ => (intOf iv + 1).toNat)
      case atStart => exact hin0
      case round =>
        clear hin0 hA
        obtain ⟨j, q, o, hj, rfl, rfl, hq, hown, hol, hod, hval, hbl⟩ := hrel
        have HOL := Lib.hid hol; clear hol
        have HOD := Lib.hid hod; clear hod
        have HVL := Lib.hid hval; clear hval
        have hA := ent_cell (ent_up hbl hE) 0
        by_cases hj0 : 0 < j
        · obtain ⟨i, rfl⟩ : ∃ i, j = i + 1 := ⟨j - 1, by omega⟩
          have hck : wr.cell? ⟨b, off + i, none⟩ = some (.int .i64 ((dg l i : Nat) : Int)) := (hbl.cell (p := ⟨b, off + i, none⟩) hbw).trans (Hcell.out i (by omega))
          have hx : dg l i < 10000 := dg_lt Hld.out (by omega) i
          have hstep := Lib.hid (by_step (B := 10000) (o := o) (d := 2) (x := dg l i) (by have := hll.out; omega) (by have := hll.out; have := HOL.out; omega) rfl HVL.out)
          generalize dg l i = x at *
          obtain ⟨M, hM⟩ : ∃ M : Nat, M = q * 10000 + x := ⟨_, rfl⟩
          rw [← hM] at hstep
          have hMI : (q : Int) * 10000 + (x : Int) = (M : Int) := by omega
          have hM2 : M < 20000 := by omega
          have hM3 : M / 2 < 10000 := by omega
          have hq2 : M % 2 < 2 := by omega
          clear hM
          obtain ⟨hoc, hof, _, _⟩ := hown.slot i (by have := HOL.out; omega)
          have hst := hown.store i (M / 2)
          go_wp2
          go_roundw
          case rel => exact ⟨i, M % 2, _, by omega, rfl, by go_num, hq2, hst.1, by rw [List.length_set]; exact HOL.out, set_lt HOD.out hM3, hstep.out, hbl.trans hst.2⟩
          case measure => simp [intOf]
        · have hj00 : j = 0 := by omega
          subst hj00
          have hval2 : val 10000 o = gk / 2 := by
            have h1 := HVL.out
            simp only [List.drop_zero] at h1
            rw [HV.out] at h1
            omega
          have HV2 := Lib.hid hval2; clear hval2
          have hoi := hown.intsAt
          have hjI : decide ((0 : Int) ≤ ((0 : Nat) : Int) - 1) = false := by simp
          go_wp2_with (go_at_call 46; refine (rcut_spec hoi HOD.out).mono ?_; rintro e w2 ⟨u, rfl, hu, hun, hb2⟩; have hF := ent_up hb2 (ent_up hbl hE); have hFc := ent_cell hF 0; have hFf := ent_frozen hF 0)
          rw [HV2.out] at hu
          go_roundg (gk / 2)
          case measure => omega
          case rel => exact ⟨k + 1, u, by go_num, ent_set hF _, hu.kp ((Kp.refl _).setCell (a := ⟨w.heap.size, 0, none⟩) hF (by decide) _), Nat.le_trans hun hna, HBL.out, ((hb.trans (hbl.mono hb.size)).trans (hb2.mono (Nat.le_trans hb.size hbl.size))).setCell (by simp) _⟩
    · have hx0 : gk = 0 := by have := ha.zero_iff; simp at this; omega
      subst hx0
      have hk : k = bl X := by rw [bl_zero] at hbl; omega
      have HK := Lib.hid hk; clear hk
      go_wp2
      go_ret
      exact ⟨by rw [← HK.out]; rfl, hb⟩

end Go.Proofs.Ytahfnbbdhhehhaa
