/- The reference: Root. -/
import Derived.Test.YtaafmafdnnjmdaaGreatProg
import Derived.Test.YtaafmafdnnjmdaaGreatRefX
import Derived.Test.YtaafmafdnnjmdaaGreatMathR
import Derived.Test.YtaafmafdnnjmdaaGreatLawA
import Derived.Deep.DeepCutAuto
import Derived.Deep.LoopGhost
namespace Go.Proofs.YtaafmafdnnjmdaaGreat
open Go.RowKit

/-- All of W is as it was, but for two boxes. -/
def KeptBut (W : World) (b1 b2 : Nat) (w : World) : Prop := (∀ (k : Nat) (o : Obj), k ≠ b1 → k ≠ b2 → W.heap[k]? = some o → w.heap[k]? = some o) ∧
  (∃ v, w.heap[b1]? = some (.cells #[v] 38 (0, 0))) ∧ (∃ v, w.heap[b2]? = some (.cells #[v] 38 (0, 0))) ∧ Below b1 W w
theorem KeptBut.drew {W w : World} {b1 b2 : Nat} (h : KeptBut W b1 b2 w) : KeptBut W b1 b2 w.drew := ⟨h.1, h.2.1, h.2.2.1, h.2.2.2.drew⟩
theorem KeptBut.call {W w w' : World} {b1 b2 : Nat} (h : KeptBut W b1 b2 w) (hb : Below w.heap.size w w') : KeptBut W b1 b2 w' := by
  obtain ⟨h1, ⟨v1, h2⟩, ⟨v2, h3⟩, h4⟩ := h
  exact ⟨fun k o a b c => ent_up hb (h1 k o a b c), ⟨v1, ent_up hb h2⟩, ⟨v2, ent_up hb h3⟩, h4.trans (hb.mono (Nat.le_of_lt (ent_lt h2)))⟩
theorem KeptBut.set1 {W w : World} {b1 b2 : Nat} (h : KeptBut W b1 b2 w) (hne : b1 < b2) (v : Value) : KeptBut W b1 b2 (w.setCell ⟨b1, 0, none⟩ v) := by
  obtain ⟨h1, ⟨v1, h2⟩, ⟨v2, h3⟩, h4⟩ := h
  exact ⟨fun k o a b c => ent_set_other (h1 k o a b c) (by simpa using a) v, ⟨v, ent_set h2 v⟩, ⟨v2, ent_set_other h3 (by simp; omega) v⟩, h4.setCell (Nat.le_refl _) v⟩
theorem KeptBut.set2 {W w : World} {b1 b2 : Nat} (h : KeptBut W b1 b2 w) (hne : b1 < b2) (v : Value) : KeptBut W b1 b2 (w.setCell ⟨b2, 0, none⟩ v) := by
  obtain ⟨h1, ⟨v1, h2⟩, ⟨v2, h3⟩, h4⟩ := h
  exact ⟨fun k o a b c => ent_set_other (h1 k o a b c) (by simpa using b) v, ⟨v1, ent_set_other h2 (by simp; omega) v⟩, ⟨v, ent_set h3 v⟩, h4.setCell (by simp; omega) v⟩
theorem KeptBut.kp {W w : World} {b1 b2 : Nat} (h : KeptBut W b1 b2 w) {v1 v2 : Value} (h1 : W.heap[b1]? = some (.cells #[v1] 38 (0, 0))) (h2 : W.heap[b2]? = some (.cells #[v2] 38 (0, 0))) : Kp W w := fun b c T f hT hb => by
  refine h.1 b _ ?_ ?_ hb
  · rintro rfl
    rw [h1] at hb
    simp at hb
    rcases hT with h | h | h <;> rw [← hb.2.1] at h <;> exact absurd h (by decide)
  · rintro rfl
    rw [h2] at hb
    simp at hb
    rcases hT with h | h | h <;> rw [← hb.2.1] at h <;> exact absurd h (by decide)
theorem KeptBut.refl {W : World} {b1 b2 : Nat} {v1 v2 : Value} (h1 : W.heap[b1]? = some (.cells #[v1] 38 (0, 0))) (h2 : W.heap[b2]? = some (.cells #[v2] 38 (0, 0))) : KeptBut W b1 b2 W := ⟨fun _ _ _ _ h => h, ⟨v1, h1⟩, ⟨v2, h2⟩, Below.refl _ _⟩

/-- Root's memory. -/
def RRootSt (w : World) (s : Sl) (g n : Nat) (p : List Nat) (wr : World) : Prop :=
  wr.heap[w.heap.size]? = some (.cells #[.slice s.ao s.n s.c] 38 (0, 0)) ∧ wr.heap[w.heap.size + 1]? = some (.cells #[.slice none 0 0] 38 (0, 0)) ∧
  wr.heap[w.heap.size + 1 + 1]? = some (.cells #[.slice none 0 0] 38 (0, 0)) ∧ Own wr (w.heap.size + 3) 3 .i64 (.slice (some ⟨g, 0, none⟩) n n) p ∧ Below w.heap.size w wr
theorem RRootSt.up {w : World} {s : Sl} {g n : Nat} {p : List Nat} {wr w' : World} (h : RRootSt w s g n p wr) (hb : Below wr.heap.size wr w') : RRootSt w s g n p w' :=
  ⟨ent_up hb h.1, ent_up hb h.2.1, ent_up hb h.2.2.1, h.2.2.2.1.below hb (Nat.le_refl _), h.2.2.2.2.trans (hb.mono h.2.2.2.2.size)⟩
theorem RRootSt.store {w : World} {s : Sl} {g n : Nat} {p : List Nat} {wr : World} (h : RRootSt w s g n p wr) (hg : w.heap.size + 1 + 1 < g) (j d : Nat) : RRootSt w s g n (p.set j d) (wr.setCell ⟨g, j, none⟩ (.int .i64 ((d : Nat) : Int))) :=
  ⟨ent_set_other h.1 (by simp; omega) _, ent_set_other h.2.1 (by simp; omega) _, ent_set_other h.2.2.1 (by simp; omega) _, (h.2.2.2.1.store j d).1, h.2.2.2.2.setCell (by simp; omega) _⟩

/-- A digit of the root. -/
theorem val_root {B i m : Nat} {r0 : List Nat} (hi : i < r0.length) (h0 : dg r0 i = 0) : val B (r0.set i m) = val B r0 + B ^ i * m := by
  have := val_set B r0 i m hi
  rw [h0] at this
  omega

/-- An empty row of the call's own. -/
theorem own_empty (w : World) : Own (w.alloc (.cells #[] 3)) w.heap.size 3 .i64 (.slice (some ⟨w.heap.size, 0, none⟩) 0 0) [] :=
  ⟨by simp, .inr ⟨w.heap.size, 0, #[], rfl, Nat.le_refl _, heap_alloc_new w _, Nat.le_refl _, by decide, by simp, by simp⟩⟩

/-- The rounds. -/
def RRootRel (w : World) (s : Sl) (g n X : Nat) (iv : Value) (wr : World) : Prop := ∃ (k : Nat) (p : List Nat), k ≤ n ∧ iv = .int .i64 ((k : Int) - 1) ∧ p.length = n ∧ (∀ d ∈ p, d < 10000) ∧ (∀ j, j < k → dg p j = 0) ∧
  val 10000 p * val 10000 p ≤ X ∧ X < (val 10000 p + 10000 ^ k) * (val 10000 p + 10000 ^ k) ∧ RRootSt w s g n p wr
/-- The search for a digit. -/
def RRootIn (w : World) (s : Sl) (g n X i : Nat) (r0 : List Nat) (lv hv : Value) (wr : World) : Prop := ∃ (lo hi m : Nat), lv = .int .i64 lo ∧ hv = .int .i64 hi ∧ lo < hi ∧ hi ≤ 10000 ∧ m < 10000 ∧
  (val 10000 r0 + 10000 ^ i * lo) * (val 10000 r0 + 10000 ^ i * lo) ≤ X ∧ X < (val 10000 r0 + 10000 ^ i * hi) * (val 10000 r0 + 10000 ^ i * hi) ∧ RRootSt w s g n (r0.set i m) wr

set_option maxHeartbeats 3200000 in
theorem rroot_spec {w : World} {s : Sl} {X : Nat} (h : RefS w s X) (hn : s.n ≤ 1000000) :
    Calls Tryz.prog 123 #[.agg #[.slice s.ao s.n s.c]] w fun e w' =>
      ∃ (u v : Sl) (r : Nat), e = .returned (.tuple #[.agg #[.slice u.ao u.n u.c], .agg #[.slice v.ao v.n v.c]]) ∧ RefS w' u r ∧ RefS w' v (X - r * r) ∧ r * r ≤ X ∧ X < (r + 1) * (r + 1) ∧ u.n ≤ s.n ∧ v.n ≤ s.n ∧ Below w.heap.size w w' := by
  obtain ⟨hE1, hE2, hE3, hz⟩ := ents3 w (.cells #[.slice s.ao s.n s.c] 38) (.cells #[.slice none 0 0] 38) (.cells #[.slice none 0 0] 38)
  have hbx : Below w.heap.size w (((w.alloc (.cells #[.slice s.ao s.n s.c] 38)).alloc (.cells #[.slice none 0 0] 38)).alloc (.cells #[.slice none 0 0] 38)) := (((Below.refl _ _).alloc (Nat.le_refl _) _).alloc (by simp) _).alloc (by simp; omega) _
  have hA := ent_cell hE1 0
  obtain ⟨n, hnd⟩ : ∃ n : Nat, n = (s.n + 1) / 2 := ⟨_, rfl⟩
  have hnI : ((s.n : Int) + 1) / 2 = (n : Int) := by omega
  have hn2 : s.n ≤ 2 * n := by omega
  have hn3 : n ≤ 1000000 := by omega
  have hlim : X < 10000 ^ n * 10000 ^ n := by
    have h1 := h.lt_pow
    have h2 : 10000 ^ s.n ≤ 10000 ^ (2 * n) := Nat.pow_le_pow_right (by omega) hn2
    rw [Nat.two_mul, Nat.pow_add] at h2
    omega
  clear hnd
  go_enter Tryz.func123, Tryz.ntmps123
  go_wp2_with (at_make; refine wpList_mkfull' rowInt _ rfl _ _ rfl (w.heap.size + 3) _ _ _ _ n rfl rfl hnI hnI (by omega) (by unfold maxLen; omega) (by simp) ?_; intro w1 ho hb hsz)
  have hoR : Own w1 (w.heap.size + 3) 3 .i64 (.slice (some ⟨w.heap.size + 3, 0, none⟩) n n) (List.replicate n 0) := by simpa using ho
  have hst0 : RRootSt w s (w.heap.size + 3) n (List.replicate n 0) w1 := ⟨ent_up hb hE1, ent_up hb hE2, ent_up hb hE3, hoR, hbx.trans (hb.mono hbx.size)⟩
  have hinit : RRootRel w s (w.heap.size + 3) n X (.int .i64 ((n : Int) - 1)) w1 :=
    ⟨n, _, Nat.le_refl _, rfl, by simp, by simp, fun j _ => by simp [dg, List.getElem?_replicate]; split <;> rfl, by simp [val_replicate], by simpa [val_replicate] using hlim, hst0⟩
  clear hst0 hoR hsz hb ho hA hbx hE1 hE2 hE3 hz hlim
  clear hnI
  obtain ⟨g, hg⟩ : ∃ g : Nat, g = w.heap.size + 3 := ⟨_, rfl⟩
  have hg4 : w.heap.size + 1 + 1 < g := by omega
  rw [show (⟨w.heap.size + 3, 0, none⟩ : Addr) = ⟨g, 0, none⟩ by rw [hg]]
  rw [← hg] at hinit
  have HG := Lib.hid hg; clear hg
  go_loopw [6] (fun iv wr => RRootRel w s g n X iv wr) (fun iv _ => (intOf iv + 1).toNat)
  case atStart => exact hinit
  case round =>
    clear hinit
    obtain ⟨k, r0, hk, rfl, hol, hod, hzz, hlo, hhi, hst⟩ := hrel
    have HOL := Lib.hid hol; clear hol
    have HOD := Lib.hid hod; clear hod
    have HZ := Lib.hid hzz; clear hzz
    have HLO := Lib.hid hlo; clear hlo
    have HHI := Lib.hid hhi; clear hhi
    by_cases hk0 : 0 < k
    · obtain ⟨i, rfl⟩ : ∃ i, k = i + 1 := ⟨k - 1, by omega⟩
      rw [show (((i + 1 : Nat) : Int) - 1) = (i : Int) by omega]
      have hr0i : r0.set i 0 = r0 := by
        have h0 := HZ.out i (by omega)
        rw [dg_of (by have := HOL.out; omega)] at h0
        conv => lhs; rw [← h0]
        exact List.set_getElem_self _
      have hin0 : RRootIn w s g n X i r0 (.int .i64 0) (.int .i64 10000) wr := ⟨0, 10000, 0, rfl, rfl, by omega, by omega, by omega, by simpa using HLO.out, by have := HHI.out; rw [Nat.pow_succ] at this; exact this, by rw [hr0i]; exact hst⟩
      clear hr0i hst
      go_wp2
      go_loopw [7, 8] (fun lv hv wr => RRootIn w s g n X i r0 lv hv wr) (fun lv hv _ => (intOf hv - intOf lv).toNat)
      case atStart => exact hin0
      case round =>
        clear hin0
        obtain ⟨lo, hgh, m, rfl, rfl, hlh, hh, hm, h1, h2, hst⟩ := hrel
        have H1 := Lib.hid h1; clear h1
        have H2 := Lib.hid h2; clear h2
        by_cases hgo : lo + 1 < hgh
        · obtain ⟨M, hM⟩ : ∃ M : Nat, M = (lo + hgh) / 2 := ⟨_, rfl⟩
          have hM1 : lo < M := by omega
          have hM2 : M < hgh := by omega
          have hMI : ((lo : Int) + (hgh : Int)) / 2 = (M : Int) := by omega
          have hgoI : (1 : Int) < (hgh : Int) - lo := by omega
          have hi1 : (i : Int) < (n : Int) := by omega
          clear hM
          obtain ⟨hoc, hof, _, _⟩ := hst.2.2.2.1.slot i (by rw [List.length_set]; have := HOL.out; omega)
          have hst2 := hst.store hg4 i M
          rw [List.set_set] at hst2
          clear hst
          go_upto_region 10 with fail
          clear hoc hof
          generalize wr.setCell ⟨g, i, none⟩ (.int .i64 (M : Int)) = wq at *
          have hlen : Hid ((r0.set i M).length = n) := by show _ = _; rw [List.length_set]; exact HOL.out
          have hdig : Hid (∀ d ∈ r0.set i M, d < 10000) := set_lt HOD.out (by omega)
          have hval : Hid (val 10000 (r0.set i M) = val 10000 r0 + 10000 ^ i * M) := val_root (by have := HOL.out; omega) (HZ.out i (by omega))
          have hbE : Below wq.heap.size wq (wq.alloc (.cells #[] 3)) := (Below.refl _ _).alloc (Nat.le_refl _) _
          have hl1 : (([] : List Nat).length + (r0.set i M).length) * 8 ≤ 140737488355328 := by have := hlen.out; simp only [List.length_nil]; omega
          have hl2 : ([] : List Nat).length + (r0.set i M).length ≤ maxLen := by have := hlen.out; unfold maxLen; simp only [List.length_nil]; omega
          go_wp2_with (first
            | (at_builtin; refine wpList_pushAll rowInt _ rfl _ _ rfl wq.heap.size _ [] (r0.set i M) ⟨some ⟨g, 0, none⟩, n, n⟩ rfl rfl (own_empty wq) ((hst2.2.2.2.1.intsAt).up hbE) (by simp; omega) hl1 hl2 (by simp) ?_; intro v' w2 hown2 hb2)
            | (go_at_call 103; obtain ⟨q, hq, hqi⟩ := hown2.ints; rw [hq]; refine (rcut_spec hqi hdig.out).mono ?_; rintro e w3 ⟨x, rfl, hx, hxn, hb3⟩))
          have hbW : Below wq.heap.size wq (w3.alloc (.cells #[.slice x.ao x.n x.c] 38)) := ((hbE.trans hb2).trans (hb3.mono (Nat.le_trans hbE.size hb2.size))).alloc (Nat.le_trans (Nat.le_trans hbE.size hb2.size) hb3.size) _
          have hstW := hst2.up hbW
          have hX10 := ent_new w3 (.cells #[.slice x.ao x.n x.c] 38)
          have hxW := hx.up ((Below.refl _ _).alloc (Nat.le_refl _) (.cells #[.slice x.ao x.n x.c] 38))
          have hsX := h.up hstW.2.2.2.2
          have hxn2 : x.n ≤ 1000000 := by have := hqi.1; simp only [List.nil_append] at this; have := hlen.out; omega
          clear hbE hl1 hl2 hst2 hx hxn hb2 hb3 hown2 hqi hq hbW hdig hlen
          generalize w3.alloc (.cells #[.slice x.ao x.n x.c] 38) = W at *
          have mk : Hid (∀ w', Grew W w' → w'.cell? ⟨w3.heap.size, 0, none⟩ = some (.slice x.ao x.n x.c) ∧ w'.cell? ⟨w.heap.size, 0, none⟩ = some (.slice s.ao s.n s.c) ∧ Grew W w') :=
            fun w' hg => ⟨cell_grew hg hX10, cell_grew hg hstW.1, hg⟩
          rw [List.nil_append] at hxW
          by_cases hle : val 10000 (r0.set i M) * val 10000 (r0.set i M) ≤ X
          · go_region_held3 (fun w' => w'.cell? ⟨w3.heap.size, 0, none⟩ = some (.slice x.ao x.n x.c) ∧ w'.cell? ⟨w.heap.size, 0, none⟩ = some (.slice s.ao s.n s.c) ∧ Grew W w')
              (first
                | exact mk.out _ (Grew.refl _).drew
                | exact mk.out _ (Grew.call (‹_ ∧ _ ∧ Grew W _›.2.2) ‹Below _ _ _›))
              (first
                | (go_at_call 118; refine (rmul_spec (hxW.grew (‹_ ∧ _ ∧ Grew W _›.2.2)) (hxW.grew (‹_ ∧ _ ∧ Grew W _›.2.2)) (by omega) (by omega)).mono ?_; rintro e w9 ⟨v, rfl, hv, hvn, hbw⟩)
                | (go_at_call 39; refine (rcmp_any hv (hsX.grew (‹_ ∧ _ ∧ Grew W _›.2.2)) (by omega) (by omega)).mono ?_; rintro e w9 ⟨cc, rfl, hc1, hc2, hbw⟩; have hcle := hc1 hle; clear hc1 hc2))
            all_goals go_wp2
            all_goals (
              have hgf := ‹_ ∧ _ ∧ Grew W _›.2.2
              go_roundw
              case rel => exact ⟨M, hgh, M, rfl, rfl, by omega, hh, by omega, by rw [← hval.out]; exact hle, H2.out, hstW.up hgf⟩
              case measure => simp [intOf]; omega)
          · have hlt : X < val 10000 (r0.set i M) * val 10000 (r0.set i M) := by omega
            clear hle
            go_region_held3 (fun w' => w'.cell? ⟨w3.heap.size, 0, none⟩ = some (.slice x.ao x.n x.c) ∧ w'.cell? ⟨w.heap.size, 0, none⟩ = some (.slice s.ao s.n s.c) ∧ Grew W w')
              (first
                | exact mk.out _ (Grew.refl _).drew
                | exact mk.out _ (Grew.call (‹_ ∧ _ ∧ Grew W _›.2.2) ‹Below _ _ _›))
              (first
                | (go_at_call 118; refine (rmul_spec (hxW.grew (‹_ ∧ _ ∧ Grew W _›.2.2)) (hxW.grew (‹_ ∧ _ ∧ Grew W _›.2.2)) (by omega) (by omega)).mono ?_; rintro e w9 ⟨v, rfl, hv, hvn, hbw⟩)
                | (go_at_call 39; refine (rcmp_any hv (hsX.grew (‹_ ∧ _ ∧ Grew W _›.2.2)) (by omega) (by omega)).mono ?_; rintro e w9 ⟨cc, rfl, hc1, hc2, hbw⟩; have hcgt := hc2 hlt; clear hc1 hc2))
            all_goals go_wp2
            all_goals (
              have hgf := ‹_ ∧ _ ∧ Grew W _›.2.2
              go_roundw
              case rel => exact ⟨lo, M, M, rfl, rfl, by omega, by omega, by omega, H1.out, by rw [← hval.out]; exact hlt, hstW.up hgf⟩
              case measure => simp [intOf]; omega)
        · have hhl : hgh = lo + 1 := by omega
          subst hhl
          have hgoI : decide ((1 : Int) < ((lo + 1 : Nat) : Int) - lo) = false := by simp; omega
          have hi1 : (i : Int) < (n : Int) := by omega
          obtain ⟨hoc, hof, _, _⟩ := hst.2.2.2.1.slot i (by rw [List.length_set]; have := HOL.out; omega)
          have hst2 := hst.store hg4 i lo
          rw [List.set_set] at hst2
          have hval : Hid (val 10000 (r0.set i lo) = val 10000 r0 + 10000 ^ i * lo) := val_root (by have := HOL.out; omega) (HZ.out i (by omega))
          have hzz : Hid (∀ j, j < i → dg (r0.set i lo) j = 0) := fun j hj => by rw [dg_set_ne (by omega)]; exact HZ.out j (by omega)
          have hlo9 : lo < 10000 := by omega
          have hf1 : Hid (val 10000 (r0.set i lo) * val 10000 (r0.set i lo) ≤ X) := by show _ ≤ _; rw [hval.out]; exact H1.out
          have hf2 : Hid (X < (val 10000 (r0.set i lo) + 10000 ^ i) * (val 10000 (r0.set i lo) + 10000 ^ i)) := by
            show _ < _
            have e : val 10000 r0 + 10000 ^ i * lo + 10000 ^ i = val 10000 r0 + 10000 ^ i * (lo + 1) := by rw [Nat.mul_add, Nat.mul_one, Nat.add_assoc]
            rw [hval.out, e]
            exact H2.out
          clear hst
          go_wp2
          go_roundw
          case rel => exact ⟨i, r0.set i lo, by omega, rfl, by rw [List.length_set]; exact HOL.out, set_lt HOD.out hlo9, hzz.out, hf1.out, hf2.out, hst2⟩
          case measure => simp [intOf]
    · have hk00 : k = 0 := by omega
      subst hk00
      have hkI : decide ((0 : Int) ≤ ((0 : Nat) : Int) - 1) = false := by simp
      have hoi := hst.2.2.2.1.intsAt
      have hl0 := HOL.out
      obtain ⟨R, hR⟩ : ∃ R : Nat, R = val 10000 r0 := ⟨_, rfl⟩
      have hR1 : R * R ≤ X := by rw [hR]; exact HLO.out
      have hR2 : X < (R + 1) * (R + 1) := by rw [hR]; have := HHI.out; simpa using this
      go_wp2_with (go_at_call 103; refine (rcut_spec hoi HOD.out).mono ?_; rintro e w2 ⟨x, rfl, hx, hxn, hb2⟩)
      have hbW : Below wr.heap.size wr (w2.alloc (.cells #[.slice x.ao x.n x.c] 38)) := hb2.alloc hb2.size _
      have hstW := hst.up hbW
      have hX11 := ent_new w2 (.cells #[.slice x.ao x.n x.c] 38)
      have hxW := hx.up ((Below.refl _ _).alloc (Nat.le_refl _) (.cells #[.slice x.ao x.n x.c] 38))
      have hsX := h.up hstW.2.2.2.2
      have hxne1 : w2.heap.size ≠ w.heap.size + 1 := by have := ent_lt (ent_up hb2 hst.2.2.1); omega
      have hxne2 : w2.heap.size ≠ w.heap.size + 1 + 1 := by have := ent_lt (ent_up hb2 hst.2.2.1); omega
      rw [← hR] at hxW
      clear hst hx hb2 hbW hoi hl0 hR
      generalize w2.alloc (.cells #[.slice x.ao x.n x.c] 38) = W at *
      have mk : Hid (∀ w', KeptBut W (w.heap.size + 1) (w.heap.size + 1 + 1) w' → w'.cell? ⟨w2.heap.size, 0, none⟩ = some (.slice x.ao x.n x.c) ∧ w'.cell? ⟨w.heap.size, 0, none⟩ = some (.slice s.ao s.n s.c) ∧ KeptBut W (w.heap.size + 1) (w.heap.size + 1 + 1) w') :=
        fun w' hk => ⟨ent_cell (hk.1 _ _ hxne1 hxne2 hX11) 0, ent_cell (hk.1 _ _ (by omega) (by omega) hstW.1) 0, hk⟩
      have HNE := Lib.hid (And.intro hxne1 hxne2)
      clear hxne1 hxne2
      go_region_held3 (fun w' => w'.cell? ⟨w2.heap.size, 0, none⟩ = some (.slice x.ao x.n x.c) ∧ w'.cell? ⟨w.heap.size, 0, none⟩ = some (.slice s.ao s.n s.c) ∧ KeptBut W (w.heap.size + 1) (w.heap.size + 1 + 1) w')
        (first
          | exact mk.out _ (KeptBut.refl hstW.2.1 hstW.2.2.1).drew
          | exact mk.out _ (KeptBut.call (‹_ ∧ _ ∧ KeptBut W _ _ _›.2.2) ‹Below _ _ _›)
          | exact mk.out _ (KeptBut.set1 (‹_ ∧ _ ∧ KeptBut W _ _ _›.2.2) (by omega) _)
          | exact mk.out _ (KeptBut.set2 (‹_ ∧ _ ∧ KeptBut W _ _ _›.2.2) (by omega) _))
        (first
          | (go_at_call 118; refine (rmul_spec (hxW.kp ((‹_ ∧ _ ∧ KeptBut W _ _ _›.2.2).kp hstW.2.1 hstW.2.2.1)) (hxW.kp ((‹_ ∧ _ ∧ KeptBut W _ _ _›.2.2).kp hstW.2.1 hstW.2.2.1)) (by omega) (by omega)).mono ?_; rintro e w8 ⟨v, rfl, hv, hvn, hbw⟩)
          | (go_at_call 117; refine (rless_spec (hsX.kp ((‹_ ∧ _ ∧ KeptBut W _ _ _›.2.2).kp hstW.2.1 hstW.2.2.1)) hv (by omega) hR1).mono ?_; rintro e w9 ⟨u, rfl, hu, hun, hbw9⟩; have hkb := KeptBut.call (‹_ ∧ _ ∧ KeptBut W _ _ _›.2.2) hbw9; obtain ⟨v1, e1⟩ := hkb.2.1; obtain ⟨v2, e2⟩ := hkb.2.2.1; have c1 := ent_cell e1 0; have f1 := ent_frozen e1 0; have c2 := ent_cell e2 0; have f2 := ent_frozen e2 0))
      all_goals go_wp2
      all_goals (
        have k1 := ent_set (i := 0) e1 (.slice x.ao x.n x.c)
        have k2 := ent_set_other (a := ⟨w.heap.size + 1 + 1, 0, none⟩) k1 (by simp) (.slice u.ao u.n u.c)
        have k3 := ent_set_other (a := ⟨w.heap.size + 1, 0, none⟩) e2 (by simp) (.slice x.ao x.n x.c)
        have k4 := ent_set (i := 0) k3 (.slice u.ao u.n u.c)
        have kk := ((Kp.refl w9).setCell (a := ⟨w.heap.size + 1, 0, none⟩) e1 (by decide) (.slice x.ao x.n x.c)).setCell (a := ⟨w.heap.size + 1 + 1, 0, none⟩) k3 (by decide) (.slice u.ao u.n u.c)
        have hx9 := hxW.kp (hkb.kp hstW.2.1 hstW.2.2.1)
        have hb9 : Below w.heap.size w w9 := hstW.2.2.2.2.trans (hkb.2.2.2.mono (by omega))
        refine bodyPost_ret (v := .tuple #[.agg #[.slice x.ao x.n x.c], .agg #[.slice u.ao u.n u.c]]) (by simp [results, Tryz.results123, go_sem, ent_cell k2 0, ent_cell k4 0]) rfl ⟨x, u, R, rfl, hx9.kp kk, hu.kp kk, hR1, hR2, ?_, hun, ?_⟩
        · exact hx9.n_le h (by have := Nat.le_mul_self R; omega)
        · exact (hb9.setCell (by simp) _).setCell (by simp; omega) _)

end Go.Proofs.YtaafmafdnnjmdaaGreat
