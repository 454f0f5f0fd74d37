/- nat: Root. -/
import Derived.Test.YtlpfkbkpnljieaaGreatProg
import Derived.Test.YtlpfkbkpnljieaaGreatNatU
import Derived.Test.YtlpfkbkpnljieaaGreatNatV
import Derived.Test.YtlpfkbkpnljieaaGreatNatX
import Derived.Test.YtlpfkbkpnljieaaGreatBase
import Derived.Test.YtlpfkbkpnljieaaGreatMathR
import Derived.Deep.DeepCutAuto
namespace Go.Proofs.YtlpfkbkpnljieaaGreat
open Go.RowKit

/-- The root, on its way down. -/
def RootRel (w : World) (s : Sl) (x b4 B : Nat) (k : Nat) (wr : World) : Prop := ∃ sx : Sl,
  wr.heap[w.heap.size]? = some (.cells #[.slice s.ao s.n s.c] 25 (0, 0)) ∧ wr.heap[w.heap.size + 1]? = some (.cells #[.slice none 0 0] 25 (0, 0)) ∧
  wr.heap[w.heap.size + 1 + 1]? = some (.cells #[.slice none 0 0] 25 (0, 0)) ∧ wr.heap[b4]? = some (.cells #[.slice sx.ao sx.n sx.c] 25 (0, 0)) ∧
  NatS wr s x ∧ NatS wr sx k ∧ 0 < k ∧ x < (k + 1) * (k + 1) ∧ sx.n ≤ B ∧ Below w.heap.size w wr

theorem of_one (w : World) : Calls Tryz.prog 57 #[.int .u64 1] w fun e w' =>
      ∃ u : Sl, e = .returned (.agg #[.slice u.ao u.n u.c]) ∧ NatS w' u 1 ∧ u.n ≤ 2 ∧ Below w.heap.size w w' := of_spec 1 w (by omega)

/-- What Root answers. -/
def RootPost (w : World) (s : Sl) (x : Nat) (e : Ending) (w' : World) : Prop :=
  ∃ (u v : Sl) (r : Nat), e = .returned (.tuple #[.agg #[.slice u.ao u.n u.c], .agg #[.slice v.ao v.n v.c]]) ∧ NatS w' u r ∧ NatS w' v (x - r * r) ∧ r * r ≤ x ∧ x < (r + 1) * (r + 1) ∧ u.n ≤ s.n ∧ v.n ≤ s.n ∧ Below w.heap.size w w'

theorem bl_bound {w : World} {s : Sl} {x : Nat} (h : NatS w s x) : bl x ≤ 32 * s.n := by
  rw [bl_le]
  obtain ⟨l, k1, k2, k3, k4⟩ := h
  have k5 := val_lt 4294967296 l k2
  rw [pow32, ← k1.1, k4] at k5
  exact k5

/-- What every step of the beginning leaves. -/
def RootS (w : World) (s : Sl) (x : Nat) (w' : World) : Prop :=
  w'.heap[w.heap.size]? = some (.cells #[.slice s.ao s.n s.c] 25 (0, 0)) ∧ w'.heap[w.heap.size + 1]? = some (.cells #[.slice none 0 0] 25 (0, 0)) ∧
  w'.heap[w.heap.size + 1 + 1]? = some (.cells #[.slice none 0 0] 25 (0, 0)) ∧ NatS w' s x ∧ Below w.heap.size w w'

theorem RootS.up {w : World} {s : Sl} {x : Nat} {w' w'' : World} (h : RootS w s x w') (hb : Below w'.heap.size w' w'') : RootS w s x w'' :=
  ⟨ent_up hb h.1, ent_up hb h.2.1, ent_up hb h.2.2.1, h.2.2.2.1.up hb, h.2.2.2.2.trans (hb.mono h.2.2.2.2.size)⟩
theorem RootS.alloc {w : World} {s : Sl} {x : Nat} {w' : World} (h : RootS w s x w') (o : Obj) : RootS w s x (w'.alloc o) := h.up ((Below.refl _ _).alloc (Nat.le_refl _) o)
theorem RootS.drew {w : World} {s : Sl} {x : Nat} {w' : World} (h : RootS w s x w') : RootS w s x w'.drew := ⟨h.1, h.2.1, h.2.2.1, h.2.2.2.1, h.2.2.2.2.drew⟩
theorem RootS.cell {w : World} {s : Sl} {x : Nat} {w' : World} (h : RootS w s x w') : w'.cell? ⟨w.heap.size, 0, none⟩ = some (.slice s.ao s.n s.c) := ent_cell h.1 0
theorem RootS.both {w : World} {s : Sl} {x : Nat} {w' : World} (h : RootS w s x w') : w'.cell? ⟨w.heap.size, 0, none⟩ = some (.slice s.ao s.n s.c) ∧ RootS w s x w' := ⟨h.cell, h⟩
/-- A store into a later box. -/
theorem RootS.set {w : World} {s : Sl} {x : Nat} {w' : World} (h : RootS w s x w') {b : Nat} {c : Array Value} (hc : w'.heap[b]? = some (.cells c 25 (0, 0))) (hb : w.heap.size + 1 + 1 < b) (v : Value) : RootS w s x (w'.setCell ⟨b, 0, none⟩ v) :=
  ⟨ent_set_other h.1 (by simp; omega) v, ent_set_other h.2.1 (by simp; omega) v, ent_set_other h.2.2.1 (by simp; omega) v, h.2.2.2.1.kp ((Kp.refl _).setCell hc (by decide) v), h.2.2.2.2.setCell (by simp; omega) v⟩

theorem RootS.setNew {w : World} {s : Sl} {x : Nat} {w' : World} {c : Array Value} (h : RootS w s x (w'.alloc (.cells c 25))) (hb : w.heap.size + 1 + 1 < w'.heap.size) (v : Value) : RootS w s x ((w'.alloc (.cells c 25)).setCell ⟨w'.heap.size, 0, none⟩ v) := h.set (ent_new _ _) hb v
theorem RootS.re {w : World} {s : Sl} {x : Nat} {w' : World} {v0 v : Value} (h : RootS w s x (w'.alloc (.cells #[v0] 25))) (hb : w.heap.size + 1 + 1 < w'.heap.size) : RootS w s x (w'.alloc (.cells #[v] 25)) := by
  have h1 := h.setNew hb v
  have e : (w'.alloc (.cells #[v0] 25)).setCell ⟨w'.heap.size, 0, none⟩ v = w'.alloc (.cells #[v] 25) := by simp [go_sem]
  rwa [e] at h1
theorem RootS.drewAlloc {w : World} {s : Sl} {x : Nat} {w' : World} (h : RootS w s x w') (o : Obj) : RootS w s x (w'.alloc o).drew := (h.alloc o).drew
theorem RootS.lt {w : World} {s : Sl} {x : Nat} {w' w'' : World} (h : RootS w s x w') (hb : Below w'.heap.size w' w'') : w.heap.size + 1 + 1 < w''.heap.size := Nat.lt_of_lt_of_le (ent_lt h.2.2.1) hb.size
theorem root_bits {w w' : World} {s : Sl} {x : Nat} (h : RootS w s x w') (hn : s.n ≤ 2000) :
    Calls Tryz.prog 80 #[.agg #[.slice s.ao s.n s.c]] w' fun e w'' => e = .returned (.int .i64 (bl x : Int)) ∧ Below w'.heap.size w' w'' := bits_spec h.2.2.2.1 (by omega)
theorem root_up {w : World} {o : Sl} {k : Nat} {v : Int} (h : NatS w o 1) (hn : o.n ≤ 2) (hk : k ≤ 32000) (hv : v = (k : Int)) :
    Calls Tryz.prog 127 #[.agg #[.slice o.ao o.n o.c], .int .i64 v] w fun e w' =>
      ∃ u : Sl, e = .returned (.tuple #[.agg #[.slice u.ao u.n u.c], .int .i64 0]) ∧ NatS w' u (2 ^ k) ∧ u.n ≤ 2000 ∧ Below w.heap.size w w' := by
  subst hv
  refine (up_spec k h (by omega) (by omega)).mono ?_
  rintro e w' ⟨u, h1, h2, h3, h4⟩
  exact ⟨u, h1, by simpa using h2, by omega, h4⟩

theorem RootRel.mk {w : World} {s sx : Sl} {x b4 B k : Nat} {wr : World} (h : RootS w s x wr) (hb : wr.heap[b4]? = some (.cells #[.slice sx.ao sx.n sx.c] 25 (0, 0))) (hx : NatS wr sx k) (hk : 0 < k ∧ x < (k + 1) * (k + 1)) (hn : sx.n ≤ B) : RootRel w s x b4 B k wr :=
  ⟨sx, h.1, h.2.1, h.2.2.1, hb, h.2.2.2.1, hx, hk.1, hk.2, hn, h.2.2.2.2⟩
theorem RootRel.mkSet {w : World} {s sx : Sl} {x b4 B k : Nat} {wr : World} {v0 : Value} (h : RootS w s x (wr.setCell ⟨b4, 0, none⟩ (.slice sx.ao sx.n sx.c))) (hb : wr.heap[b4]? = some (.cells #[v0] 25 (0, 0))) (hx : NatS wr sx k) (hk : 0 < k ∧ x < (k + 1) * (k + 1)) (hn : sx.n ≤ B) : RootRel w s x b4 B k (wr.setCell ⟨b4, 0, none⟩ (.slice sx.ao sx.n sx.c)) :=
  RootRel.mk h (ent_set hb _) (hx.kp ((Kp.refl _).setCell hb (by decide) _)) hk hn
theorem RootRel.mkAlloc {w : World} {s sx : Sl} {x B k : Nat} {wr : World} (h : RootS w s x (wr.alloc (.cells #[.slice sx.ao sx.n sx.c] 25))) (hx : NatS wr sx k) (hk : 0 < k ∧ x < (k + 1) * (k + 1)) (hn : sx.n ≤ B) : RootRel w s x wr.heap.size B k (wr.alloc (.cells #[.slice sx.ao sx.n sx.c] 25)) :=
  RootRel.mk h (ent_new _ _) (hx.alloc _) hk hn

theorem root_le {a b : Nat} (h : a ≤ b) (h' : b ≤ 2000) : a ≤ 1000000000000 := by omega
/-- The end: the boxes as they lie. -/
def RootE (w : World) (s sx : Sl) (x k b4 : Nat) (w' : World) : Prop :=
  w'.heap[w.heap.size]? = some (.cells #[.slice s.ao s.n s.c] 25 (0, 0)) ∧ (∃ v, w'.heap[w.heap.size + 1]? = some (.cells #[v] 25 (0, 0))) ∧
  (∃ v, w'.heap[w.heap.size + 1 + 1]? = some (.cells #[v] 25 (0, 0))) ∧ w'.heap[b4]? = some (.cells #[.slice sx.ao sx.n sx.c] 25 (0, 0)) ∧ NatS w' s x ∧ NatS w' sx k ∧ Below w.heap.size w w'
theorem RootE.up {w : World} {s sx : Sl} {x k b4 : Nat} {w' w'' : World} (h : RootE w s sx x k b4 w') (hb : Below w'.heap.size w' w'') : RootE w s sx x k b4 w'' := by
  obtain ⟨h1, ⟨v2, h2⟩, ⟨v3, h3⟩, h4, h5, h6, h7⟩ := h
  exact ⟨ent_up hb h1, ⟨v2, ent_up hb h2⟩, ⟨v3, ent_up hb h3⟩, ent_up hb h4, h5.up hb, h6.up hb, h7.trans (hb.mono h7.size)⟩
theorem RootE.drew {w : World} {s sx : Sl} {x k b4 : Nat} {w' : World} (h : RootE w s sx x k b4 w') : RootE w s sx x k b4 w'.drew := ⟨h.1, h.2.1, h.2.2.1, h.2.2.2.1, h.2.2.2.2.1, h.2.2.2.2.2.1, h.2.2.2.2.2.2.drew⟩
theorem RootE.both {w : World} {s sx : Sl} {x k b4 : Nat} {w' : World} (h : RootE w s sx x k b4 w') : w'.cell? ⟨w.heap.size, 0, none⟩ = some (.slice s.ao s.n s.c) ∧ w'.cell? ⟨b4, 0, none⟩ = some (.slice sx.ao sx.n sx.c) ∧ RootE w s sx x k b4 w' := ⟨ent_cell h.1 0, ent_cell h.2.2.2.1 0, h⟩
theorem RootE.set2 {w : World} {s sx : Sl} {x k b4 : Nat} {w' : World} (h : RootE w s sx x k b4 w') (hb4 : w.heap.size + 1 + 1 < b4) (v : Value) : RootE w s sx x k b4 (w'.setCell ⟨w.heap.size + 1, 0, none⟩ v) := by
  obtain ⟨h1, ⟨v2, h2⟩, ⟨v3, h3⟩, h4, h5, h6, h7⟩ := h
  exact ⟨ent_set_other h1 (by simp) v, ⟨v, ent_set h2 v⟩, ⟨v3, ent_set_other h3 (by simp) v⟩, ent_set_other h4 (by simp; omega) v, h5.kp ((Kp.refl _).setCell h2 (by decide) v), h6.kp ((Kp.refl _).setCell h2 (by decide) v), h7.setCell (by simp) v⟩
theorem RootE.set3 {w : World} {s sx : Sl} {x k b4 : Nat} {w' : World} (h : RootE w s sx x k b4 w') (hb4 : w.heap.size + 1 + 1 < b4) (v : Value) : RootE w s sx x k b4 (w'.setCell ⟨w.heap.size + 1 + 1, 0, none⟩ v) := by
  obtain ⟨h1, ⟨v2, h2⟩, ⟨v3, h3⟩, h4, h5, h6, h7⟩ := h
  exact ⟨ent_set_other h1 (by simp; omega) v, ⟨v2, ent_set_other h2 (by simp) v⟩, ⟨v, ent_set h3 v⟩, ent_set_other h4 (by simp; omega) v, h5.kp ((Kp.refl _).setCell h3 (by decide) v), h6.kp ((Kp.refl _).setCell h3 (by decide) v), h7.setCell (by simp; omega) v⟩

set_option maxHeartbeats 800000 in
theorem root_spec {w : World} {s : Sl} {x : Nat} (h : NatS w s x) (hn : s.n ≤ 2000) :
    Calls Tryz.prog 128 #[.agg #[.slice s.ao s.n s.c]] w (RootPost w s x) := by
  have hE := ents3 w (.cells #[.slice s.ao s.n s.c] 25) (.cells #[.slice none 0 0] 25) (.cells #[.slice none 0 0] 25)
  have hbx : Below w.heap.size w _ := (((Below.refl w.heap.size w).alloc (Nat.le_refl _) (.cells #[.slice s.ao s.n s.c] 25)).alloc (by simp) (.cells #[.slice none 0 0] 25)).alloc (by simp; omega) (.cells #[.slice none 0 0] 25)
  by_cases h0 : s.n = 0
  · have hx : x = 0 := by have := h.zero_iff; omega
    subst hx
    obtain ⟨ao, n, c⟩ := s
    simp only at h0
    subst h0
    go_enter Tryz.func128, Tryz.ntmps128
    go_wp2
    refine bodyPost_ret (v := .tuple #[.agg #[.slice none 0 0], .agg #[.slice none 0 0]]) (by simp [results, Tryz.results128, go_sem]) rfl ⟨⟨none, 0, 0⟩, ⟨none, 0, 0⟩, 0, rfl, NatS.nil _ _ _ (by omega), NatS.nil _ _ _ (by omega), by omega, by omega, by simp, by simp, ?_⟩
    exact hbx
  · have hn0 : ((s.n : Int) == 0) = false := by simp; omega
    have hx1 := h.up hbx
    have hx0 : 0 < x := by have := h.zero_iff; omega
    have hE1 := hE.1
    have hE2 := hE.2.1
    have hE3 := hE.2.2.1
    have hsz := hE.2.2.2
    have hbl : bl x ≤ 64000 := by have := bl_bound h; omega
    have Hsz := Lib.hid hsz
    clear hE hsz
    go_enter Tryz.func128, Tryz.ntmps128
    go_wp2
    generalize hW3 : (((w.alloc (.cells #[.slice s.ao s.n s.c] 25)).alloc (.cells #[.slice none 0 0] 25)).alloc (.cells #[.slice none 0 0] 25)) = W3 at *
    clear hW3
    obtain ⟨k0, hk0⟩ : ∃ k0, k0 = (bl x + 1) / 2 := ⟨_, rfl⟩
    have hbit : ((bl x : Int) + 1) / 2 = (k0 : Int) := by omega
    have hk1 : bl x ≤ 2 * k0 := by omega
    have hk2 : k0 ≤ 32000 := by omega
    have hK : IntKind.i64.wrap ((IntKind.i64.wrap ((bl x : Int) + 1)).tdiv 2) = (k0 : Int) := by
      rw [IntWalk.i64_in ((bl x : Int) + 1) (by omega), IntWalk.i64_quo _ _ (by omega), hbit]
    have hk0p : 0 < 2 ^ k0 ∧ x < (2 ^ k0 + 1) * (2 ^ k0 + 1) := ⟨Nat.two_pow_pos _, root_start ((bl_le x (bl x)).1 (Nat.le_refl _)) hk1⟩
    clear hk0 hbit
    have hS0 : RootS w s x W3 := ⟨hE1, hE2, hE3, hx1, hbx⟩
    have hsz0 : w.heap.size + 1 + 1 < W3.heap.size := ent_lt hE3
    clear hE1 hE2 hE3 hx1 hbx
    go_upto_region 3 with fail
    go_cut [4] (fun s4 wx => ∃ b4 : Nat, s4 = .pointer (some ⟨b4, 0, none⟩) ∧ RootRel w s x b4 (max s.n 2000) (2 ^ k0) wx ∧ w.heap.size + 1 + 1 < b4)
    case first =>
      have hsz0' : w.heap.size + 1 + 1 < W3.drew.heap.size := hsz0
      go_region_held3 (fun w' => w'.cell? ⟨w.heap.size, 0, none⟩ = some (.slice s.ao s.n s.c) ∧ RootS w s x w')
        (first
          | with_reducible exact hS0.drew.both
          | with_reducible exact (RootS.re (‹_ ∧ RootS w s x _›).2 (by assumption)).both
          | with_reducible exact (RootS.drewAlloc hS0 _).both
          | with_reducible exact (RootS.alloc (‹_ ∧ RootS w s x _›).2 _).both
          | with_reducible exact (RootS.set (‹_ ∧ RootS w s x _›).2 hc (by assumption) _).both
          | with_reducible exact (RootS.up (‹_ ∧ RootS w s x _›).2 ‹Below _ _ _›).both)
        (first
          | (go_at_call 57; refine (of_one _).mono ?_; rintro e w1 ⟨o, rfl, ho, hon, hb1⟩; (have hl1 := RootS.lt (‹_ ∧ RootS w s x _›).2 hb1); (first | with_reducible have hc := box_after_drew hb1 | skip))
          | (go_at_call 80; refine (root_bits (‹_ ∧ RootS w s x _›).2 hn).mono ?_; rintro e w2 ⟨rfl, hb2⟩; (have hl2 := RootS.lt (‹_ ∧ RootS w s x _›).2 hb2); (first | with_reducible have hc := box_after hb2 | with_reducible have hc := ent_up hb2 hc | skip))
          | (go_at_call 127; refine (root_up (o := o) (k := k0) (v := _) ?_ hon hk2 ?_).mono ?_; (first | with_reducible exact ho | with_reducible exact ho.up hb2 | with_reducible exact (ho.up hb2).alloc _ | with_reducible exact ho.alloc _ | with_reducible exact (ho.alloc _).up hb2); with_reducible rfl
             rintro e w3 ⟨sx, rfl, hsx, hsxn, hb3⟩; (have hl3 := RootS.lt (‹_ ∧ RootS w s x _›).2 hb3); (first | with_reducible have hc := box_after hb3 | with_reducible have hc := ent_up hb3 hc | skip); (try with_reducible have hcc := box_cell hc); (try with_reducible have hcf := ent_frozen hc 0)))
      all_goals go_wp2
      all_goals go_meet
      all_goals first
        | exact ⟨_, rfl, RootRel.mkAlloc (‹_ ∧ RootS w s x _›).2 hsx hk0p (Nat.le_trans hsxn (Nat.le_max_right _ _)), hl3⟩
        | exact ⟨_, rfl, RootRel.mkSet (‹_ ∧ RootS w s x _›).2 hc hsx hk0p (Nat.le_trans hsxn (Nat.le_max_right _ _)), by assumption⟩
    case rest =>
      clear hS0 hsz0 hk1 hk2 hK hbl Hsz
      obtain ⟨b4, rfl, hR, hb4⟩ := hcut
      have hB : max s.n 2000 ≤ 2000 := by omega
      generalize max s.n 2000 = B at *
      have h2k := hk0p
      obtain ⟨g0, hg0⟩ : ∃ g0, g0 = 2 ^ k0 := ⟨_, rfl⟩
      rw [← hg0] at hR
      clear hg0 h2k hk0p
      go_wp2
      go_loopg [9] g0 (fun k _ wr => RootRel w s x b4 B k wr)
      case atStart => exact hR
      case round =>
        clear hR
        obtain ⟨sx, hE1, hE2, hE3, hE4, hs, hsx, hk, hkx, hxn, hbl⟩ := hrel
        have hA := ent_cell hE1 0
        have hC := ent_cell hE4 0
        go_upto_region 5 with (go_at_call 111; refine (div_spec hs hsx (by omega) (by omega) hk).mono ?_; rintro e w2 ⟨u, v, rfl, hu, hv, hun, hvn, hvn2, hb2⟩; have hF1 := ent_up hb2 hE1; have hF2 := ent_up hb2 hE2; have hF3 := ent_up hb2 hE3; have hF4 := ent_up hb2 hE4; clear hA hC)
        have hbX : Below w2.heap.size w2 ((w2.alloc (.cells #[.slice u.ao u.n u.c] 25)).alloc (.cells #[.slice v.ao v.n v.c] 25)) := ((Below.refl _ _).alloc (Nat.le_refl _) _).alloc (by simp) _
        have K1 := ent_up hbX hF1
        have K2 := ent_up hbX hF2
        have K3 := ent_up hbX hF3
        have K4 := ent_up hbX hF4
        have K6 : ((w2.alloc (.cells #[.slice u.ao u.n u.c] 25)).alloc (.cells #[.slice v.ao v.n v.c] 25)).heap[w2.heap.size]? = some (.cells #[.slice u.ao u.n u.c] 25 (0, 0)) := ent_old (ent_new _ _) _
        have hu' := hu.up hbX
        have hsx' := (hsx.up hb2).up hbX
        have hs' := (hs.up hb2).up hbX
        have hblX : Below w.heap.size w ((w2.alloc (.cells #[.slice u.ao u.n u.c] 25)).alloc (.cells #[.slice v.ao v.n v.c] 25)) := (hbl.trans (hb2.mono hbl.size)).trans (hbX.mono (by have := hbl.size; have := hb2.size; omega))
        generalize hXd : ((w2.alloc (.cells #[.slice u.ao u.n u.c] 25)).alloc (.cells #[.slice v.ao v.n v.c] 25)) = X at *
        have c6 := ent_cell K6 0
        have c4 := ent_cell K4 0
        clear hXd hbX hF1 hF2 hF3 hF4 hE1 hE2 hE3 hE4 hu hv hb2 hbl hsx hs
        go_upto_region 6 with (first
          | (go_at_call 124; refine (add_spec hsx' hu' (by omega) (by omega)).mono ?_; rintro e w3 ⟨a, rfl, ha, han, hb3⟩)
          | (go_at_call 131; refine (down_spec 1 ha (by omega) (by omega)).mono ?_; rintro e w4 ⟨d, rfl, hd, hdn, hb4'⟩))
        have hd1 : NatS w4 d ((gk + x / gk) / 2) := hd
        have hbY : Below w4.heap.size w4 (w4.alloc (.cells #[.slice d.ao d.n d.c] 25)) := (Below.refl _ _).alloc (Nat.le_refl _) _
        have L1 := ent_up hbY (ent_up hb4' (ent_up hb3 K1))
        have L2 := ent_up hbY (ent_up hb4' (ent_up hb3 K2))
        have L3 := ent_up hbY (ent_up hb4' (ent_up hb3 K3))
        have L4 := ent_up hbY (ent_up hb4' (ent_up hb3 K4))
        have L9 := ent_new w4 (.cells #[.slice d.ao d.n d.c] 25)
        have hd2 := hd1.up hbY
        have hsx2 := ((hsx'.up hb3).up hb4').up hbY
        have hs2 := ((hs'.up hb3).up hb4').up hbY
        have hblY : Below w.heap.size w _ := ((hblX.trans (hb3.mono hblX.size)).trans (hb4'.mono (by have := hblX.size; have := hb3.size; omega))).trans (hbY.mono (by have := hblX.size; have := hb3.size; have := hb4'.size; omega))
        generalize hYd : (w4.alloc (.cells #[.slice d.ao d.n d.c] 25)) = Y at *
        have c9 := ent_cell L9 0
        have c4' := ent_cell L4 0
        have hstep := root_step (a := x) hk
        have hend := root_end (a := x) hk
        clear hYd hbY c6 c4 K1 K2 K3 K4 K6 hu' hsx' hs' hd hd1 ha hb3 hb4' hblX
        generalize w4.heap.size = b9 at *
        obtain ⟨g1, hg1⟩ : ∃ g1, g1 = (gk + x / gk) / 2 := ⟨_, rfl⟩
        rw [← hg1] at hd2 hstep hend
        have hg1q : 0 < g1 := by
          rcases Nat.lt_or_ge 1 gk with hgk | hgk
          · generalize x / gk = Z at hg1; omega
          · have hgk1 : gk = 1 := by omega
            rw [hgk1, Nat.div_one] at hg1
            omega
        clear hg1
        by_cases hge : gk ≤ g1
        · have hcmp : decide ((0 : Int) ≤ cmpN g1 gk) = true := by
            rcases Nat.lt_or_ge gk g1 with hlt | hlt
            · rw [cmpN_gt hlt]; decide
            · rw [show gk = g1 by omega, cmpN_eq]; decide
          go_upto_region 7 with (go_at_call 94; refine (cmp_spec hd2 hsx2 (by omega) (by omega)).mono ?_; rintro e w5 ⟨rfl, hb5⟩; have M1 := ent_up hb5 L1; have M2 := ent_up hb5 L2; have M3 := ent_up hb5 L3; have M4 := ent_up hb5 L4; clear c9 c4')
          have hS5 : RootE w s sx x gk b4 w5 := ⟨M1, ⟨_, M2⟩, ⟨_, M3⟩, M4, hs2.up hb5, hsx2.up hb5, hblY.trans (hb5.mono hblY.size)⟩
          clear M1 M4 hs2 hsx2 hb5 hblY hcmp hd2 L1 L2 L3 L4 L9 hstep
          go_region_held3 (fun w' => w'.cell? ⟨w.heap.size, 0, none⟩ = some (.slice s.ao s.n s.c) ∧ w'.cell? ⟨b4, 0, none⟩ = some (.slice sx.ao sx.n sx.c) ∧ RootE w s sx x gk b4 w')
            (first
              | with_reducible exact hS5.drew.both
              | with_reducible exact (RootE.set2 (‹_ ∧ _ ∧ RootE w s sx x gk b4 _›).2.2 hb4 _).both
              | with_reducible exact (RootE.set3 (‹_ ∧ _ ∧ RootE w s sx x gk b4 _›).2.2 hb4 _).both
              | with_reducible exact (RootE.up (‹_ ∧ _ ∧ RootE w s sx x gk b4 _›).2.2 ‹Below _ _ _›).both)
            (first
              | (go_at_call 93; refine (mul_spec (‹_ ∧ _ ∧ RootE w s sx x gk b4 _›).2.2.2.2.2.2.2.1 (‹_ ∧ _ ∧ RootE w s sx x gk b4 _›).2.2.2.2.2.2.2.1 (root_le hxn hB) (root_le hxn hB)).mono ?_; rintro e w6 ⟨m, rfl, hm, hmn, hb6⟩)
              | (go_at_call 135; refine (less_spec (‹_ ∧ _ ∧ RootE w s sx x gk b4 _›).2.2.2.2.2.2.1 hm (root_le (Nat.le_refl _) hn) (hend hge)).mono ?_; rintro e w7 ⟨l, rfl, hl, hln, hb7⟩; (have N2 := ent_up hb7 (ent_up (below_undrew hb6) M2)); (have N3 := ent_up hb7 (ent_up (below_undrew hb6) M3)); (have q2 := ent_cell N2 0); (have q3 := ent_cell N3 0); (have f2 := ent_frozen N2 0); (have f3 := ent_frozen N3 0)))
          have hE9 := (‹_ ∧ _ ∧ RootE w s sx x gk b4 _›).2.2
          have P2 := ent_set_other (a := ⟨w.heap.size + 1 + 1, 0, none⟩) (ent_set (i := 0) N2 (.slice sx.ao sx.n sx.c)) (by simp) (.slice l.ao l.n l.c)
          have P3' := ent_set_other (a := ⟨w.heap.size + 1, 0, none⟩) N3 (by simp) (.slice sx.ao sx.n sx.c)
          have P3 := ent_set (i := 0) P3' (.slice l.ao l.n l.c)
          have hl9 := (hl.kp ((Kp.refl _).setCell (a := ⟨w.heap.size + 1, 0, none⟩) N2 (by decide) (.slice sx.ao sx.n sx.c))).kp ((Kp.refl _).setCell (a := ⟨w.heap.size + 1 + 1, 0, none⟩) P3' (by decide) (.slice l.ao l.n l.c))
          have r2 := ent_cell P2 0
          have r3 := ent_cell P3 0
          clear q2 q3 f2 f3 N2 N3 P2 P3 P3' hl hm hS5 M2 M3 hb6 hb7
          have hks : gk ≤ x := Nat.le_trans (Nat.le_mul_of_pos_left gk hk) (hend hge)
          generalize hW9 : ((w7.setCell ⟨w.heap.size + 1, 0, none⟩ (.slice sx.ao sx.n sx.c)).setCell ⟨w.heap.size + 1 + 1, 0, none⟩ (.slice l.ao l.n l.c)) = W9 at *
          clear hW9
          go_wp2
          refine bodyPost_ret (v := .tuple #[.agg #[.slice sx.ao sx.n sx.c], .agg #[.slice l.ao l.n l.c]]) (by simp [results, Tryz.results128, go_sem, r2, r3]) rfl ⟨sx, l, gk, rfl, hE9.2.2.2.2.2.1, hl9, hend hge, hkx, hE9.2.2.2.2.2.1.n_le hE9.2.2.2.2.1 hks, hln, hE9.2.2.2.2.2.2⟩
        · have hcmp : decide ((0 : Int) ≤ cmpN g1 gk) = false := by rw [cmpN_lt (by omega)]; decide
          have hdn2 : d.n ≤ sx.n := hd2.n_le hsx2 (by omega)
          go_wp2_with (go_at_call 94; refine (cmp_spec hd2 hsx2 (by omega) (by omega)).mono ?_; rintro e w5 ⟨rfl, hb5⟩; have M4 := ent_up hb5 L4; have m9 := ent_cell (ent_up hb5 L9) 0; have m4 := ent_cell M4 0; have f4 := ent_frozen M4 0; clear c9 c4')
          go_roundg g1
          case measure => omega
          case rel =>
            refine ⟨d, ent_set_other (ent_up hb5 L1) (by simp; omega) _, ent_set_other (ent_up hb5 L2) (by simp; omega) _, ent_set_other (ent_up hb5 L3) (by simp; omega) _, ent_set M4 _, ?_, ?_, hg1q, hstep, by omega, ?_⟩
            · exact (hs2.up hb5).kp ((Kp.refl _).setCell M4 (by decide) _)
            · exact (hd2.up hb5).kp ((Kp.refl _).setCell M4 (by decide) _)
            · exact (hblY.trans (hb5.mono hblY.size)).setCell (by simp; omega) _

end Go.Proofs.YtlpfkbkpnljieaaGreat
