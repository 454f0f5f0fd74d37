/- nat: Div, the short ways: by nothing, by a greater one, by one limb. -/
import Derived.Test.YtnjohlimjbmkgaaProg
import Derived.Test.YtnjohlimjbmkgaaNatA
import Derived.Test.YtnjohlimjbmkgaaNatC
import Derived.Test.YtnjohlimjbmkgaaNatF
import Derived.Test.YtnjohlimjbmkgaaNatG
import Derived.Test.YtnjohlimjbmkgaaOwn
import Derived.Deep.RegionHeld3
import Derived.BigRegion
namespace Go.Proofs.Ytnjohlimjbmkgaa
open Go.RowKit

set_option maxHeartbeats 400000 in
set_option maxRecDepth 100000 in
theorem div_zero {w : World} {s : Sl} (bo : Option Addr) (d : Nat) :
    Calls Try.prog 67 #[.agg #[.slice s.ao s.n s.c], .agg #[.slice bo 0 d]] w fun e w' =>
      e = .returned (.tuple #[.agg #[.slice none 0 0], .agg #[.slice none 0 0], .int .i64 5]) ∧ Below w.heap.size w w' := by
  go_enter Try.func67, Try.ntmps67
  go_wp2
  refine bodyPost_ret (v := .tuple #[.agg #[.slice none 0 0], .agg #[.slice none 0 0], .int .i64 5]) (by simp [results, Try.results67, go_sem]) rfl ⟨rfl, ?_⟩
  exact ((((Below.refl _ _).alloc (Nat.le_refl _) _).alloc (by simp) _).alloc (by simp; omega) _).alloc (by simp; omega) _

set_option maxHeartbeats 800000 in
set_option maxRecDepth 100000 in
theorem div_less {w : World} {s t : Sl} {x y : Nat} (h : NatS w s x) (h' : NatS w t y) (hn : s.n ≤ 1000000000000) (hm : t.n ≤ 1000000000000) (hxy : x < y) :
    Calls Try.prog 67 #[.agg #[.slice s.ao s.n s.c], .agg #[.slice t.ao t.n t.c]] w fun e w' =>
      e = .returned (.tuple #[.agg #[.slice none 0 0], .agg #[.slice s.ao s.n s.c], .int .i64 0]) ∧ Below w.heap.size w w' := by
  have hE := ents4 w (.cells #[.slice s.ao s.n s.c] 31) (.cells #[.slice t.ao t.n t.c] 31) (.cells #[.slice none 0 0] 31) (.cells #[.slice none 0 0] 31)
  have hbx : Below w.heap.size w _ := ((((Below.refl w.heap.size w).alloc (Nat.le_refl _) (.cells #[.slice s.ao s.n s.c] 31)).alloc (by simp) (.cells #[.slice t.ao t.n t.c] 31)).alloc (by simp; omega) (.cells #[.slice none 0 0] 31)).alloc (by simp; omega) (.cells #[.slice none 0 0] 31)
  have hlt : cmpN x y < 0 := by rw [cmpN_lt hxy]; omega
  have ht0 : ((t.n : Int) == 0) = false := by
    have := h'.zero_iff
    simp; omega
  have HE := Lib.hid hE; clear hE
  go_enter Try.func67, Try.ntmps67
  go_wp2_with (go_at_call 46; refine (cmp_spec (h.up hbx) (h'.up hbx) hn hm).mono ?_; rintro e w1 ⟨rfl, hb1⟩; have hE1 := ent_up hb1 HE.out.1; have hA := ent_cell hE1 0; have hE3 := ent_up hb1 HE.out.2.2.1; have hR := ent_cell hE3 0; have hRf := ent_frozen hE3 0; have hE4 := ent_up hb1 HE.out.2.2.2.1; have hR2 := ent_cell hE4 0; have hRf2 := ent_frozen hE4 0)
  go_region
  go_wp2
  refine bodyPost_ret (v := .tuple #[.agg #[.slice none 0 0], .agg #[.slice s.ao s.n s.c], .int .i64 0]) (by simp [results, Try.results67, go_sem, hR, hR2]) rfl ⟨rfl, ?_⟩
  have hbb := hbx.trans (hb1.mono (by have := hbx.size; exact this))
  exact (hbb.drew.setCell (by simp; omega) _).setCell (by simp; omega) _

set_option maxHeartbeats 1600000 in
set_option maxRecDepth 100000 in
theorem div_one {w : World} {s t : Sl} {x y : Nat} (h : NatS w s x) (h' : NatS w t y) (hn : s.n ≤ 1000000000000) (hm : t.n = 1) (hxy : y ≤ x) :
    Calls Try.prog 67 #[.agg #[.slice s.ao s.n s.c], .agg #[.slice t.ao t.n t.c]] w fun e w' =>
      ∃ u v : Sl, e = .returned (.tuple #[.agg #[.slice u.ao u.n u.c], .agg #[.slice v.ao v.n v.c], .int .i64 0]) ∧ NatS w' u (x / y) ∧ NatS w' v (x % y) ∧ u.n ≤ s.n ∧ v.n ≤ 2 ∧ Below w.heap.size w w' := by
  obtain ⟨l, h1, h2, h3, h4⟩ := id h
  obtain ⟨r, g1, g2, g3, g4⟩ := id h'
  obtain ⟨b, off, hao, hbw, hcell⟩ := g1.open (by omega)
  obtain ⟨to, tn, tc⟩ := t
  simp only at hm hao
  subst hm
  subst hao
  have hcd := hcell 0 (by simp)
  have hrl : r.length = 1 := g1.1.symm
  have hy : y = dg r 0 := by
    rw [← g4, val_top (B := 4294967296) (j := 0) hrl]
    simp [val]
  have hd32 : dg r 0 < 4294967296 := dg_lt g2 (by omega) 0
  have hd0 : 0 < dg r 0 := by
    have := h'.zero_iff
    simp at this
    omega
  have hsn : ((s.n : Int) == 0) = false := by
    have := h.zero_iff
    simp; omega
  rw [← hy] at hcd hd32 hd0
  have hE := ents4 w (.cells #[.slice s.ao s.n s.c] 31) (.cells #[.slice (some ⟨b, off, none⟩) 1 tc] 31) (.cells #[.slice none 0 0] 31) (.cells #[.slice none 0 0] 31)
  have hbx : Below w.heap.size w _ := ((((Below.refl w.heap.size w).alloc (Nat.le_refl _) (.cells #[.slice s.ao s.n s.c] 31)).alloc (by simp) (.cells #[.slice (some ⟨b, off, none⟩) 1 tc] 31)).alloc (by simp; omega) (.cells #[.slice none 0 0] 31)).alloc (by simp; omega) (.cells #[.slice none 0 0] 31)
  have hlt : ¬ cmpN x y < 0 := by
    rcases Nat.lt_or_ge y x with hh | hh
    · rw [cmpN_gt hh]; omega
    · obtain rfl : x = y := by omega
      rw [cmpN_eq]; omega
  have HE := Lib.hid hE
  have HX := Lib.hid h4
  have HY := Lib.hid hy
  simp only [Nat.add_zero] at hcd hcell
  clear hE h4 hy hcell hrl g4 g3 h3
  have hxy' := Lib.hid hxy; clear hxy
  go_enter Try.func67, Try.ntmps67
  go_wp2_with (go_at_call 46; refine (cmp_spec (h.up hbx) (h'.up hbx) hn (by simp)).mono ?_; rintro e w1 ⟨rfl, hb1⟩; have hE1 := ent_up hb1 HE.out.1; have hA := ent_cell hE1 0; have hE2 := ent_up hb1 HE.out.2.1; have hB := ent_cell hE2 0; have hD := ((hb1.cell (p := ⟨b, off, none⟩) (by simp; omega)).trans (hbx.cell (p := ⟨b, off, none⟩) hbw)).trans hcd)
  have hbw1 : b < w1.heap.size := by have := hb1.size; simp at this; omega
  have hl1 : IntsAt w1 113 .u32 s l := (h1.up hbx).up hb1
  clear hcd
  go_region_held3 (fun w' => w'.cell? ⟨w.heap.size, 0, none⟩ = some (.slice s.ao s.n s.c) ∧ w'.cell? ⟨w.heap.size + 1, 0, none⟩ = some (.slice (some ⟨b, off, none⟩) 1 tc) ∧ w'.cell? ⟨b, off, none⟩ = some (.int .u32 (y : Int)))
    (first | exact ⟨hA, hB, hD⟩ | exact ⟨(hb2.cell (p := ⟨w.heap.size, 0, none⟩) (ent_lt hE1)).trans hA, (hb2.cell (p := ⟨w.heap.size + 1, 0, none⟩) (ent_lt hE2)).trans hB, (hb2.cell (p := ⟨b, off, none⟩) hbw1).trans hD⟩)
    (first | (go_at_call 80; refine (by_walk s.ao s.n s.c l w1.drew y hl1 h2 hd32 hd0 hn).mono ?_; rintro e w2 ⟨q, ql, rr, rfl, hq, hqd, hql, hqv, hrr, hb2⟩))
  replace hb2 : Below w1.heap.size w1 w2 := below_undrew hb2
  have hE3 := ent_up hb2 (ent_up hb1 HE.out.2.2.1)
  have hE4 := ent_up hb2 (ent_up hb1 HE.out.2.2.2.1)
  have hbb := (hbx.trans (hb1.mono (by have := hbx.size; exact this))).trans (hb2.mono (by have := hbx.size; have := hb1.size; simp at *; omega))
  have hr64 : rr < 18446744073709551616 := by omega
  clear hA hB hD
  go_wp2_with (first | (go_at_call 81; refine (cut_spec hq hqd).mono ?_; rintro e w3 ⟨u, rfl, hu, hun, hb3⟩) | (go_at_call 45; refine (of_spec rr _ hr64).mono ?_; rintro e w4 ⟨v, rfl, hv, hvn, hb4⟩; have hF3 := ent_up hb4 (ent_up hb3 hE3); have hR := ent_cell hF3 0; have hRf := ent_frozen hF3 0; have hF4 := ent_up hb4 (ent_up hb3 hE4); have hR2 := ent_cell hF4 0; have hRf2 := ent_frozen hF4 0))
  have hqr : x = y * val 4294967296 ql + rr := by rw [← HX.out]; exact hqv
  have e1 : val 4294967296 ql = x / y := by
    rw [hqr, Nat.mul_add_div hd0, Nat.div_eq_of_lt hrr, Nat.add_zero]
  have e2 : rr = x % y := by
    rw [hqr, Nat.mul_add_mod, Nat.mod_eq_of_lt hrr]
  rw [e1] at hu
  rw [e2] at hv
  refine bodyPost_ret (v := .tuple #[.agg #[.slice u.ao u.n u.c], .agg #[.slice v.ao v.n v.c], .int .i64 0]) (by simp [results, Try.results67, go_sem, hR, hR2]) rfl ⟨u, v, rfl, ?_, ?_, ?_, hvn, ?_⟩
  · exact ((hu.up hb4).kp ((Kp.refl _).setCell hF3 (by decide) _)).kp ((Kp.refl _).setCell (ent_set_other hF4 (by simp) _) (by decide) _)
  · exact (hv.kp ((Kp.refl _).setCell hF3 (by decide) _)).kp ((Kp.refl _).setCell (ent_set_other hF4 (by simp) _) (by decide) _)
  · have := hq.1; have := h1.1; omega
  · exact (((hbb.trans (hb3.mono hbb.size)).trans (hb4.mono (by have := hbb.size; have := hb3.size; omega))).setCell (by simp; omega) _).setCell (by simp; omega) _

end Go.Proofs.Ytnjohlimjbmkgaa
