/- zed: Parse, of a text of at most 4096 signs. -/
import Derived.Test.YtnjohlimjbmkgaaProg
import Derived.Test.YtnjohlimjbmkgaaZedP
namespace Go.Proofs.Ytnjohlimjbmkgaa
open Go.RowKit

theorem cutP {s D : ByteArray} {b : Bool} (w : World) (h : s.size ≤ 9223372036854775807) (hD : sdig s = D) (hb : sneg s = b) :
    Calls Try.prog 77 #[.string s, .string ⟨#[45]⟩] w fun e w' => e = .returned (.tuple #[.string D, .bool b]) ∧ Below w.heap.size w w' := by
  refine (cutPrefix s w h).mono ?_
  rintro e w' ⟨rfl, rfl⟩
  rw [hD, hb]
  exact ⟨rfl, Below.refl _ _⟩
theorem sdig_size (s : ByteArray) : (sdig s).size ≤ s.size := by
  unfold sdig
  split
  · simp
  · omega

set_option maxRecDepth 100000 in
set_option maxHeartbeats 1600000 in
theorem zparse_bad_n {w : World} (s D : ByteArray) (h : s.size ≤ 4096) (hD : sdig s = D) (hb : sneg s = true) (hp : perr D = 3) :
    Calls Try.prog 36 #[.string s] w fun e w' => Below w.heap.size w w' ∧ e = .returned (.tuple #[.agg #[.slice none 0 0, .bool false], .int .i64 3]) := by
  have hl : decide ((4097 : Int) < (s.size : Int)) = false := by simp; omega
  have hds := sdig_size s
  rw [hD] at hds
  have hE1 := ent_new w (.cells #[.slice none 0 0, .bool false] 33)
  have hB := (Grew.refl w).alloc (.cells #[.slice none 0 0, .bool false] 33)
  have chE1a := box2_c0 hE1
  have chE1b := box2_c1 hE1
  have fhE1a := box2_f hE1 0
  have fhE1b := box2_f hE1 1
  go_enter Try.func36, Try.ntmps36
  go_wp2_with fail
  generalize w.alloc (.cells #[.slice none 0 0, .bool false] 33) = W at *
  refine (cutP _ (by omega) hD hb).mono ?_
  rintro e w1 ⟨rfl, hb1⟩
  have ha1 : Grew w1 (w1) := Grew.refl w1
  have hg1' := (Grew.call (Grew.refl _) hb1).trans ha1
  replace hE1 := ent_grew hg1' hE1
  replace hB := hB.trans hg1'
  clear hg1' ha1 hb1 chE1a chE1b fhE1a fhE1b
  have chE1a := box2_c0 hE1
  have chE1b := box2_c1 hE1
  have fhE1a := box2_f hE1 0
  have fhE1b := box2_f hE1 1
  go_wp2_with fail
  refine (parse_spec D _ (by omega)).mono ?_
  rintro e w2 ⟨a, rfl, ha, han, -, hb2⟩
  rw [hp]
  have ha2 : Grew w2 ((w2.alloc (.cells #[.slice a.ao a.n a.c] 31))) := (Grew.refl w2).alloc (.cells #[.slice a.ao a.n a.c] 31)
  have hg2' := (Grew.call (Grew.refl _) hb2).trans ha2
  replace hE1 := ent_grew hg2' hE1
  replace ha := ha.grew ha2
  have hEa := ent_new w2 (.cells #[.slice a.ao a.n a.c] 31)
  replace hB := hB.trans hg2'
  clear hg2' ha2 hb2 chE1a chE1b fhE1a fhE1b
  have chE1a := box2_c0 hE1
  have chE1b := box2_c1 hE1
  have fhE1a := box2_f hE1 0
  have fhE1b := box2_f hE1 1
  have chEa := box_cell hEa
  go_wp2_with fail
  generalize (w2.alloc (.cells #[.slice a.ao a.n a.c] 31)) = W2 at *
  go_wp2
  have hq := box2_set hE1 (.slice none 0 0) (.bool false)
  have hq0 := box2_c0 hq
  have hq1 := box2_c1 hq
  have hq9 := hB.set2 (k := w.heap.size) (by omega) (.slice none 0 0) (.bool false)
  clear hq
  clear chE1a chE1b fhE1a fhE1b chEa
  generalize (W2.setCell ⟨w.heap.size, 0, none⟩ (.slice none 0 0)).setCell ⟨w.heap.size, 1, none⟩ (.bool false) = W9 at *
  refine bodyPost_ret (v := .tuple #[.agg #[.slice none 0 0, .bool false], .int .i64 3]) (by simp [results, Try.results36, go_sem, hq0, hq1]) rfl ⟨hq9, rfl⟩

set_option maxRecDepth 100000 in
set_option maxHeartbeats 1600000 in
theorem zparse_bad_p {w : World} (s D : ByteArray) (h : s.size ≤ 4096) (hD : sdig s = D) (hb : sneg s = false) (hp : perr D = 3) :
    Calls Try.prog 36 #[.string s] w fun e w' => Below w.heap.size w w' ∧ e = .returned (.tuple #[.agg #[.slice none 0 0, .bool false], .int .i64 3]) := by
  have hl : decide ((4097 : Int) < (s.size : Int)) = false := by simp; omega
  have hds := sdig_size s
  rw [hD] at hds
  have hE1 := ent_new w (.cells #[.slice none 0 0, .bool false] 33)
  have hB := (Grew.refl w).alloc (.cells #[.slice none 0 0, .bool false] 33)
  have chE1a := box2_c0 hE1
  have chE1b := box2_c1 hE1
  have fhE1a := box2_f hE1 0
  have fhE1b := box2_f hE1 1
  go_enter Try.func36, Try.ntmps36
  go_wp2_with fail
  generalize w.alloc (.cells #[.slice none 0 0, .bool false] 33) = W at *
  refine (cutP _ (by omega) hD hb).mono ?_
  rintro e w1 ⟨rfl, hb1⟩
  have ha1 : Grew w1 (w1) := Grew.refl w1
  have hg1' := (Grew.call (Grew.refl _) hb1).trans ha1
  replace hE1 := ent_grew hg1' hE1
  replace hB := hB.trans hg1'
  clear hg1' ha1 hb1 chE1a chE1b fhE1a fhE1b
  have chE1a := box2_c0 hE1
  have chE1b := box2_c1 hE1
  have fhE1a := box2_f hE1 0
  have fhE1b := box2_f hE1 1
  go_wp2_with fail
  refine (parse_spec D _ (by omega)).mono ?_
  rintro e w2 ⟨a, rfl, ha, han, -, hb2⟩
  rw [hp]
  have ha2 : Grew w2 ((w2.alloc (.cells #[.slice a.ao a.n a.c] 31))) := (Grew.refl w2).alloc (.cells #[.slice a.ao a.n a.c] 31)
  have hg2' := (Grew.call (Grew.refl _) hb2).trans ha2
  replace hE1 := ent_grew hg2' hE1
  replace ha := ha.grew ha2
  have hEa := ent_new w2 (.cells #[.slice a.ao a.n a.c] 31)
  replace hB := hB.trans hg2'
  clear hg2' ha2 hb2 chE1a chE1b fhE1a fhE1b
  have chE1a := box2_c0 hE1
  have chE1b := box2_c1 hE1
  have fhE1a := box2_f hE1 0
  have fhE1b := box2_f hE1 1
  have chEa := box_cell hEa
  go_wp2_with fail
  generalize (w2.alloc (.cells #[.slice a.ao a.n a.c] 31)) = W2 at *
  go_wp2
  have hq := box2_set hE1 (.slice none 0 0) (.bool false)
  have hq0 := box2_c0 hq
  have hq1 := box2_c1 hq
  have hq9 := hB.set2 (k := w.heap.size) (by omega) (.slice none 0 0) (.bool false)
  clear hq
  clear chE1a chE1b fhE1a fhE1b chEa
  generalize (W2.setCell ⟨w.heap.size, 0, none⟩ (.slice none 0 0)).setCell ⟨w.heap.size, 1, none⟩ (.bool false) = W9 at *
  refine bodyPost_ret (v := .tuple #[.agg #[.slice none 0 0, .bool false], .int .i64 3]) (by simp [results, Try.results36, go_sem, hq0, hq1]) rfl ⟨hq9, rfl⟩

set_option maxRecDepth 100000 in
set_option maxHeartbeats 1600000 in
theorem zparse_minus0 {w : World} (s D : ByteArray) (h : s.size ≤ 4096) (hD : sdig s = D) (hb : sneg s = true) (hp : perr D = 0) (hv : pval D = 0) :
    Calls Try.prog 36 #[.string s] w fun e w' => Below w.heap.size w w' ∧ e = .returned (.tuple #[.agg #[.slice none 0 0, .bool false], .int .i64 3]) := by
  have hl : decide ((4097 : Int) < (s.size : Int)) = false := by simp; omega
  have hds := sdig_size s
  rw [hD] at hds
  have hE1 := ent_new w (.cells #[.slice none 0 0, .bool false] 33)
  have hB := (Grew.refl w).alloc (.cells #[.slice none 0 0, .bool false] 33)
  have chE1a := box2_c0 hE1
  have chE1b := box2_c1 hE1
  have fhE1a := box2_f hE1 0
  have fhE1b := box2_f hE1 1
  have hbz : (bl (pval D) == 0) = true := by rw [hv]; rfl
  go_enter Try.func36, Try.ntmps36
  go_wp2_with fail
  generalize w.alloc (.cells #[.slice none 0 0, .bool false] 33) = W at *
  refine (cutP _ (by omega) hD hb).mono ?_
  rintro e w1 ⟨rfl, hb1⟩
  have ha1 : Grew w1 (w1) := Grew.refl w1
  have hg1' := (Grew.call (Grew.refl _) hb1).trans ha1
  replace hE1 := ent_grew hg1' hE1
  replace hB := hB.trans hg1'
  clear hg1' ha1 hb1 chE1a chE1b fhE1a fhE1b
  have chE1a := box2_c0 hE1
  have chE1b := box2_c1 hE1
  have fhE1a := box2_f hE1 0
  have fhE1b := box2_f hE1 1
  go_wp2_with fail
  refine (parse_spec D _ (by omega)).mono ?_
  rintro e w2 ⟨a, rfl, ha, han, -, hb2⟩
  rw [hp]
  have ha2 : Grew w2 ((w2.alloc (.cells #[.slice a.ao a.n a.c] 31))) := (Grew.refl w2).alloc (.cells #[.slice a.ao a.n a.c] 31)
  have hg2' := (Grew.call (Grew.refl _) hb2).trans ha2
  replace hE1 := ent_grew hg2' hE1
  replace ha := ha.grew ha2
  have hEa := ent_new w2 (.cells #[.slice a.ao a.n a.c] 31)
  replace hB := hB.trans hg2'
  clear hg2' ha2 hb2 chE1a chE1b fhE1a fhE1b
  have chE1a := box2_c0 hE1
  have chE1b := box2_c1 hE1
  have fhE1a := box2_f hE1 0
  have fhE1b := box2_f hE1 1
  have chEa := box_cell hEa
  go_wp2_with fail
  generalize (w2.alloc (.cells #[.slice a.ao a.n a.c] 31)) = W2 at *
  refine (bits_spec ha (by omega)).mono ?_
  rintro e w3 ⟨rfl, hb3⟩
  have ha3 : Grew w3 (w3) := Grew.refl w3
  have hg3' := (Grew.call (Grew.refl _) hb3).trans ha3
  replace ha := ha.grew hg3'
  replace hE1 := ent_grew hg3' hE1
  replace hEa := ent_grew hg3' hEa
  replace hB := hB.trans hg3'
  clear hg3' ha3 hb3 chE1a chE1b fhE1a fhE1b chEa
  have chE1a := box2_c0 hE1
  have chE1b := box2_c1 hE1
  have fhE1a := box2_f hE1 0
  have fhE1b := box2_f hE1 1
  have chEa := box_cell hEa
  go_wp2_with fail
  go_wp2
  have hq := box2_set hE1 (.slice none 0 0) (.bool false)
  have hq0 := box2_c0 hq
  have hq1 := box2_c1 hq
  have hq9 := hB.set2 (k := w.heap.size) (by omega) (.slice none 0 0) (.bool false)
  clear hq
  clear chE1a chE1b fhE1a fhE1b chEa
  generalize (w3.setCell ⟨w.heap.size, 0, none⟩ (.slice none 0 0)).setCell ⟨w.heap.size, 1, none⟩ (.bool false) = W9 at *
  refine bodyPost_ret (v := .tuple #[.agg #[.slice none 0 0, .bool false], .int .i64 3]) (by simp [results, Try.results36, go_sem, hq0, hq1]) rfl ⟨hq9, rfl⟩

set_option maxRecDepth 100000 in
set_option maxHeartbeats 1600000 in
theorem zparse_minus {w : World} (s D : ByteArray) (h : s.size ≤ 4096) (hD : sdig s = D) (hb : sneg s = true) (hp : perr D = 0) (hv : 0 < pval D) :
    Calls Try.prog 36 #[.string s] w fun e w' => ∃ u : Sl, e = .returned (.tuple #[.agg #[.slice u.ao u.n u.c, .bool true], .int .i64 0]) ∧ NatS w' u (pval D) ∧ u.n ≤ s.size ∧ Below w.heap.size w w' := by
  have hl : decide ((4097 : Int) < (s.size : Int)) = false := by simp; omega
  have hds := sdig_size s
  rw [hD] at hds
  have hE1 := ent_new w (.cells #[.slice none 0 0, .bool false] 33)
  have hB := (Grew.refl w).alloc (.cells #[.slice none 0 0, .bool false] 33)
  have chE1a := box2_c0 hE1
  have chE1b := box2_c1 hE1
  have fhE1a := box2_f hE1 0
  have fhE1b := box2_f hE1 1
  have hbz : (bl (pval D) == 0) = false := by have := bl_gt (pval D); simp only [decide_eq_decide] at this; exact beq_eq_false_iff_ne.2 (by omega)
  go_enter Try.func36, Try.ntmps36
  go_wp2_with fail
  generalize w.alloc (.cells #[.slice none 0 0, .bool false] 33) = W at *
  refine (cutP _ (by omega) hD hb).mono ?_
  rintro e w1 ⟨rfl, hb1⟩
  have ha1 : Grew w1 (w1) := Grew.refl w1
  have hg1' := (Grew.call (Grew.refl _) hb1).trans ha1
  replace hE1 := ent_grew hg1' hE1
  replace hB := hB.trans hg1'
  clear hg1' ha1 hb1 chE1a chE1b fhE1a fhE1b
  have chE1a := box2_c0 hE1
  have chE1b := box2_c1 hE1
  have fhE1a := box2_f hE1 0
  have fhE1b := box2_f hE1 1
  go_wp2_with fail
  refine (parse_spec D _ (by omega)).mono ?_
  rintro e w2 ⟨a, rfl, ha, han, -, hb2⟩
  rw [hp]
  have ha2 : Grew w2 ((w2.alloc (.cells #[.slice a.ao a.n a.c] 31))) := (Grew.refl w2).alloc (.cells #[.slice a.ao a.n a.c] 31)
  have hg2' := (Grew.call (Grew.refl _) hb2).trans ha2
  replace hE1 := ent_grew hg2' hE1
  replace ha := ha.grew ha2
  have hEa := ent_new w2 (.cells #[.slice a.ao a.n a.c] 31)
  replace hB := hB.trans hg2'
  clear hg2' ha2 hb2 chE1a chE1b fhE1a fhE1b
  have chE1a := box2_c0 hE1
  have chE1b := box2_c1 hE1
  have fhE1a := box2_f hE1 0
  have fhE1b := box2_f hE1 1
  have chEa := box_cell hEa
  go_wp2_with fail
  generalize (w2.alloc (.cells #[.slice a.ao a.n a.c] 31)) = W2 at *
  refine (bits_spec ha (by omega)).mono ?_
  rintro e w3 ⟨rfl, hb3⟩
  have ha3 : Grew w3 (w3) := Grew.refl w3
  have hg3' := (Grew.call (Grew.refl _) hb3).trans ha3
  replace ha := ha.grew hg3'
  replace hE1 := ent_grew hg3' hE1
  replace hEa := ent_grew hg3' hEa
  replace hB := hB.trans hg3'
  clear hg3' ha3 hb3 chE1a chE1b fhE1a fhE1b chEa
  have chE1a := box2_c0 hE1
  have chE1b := box2_c1 hE1
  have fhE1a := box2_f hE1 0
  have fhE1b := box2_f hE1 1
  have chEa := box_cell hEa
  go_wp2_with fail
  refine (zmade_spec _ ha (by omega)).mono ?_
  rintro e w4 ⟨rfl, hb4⟩
  have ha4 : Grew w4 (w4) := Grew.refl w4
  have hg4' := (Grew.call (Grew.refl _) hb4).trans ha4
  replace ha := ha.grew hg4'
  replace hE1 := ent_grew hg4' hE1
  replace hEa := ent_grew hg4' hEa
  replace hB := hB.trans hg4'
  clear hg4' ha4 hb4 chE1a chE1b fhE1a fhE1b chEa
  have chE1a := box2_c0 hE1
  have chE1b := box2_c1 hE1
  have fhE1a := box2_f hE1 0
  have fhE1b := box2_f hE1 1
  have chEa := box_cell hEa
  go_wp2
  have hq := box2_set hE1 (.slice a.ao a.n a.c) (.bool true)
  have hq0 := box2_c0 hq
  have hq1 := box2_c1 hq
  have hq9 := hB.set2 (k := w.heap.size) (by omega) (.slice a.ao a.n a.c) (.bool true)
  have ha2 := (ha).kp ((Kp.refl _).set2 hE1 (by decide) (.slice a.ao a.n a.c) (.bool true))
  clear hq
  clear chE1a chE1b fhE1a fhE1b chEa
  generalize (w4.setCell ⟨w.heap.size, 0, none⟩ (.slice a.ao a.n a.c)).setCell ⟨w.heap.size, 1, none⟩ (.bool true) = W9 at *
  refine bodyPost_ret (v := .tuple #[.agg #[.slice a.ao a.n a.c, .bool true], .int .i64 0]) (by simp [results, Try.results36, go_sem, hq0, hq1]) rfl ⟨a, rfl, ha2, by omega, hq9⟩

set_option maxRecDepth 100000 in
set_option maxHeartbeats 1600000 in
theorem zparse_plus {w : World} (s D : ByteArray) (h : s.size ≤ 4096) (hD : sdig s = D) (hb : sneg s = false) (hp : perr D = 0) :
    Calls Try.prog 36 #[.string s] w fun e w' => ∃ u : Sl, e = .returned (.tuple #[.agg #[.slice u.ao u.n u.c, .bool false], .int .i64 0]) ∧ NatS w' u (pval D) ∧ u.n ≤ s.size ∧ Below w.heap.size w w' := by
  have hl : decide ((4097 : Int) < (s.size : Int)) = false := by simp; omega
  have hds := sdig_size s
  rw [hD] at hds
  have hE1 := ent_new w (.cells #[.slice none 0 0, .bool false] 33)
  have hB := (Grew.refl w).alloc (.cells #[.slice none 0 0, .bool false] 33)
  have chE1a := box2_c0 hE1
  have chE1b := box2_c1 hE1
  have fhE1a := box2_f hE1 0
  have fhE1b := box2_f hE1 1
  go_enter Try.func36, Try.ntmps36
  go_wp2_with fail
  generalize w.alloc (.cells #[.slice none 0 0, .bool false] 33) = W at *
  refine (cutP _ (by omega) hD hb).mono ?_
  rintro e w1 ⟨rfl, hb1⟩
  have ha1 : Grew w1 (w1) := Grew.refl w1
  have hg1' := (Grew.call (Grew.refl _) hb1).trans ha1
  replace hE1 := ent_grew hg1' hE1
  replace hB := hB.trans hg1'
  clear hg1' ha1 hb1 chE1a chE1b fhE1a fhE1b
  have chE1a := box2_c0 hE1
  have chE1b := box2_c1 hE1
  have fhE1a := box2_f hE1 0
  have fhE1b := box2_f hE1 1
  go_wp2_with fail
  refine (parse_spec D _ (by omega)).mono ?_
  rintro e w2 ⟨a, rfl, ha, han, -, hb2⟩
  rw [hp]
  have ha2 : Grew w2 ((w2.alloc (.cells #[.slice a.ao a.n a.c] 31))) := (Grew.refl w2).alloc (.cells #[.slice a.ao a.n a.c] 31)
  have hg2' := (Grew.call (Grew.refl _) hb2).trans ha2
  replace hE1 := ent_grew hg2' hE1
  replace ha := ha.grew ha2
  have hEa := ent_new w2 (.cells #[.slice a.ao a.n a.c] 31)
  replace hB := hB.trans hg2'
  clear hg2' ha2 hb2 chE1a chE1b fhE1a fhE1b
  have chE1a := box2_c0 hE1
  have chE1b := box2_c1 hE1
  have fhE1a := box2_f hE1 0
  have fhE1b := box2_f hE1 1
  have chEa := box_cell hEa
  go_wp2_with fail
  generalize (w2.alloc (.cells #[.slice a.ao a.n a.c] 31)) = W2 at *
  refine (zmade_spec _ ha (by omega)).mono ?_
  rintro e w4 ⟨rfl, hb3⟩
  have ha3 : Grew w4 (w4) := Grew.refl w4
  have hg3' := (Grew.call (Grew.refl _) hb3).trans ha3
  replace ha := ha.grew hg3'
  replace hE1 := ent_grew hg3' hE1
  replace hEa := ent_grew hg3' hEa
  replace hB := hB.trans hg3'
  clear hg3' ha3 hb3 chE1a chE1b fhE1a fhE1b chEa
  have chE1a := box2_c0 hE1
  have chE1b := box2_c1 hE1
  have fhE1a := box2_f hE1 0
  have fhE1b := box2_f hE1 1
  have chEa := box_cell hEa
  go_wp2
  have hq := box2_set hE1 (.slice a.ao a.n a.c) (.bool false)
  have hq0 := box2_c0 hq
  have hq1 := box2_c1 hq
  have hq9 := hB.set2 (k := w.heap.size) (by omega) (.slice a.ao a.n a.c) (.bool false)
  have ha2 := (ha).kp ((Kp.refl _).set2 hE1 (by decide) (.slice a.ao a.n a.c) (.bool false))
  clear hq
  clear chE1a chE1b fhE1a fhE1b chEa
  generalize (w4.setCell ⟨w.heap.size, 0, none⟩ (.slice a.ao a.n a.c)).setCell ⟨w.heap.size, 1, none⟩ (.bool false) = W9 at *
  refine bodyPost_ret (v := .tuple #[.agg #[.slice a.ao a.n a.c, .bool false], .int .i64 0]) (by simp [results, Try.results36, go_sem, hq0, hq1]) rfl ⟨a, rfl, ha2, by omega, hq9⟩


end Go.Proofs.Ytnjohlimjbmkgaa
