/- The law's helpers: two whole, odd, known. -/
import Derived.Test.YtahfnbbdhhehhaaLawC
namespace Go.Proofs.Ytahfnbbdhhehhaa
open Go.RowKit

/-- Both texts, as both read them. -/
theorem two_spec (s t : ByteArray) (w : World) (hs : s.size ≤ 9223372036854775807) (ht : t.size ≤ 9223372036854775807) :
    Calls Try.prog 27 #[.string s, .string t] w (TwoPost w s t) := by
  by_cases h : perr (fewS s 200) = 0
  · exact two_yes s t w h hs ht
  · exact two_no s t w h hs ht

set_option maxHeartbeats 1600000 in
theorem odd_spec (s t : ByteArray) (w : World) (hs : s.size ≤ 9223372036854775807) (ht : t.size ≤ 9223372036854775807) :
    Calls Try.prog 28 #[.string s, .string t] w fun e w' => e = .returned (.bool false) ∧ Below w.heap.size w w' := by
  go_enter Try.func28, Try.ntmps28
  go_wp2_with fail
  refine (few200 s _ hs).mono ?_
  rintro e w' ⟨rfl, rfl⟩
  go_wp2_with fail
  refine (parse200 s _).mono ?_
  rintro e w1 ⟨a, rfl, _, _, hb1⟩
  have hg1 := (Grew.call (Grew.refl _) hb1).alloc (.cells #[.slice a.ao a.n a.c] 24)
  go_wp2_with fail
  generalize w1.alloc (.cells #[.slice a.ao a.n a.c] 24) = W1 at *
  refine (few200 t _ ht).mono ?_
  rintro e w' ⟨rfl, rfl⟩
  go_wp2_with fail
  refine (parse200 t _).mono ?_
  rintro e w2 ⟨b, rfl, _, _, hb2⟩
  have hg2 := (hg1.call hb2).alloc (.cells #[.slice b.ao b.n b.c] 24)
  go_wp2_with fail
  generalize w2.alloc (.cells #[.slice b.ao b.n b.c] 24) = W2 at *
  refine (few200 s _ hs).mono ?_
  rintro e w' ⟨rfl, rfl⟩
  go_wp2_with fail
  refine (rparse200 s _).mono ?_
  rintro e w3 ⟨x, rfl, _, _, hb3⟩
  have hg3 := (hg2.call hb3).alloc (.cells #[.slice x.ao x.n x.c] 30)
  go_wp2_with fail
  generalize w3.alloc (.cells #[.slice x.ao x.n x.c] 30) = W3 at *
  refine (few200 t _ ht).mono ?_
  rintro e w' ⟨rfl, rfl⟩
  go_wp2_with fail
  refine (rparse200 t _).mono ?_
  rintro e w4 ⟨y, rfl, _, _, hb4⟩
  have hg4 := (hg3.call hb4).alloc (.cells #[.slice y.ao y.n y.c] 30)
  clear hb1 hb2 hb3 hb4 hg1 hg2 hg3
  generalize hp : perr (fewS s 200) = p at *
  generalize hq : perr (fewS t 200) = q at *
  clear hp hq
  go_wp2
  go_ret
  exact ⟨rfl, hg4⟩

theorem txt_dec {c : ByteArray} {n : Nat} (hg : good (bs c) = true) (hv : dval (bs c) = n) : txt (dec n) = c := by
  rw [← hv, dec_dval ((good_iff _).1 hg), txt_bs]

theorem known_p1 (w : World) : Calls Try.prog 14 #[.string ⟨#[49, 56, 52, 52, 54, 55, 52, 52, 48, 55, 51, 55, 48, 57, 53, 53, 49, 54, 49, 54]⟩] w fun e w' =>
    ∃ u : Sl, e = .returned (.tuple #[.agg #[.slice u.ao u.n u.c], .int .i64 0]) ∧ NatS w' u 18446744073709551616 ∧ u.n ≤ 4096 ∧ Below w.heap.size w w' := by
  refine (parse_spec _ w (by decide)).mono ?_
  rintro e w' ⟨u, h1, h2, _, h4, h5⟩
  refine ⟨u, ?_, ?_, h4, h5⟩
  · rw [show perr ⟨#[49, 56, 52, 52, 54, 55, 52, 52, 48, 55, 51, 55, 48, 57, 53, 53, 49, 54, 49, 54]⟩ = 0 by decide +kernel] at h1; exact h1
  · rw [show pval ⟨#[49, 56, 52, 52, 54, 55, 52, 52, 48, 55, 51, 55, 48, 57, 53, 53, 49, 54, 49, 54]⟩ = 18446744073709551616 by decide +kernel] at h2; exact h2

theorem known_p2 (w : World) : Calls Try.prog 14 #[.string ⟨#[48, 48, 49, 50]⟩] w fun e w' =>
    ∃ u : Sl, e = .returned (.tuple #[.agg #[.slice u.ao u.n u.c], .int .i64 3]) ∧ Below w.heap.size w w' := by
  refine (parse_spec _ w (by decide)).mono ?_
  rintro e w' ⟨u, h1, h2, _, h4, h5⟩
  refine ⟨u, ?_, h5⟩
  rw [show perr ⟨#[48, 48, 49, 50]⟩ = 3 by decide +kernel] at h1; exact h1

theorem known_p3 (w : World) : Calls Try.prog 14 #[.string ⟨#[49, 48, 48, 48, 48, 48, 48, 48, 48, 48, 48, 48, 48, 48, 48, 48, 48, 48, 48, 48, 53]⟩] w fun e w' =>
    ∃ u : Sl, e = .returned (.tuple #[.agg #[.slice u.ao u.n u.c], .int .i64 0]) ∧ NatS w' u 100000000000000000005 ∧ u.n ≤ 21 ∧ Below w.heap.size w w' := by
  refine (parse_spec _ w (by decide)).mono ?_
  rintro e w' ⟨u, h1, h2, h3, h4, h5⟩
  refine ⟨u, ?_, ?_, h3, h5⟩
  · rw [show perr ⟨#[49, 48, 48, 48, 48, 48, 48, 48, 48, 48, 48, 48, 48, 48, 48, 48, 48, 48, 48, 48, 53]⟩ = 0 by decide +kernel] at h1; exact h1
  · rw [show pval ⟨#[49, 48, 48, 48, 48, 48, 48, 48, 48, 48, 48, 48, 48, 48, 48, 48, 48, 48, 48, 48, 53]⟩ = 100000000000000000005 by decide +kernel] at h2; exact h2

theorem known_root {w : World} {s : Sl} (h : NatS w s 100000000000000000005) (hn : s.n ≤ 21) :
    Calls Try.prog 35 #[.agg #[.slice s.ao s.n s.c]] w fun e w' =>
      ∃ u v : Sl, e = .returned (.tuple #[.agg #[.slice u.ao u.n u.c], .agg #[.slice v.ao v.n v.c]]) ∧ NatS w' u 10000000000 ∧ NatS w' v 5 ∧ u.n ≤ 21 ∧ v.n ≤ 21 ∧ Below w.heap.size w w' := by
  refine (root_spec h (by omega)).mono ?_
  rintro e w' ⟨u, v, r, h1, h2, h3, h4, h5, h6, h7, h8⟩
  have hr : r = 10000000000 := root_unique h4 h5 (by decide) (by decide)
  subst hr
  exact ⟨u, v, h1, h2, h3, by omega, by omega, h8⟩

theorem known_t {w : World} {s : Sl} {n : Nat} {c : ByteArray} (h : NatS w s n) (hn : s.n ≤ 1000000000000) (hg : good (bs c) = true) (hv : dval (bs c) = n) :
    Calls Try.prog 17 #[.agg #[.slice s.ao s.n s.c]] w fun e w' => e = .returned (.string c) ∧ Below w.heap.size w w' := by
  have := text_spec h hn
  rw [txt_dec hg hv] at this
  exact this

theorem known_of (w : World) (n : Nat) (v : Int) (hv : v = (n : Int)) (hn : n < 256) : Calls Try.prog 22 #[.int .u64 v] w fun e w' =>
      ∃ u : Sl, e = .returned (.agg #[.slice u.ao u.n u.c]) ∧ NatS w' u n ∧ u.n ≤ 2 ∧ Below w.heap.size w w' := by
  subst hv
  exact of_spec n w (by omega)

set_option maxHeartbeats 1600000 in
theorem known_spec (w : World) : Calls Try.prog 16 #[] w fun e w' => e = .returned (.bool true) ∧ Below w.heap.size w w' := by
  go_enter Try.func16, Try.ntmps16
  go_wp2_with fail
  refine (known_p1 _).mono ?_
  rintro e w1 ⟨a, rfl, ha, han, hb1⟩
  have hg1 := (Grew.call (Grew.refl _) hb1).alloc (.cells #[.slice a.ao a.n a.c] 24)
  have hA := ent_new w1 (.cells #[.slice a.ao a.n a.c] 24)
  have ha := ha.alloc (.cells #[.slice a.ao a.n a.c] 24)
  go_wp2_with fail
  generalize w1.alloc (.cells #[.slice a.ao a.n a.c] 24) = W1 at *
  refine (known_p2 _).mono ?_
  rintro e w2 ⟨b, rfl, hb2⟩
  have hg2 := (Grew.call (Grew.refl _) hb2).alloc (.cells #[.slice b.ao b.n b.c] 24)
  go_wp2_with fail
  generalize w2.alloc (.cells #[.slice b.ao b.n b.c] 24) = W2 at *
  refine (known_p3 _).mono ?_
  rintro e w3 ⟨c, rfl, hc, hcn, hb3⟩
  have hg3 := (Grew.call (Grew.refl _) hb3).alloc (.cells #[.slice c.ao c.n c.c] 24)
  have hC := ent_new w3 (.cells #[.slice c.ao c.n c.c] 24)
  have hC1 := box_cell hC
  have hc := hc.alloc (.cells #[.slice c.ao c.n c.c] 24)
  go_wp2_with fail
  generalize w3.alloc (.cells #[.slice c.ao c.n c.c] 24) = W3 at *
  refine (known_root hc hcn).mono ?_
  rintro e w4 ⟨r, m, rfl, hr, hm, hrn, hmn, hb4⟩
  have hg4 := ((Grew.call (Grew.refl _) hb4).alloc (.cells #[.slice r.ao r.n r.c] 24)).alloc (.cells #[.slice m.ao m.n m.c] 24)
  obtain ⟨hR, hM, _⟩ := ents2 w4 (.cells #[.slice r.ao r.n r.c] 24) (.cells #[.slice m.ao m.n m.c] 24)
  have hA4 := ent_grew ((hg2.trans hg3).trans hg4) hA
  have ha := ha.grew ((hg2.trans hg3).trans hg4)
  have hr := (hr.alloc (.cells #[.slice r.ao r.n r.c] 24)).alloc (.cells #[.slice m.ao m.n m.c] 24)
  have hm := (hm.alloc (.cells #[.slice r.ao r.n r.c] 24)).alloc (.cells #[.slice m.ao m.n m.c] 24)
  have hg04 := ((hg1.trans hg2).trans hg3).trans hg4
  have hA4c := box_cell hA4
  clear hA hC1 hC hc hg1 hg2 hg3 hg4 hb1 hb2 hb3 hb4
  go_wp2_with fail
  generalize (w4.alloc (.cells #[.slice r.ao r.n r.c] 24)).alloc (.cells #[.slice m.ao m.n m.c] 24) = W4 at *
  refine (word_big ha (by omega) (by decide)).mono ?_
  rintro e w5 ⟨rfl, hb5⟩
  have hg5 := Grew.call (Grew.refl _) hb5
  have hA5 := ent_grew hg5 hA4
  have hR5 := ent_grew hg5 hR
  have hM5 := ent_grew hg5 hM
  have ha := ha.grew hg5
  have hr := hr.grew hg5
  have hm := hm.grew hg5
  have hg05 := hg04.trans hg5
  have hA5c := box_cell hA5
  clear hA4c hA4 hR hM hg04 hb5 hg5
  go_wp2_with fail
  refine (known_t (c := ⟨#[49, 56, 52, 52, 54, 55, 52, 52, 48, 55, 51, 55, 48, 57, 53, 53, 49, 54, 49, 54]⟩) ha (by omega) (by decide +kernel) (by decide +kernel)).mono ?_
  rintro e w6 ⟨rfl, hb6⟩
  have hg6 := Grew.call (Grew.refl _) hb6
  have hR6 := ent_grew hg6 hR5
  have hM6 := ent_grew hg6 hM5
  have hr := hr.grew hg6
  have hm := hm.grew hg6
  have hg06 := hg05.trans hg6
  have hR6c := box_cell hR6
  clear hA5c hA5 hR5 hM5 hg05 hb6 hg6
  go_wp2_with fail
  refine (known_t (c := ⟨#[49, 48, 48, 48, 48, 48, 48, 48, 48, 48, 48]⟩) hr (by omega) (by decide +kernel) (by decide +kernel)).mono ?_
  rintro e w7 ⟨rfl, hb7⟩
  have hg7 := Grew.call (Grew.refl _) hb7
  have hM7 := ent_grew hg7 hM6
  have hm := hm.grew hg7
  have hg07 := hg06.trans hg7
  have hM7c := box_cell hM7
  clear hR6c hR6 hM6 hg06 hb7 hg7
  go_wp2_with fail
  refine (known_t (c := ⟨#[53]⟩) hm (by omega) (by decide +kernel) (by decide +kernel)).mono ?_
  rintro e w8 ⟨rfl, hb8⟩
  have hg08 := hg07.call hb8
  clear hM7c hM7 hb8 hg07
  go_wp2_with fail
  refine (known_of _ 48 _ rfl (by omega)).mono ?_
  rintro e w9 ⟨p, rfl, hp, hpn, hb9⟩
  have hg09 := hg08.call hb9
  clear hg08 hb9
  go_wp2_with fail
  refine (known_of _ 180 _ rfl (by omega)).mono ?_
  rintro e w10 ⟨q, rfl, hq, hqn, hb10⟩
  have hp := hp.up hb10
  have hg10 := hg09.call hb10
  clear hg09 hb10
  go_wp2_with fail
  refine (gcd_spec hp hq (by omega) (by omega)).mono ?_
  rintro e w11 ⟨d, rfl, hd, hdn, hb11⟩
  have hg11 := hg10.call hb11
  clear hg10 hb11
  go_wp2_with fail
  refine (known_t (c := ⟨#[49, 50]⟩) hd (by omega) (by decide +kernel) (by decide +kernel)).mono ?_
  rintro e w12 ⟨rfl, hb12⟩
  have hg12 := hg11.call hb12
  clear hg11 hb12
  go_wp2
  go_ret
  exact ⟨rfl, hg12⟩

end Go.Proofs.Ytahfnbbdhhehhaa
