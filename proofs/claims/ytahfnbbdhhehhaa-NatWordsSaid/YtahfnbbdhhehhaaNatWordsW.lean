/- NatWords: the walk. -/
import Derived.Test.YtahfnbbdhhehhaaLawE
import Derived.Test.YtahfnbbdhhehhaaRefJ
namespace Go.Proofs.Ytahfnbbdhhehhaa
open Go.RowKit

theorem cmp_is {w : World} {s t : Sl} {x y : Nat} {c : Int} (h : NatS w s x) (h' : NatS w t y) (hn : s.n ≤ 1000000000000) (hm : t.n ≤ 1000000000000) (e : cmpN x y = c) :
    Calls Try.prog 26 #[.agg #[.slice s.ao s.n s.c], .agg #[.slice t.ao t.n t.c]] w fun e w' =>
      e = .returned (.int .i64 c) ∧ Below w.heap.size w w' := by
  subst e
  exact cmp_spec h h' hn hm

set_option maxHeartbeats 3200000 in
theorem natWords_walk (n m : Int) (hn : (Lit.int .u64 n).wf = true) (hm : (Lit.int .u64 m).wf = true) (w : World) :
    Calls Try.prog 4 #[.int .u64 n, .int .u64 m] w fun e w' => e = .returned (.bool true) ∧ Below w.heap.size w w' := by
  have hx : 0 ≤ n ∧ n ≤ 18446744073709551615 := by simpa [Lit.wf, IntKind.min, IntKind.max, IntKind.signed, IntKind.bits] using hn
  have hy : 0 ≤ m ∧ m ≤ 18446744073709551615 := by simpa [Lit.wf, IntKind.min, IntKind.max, IntKind.signed, IntKind.bits] using hm
  clear hn hm
  obtain ⟨X, rfl⟩ : ∃ X : Nat, n = X := ⟨n.toNat, by omega⟩
  obtain ⟨Y, rfl⟩ : ∃ Y : Nat, m = Y := ⟨m.toNat, by omega⟩
  have hX : X < 18446744073709551616 := by omega
  have hY : Y < 18446744073709551616 := by omega
  clear hx hy
  rcases Nat.lt_trichotomy X Y with hlt | heq | hgt
  · have HC := Lib.hid (cmpN_lt hlt)
    have hI : (X : Int) < (Y : Int) := by omega
    clear hlt
    go_enter Try.func4, Try.ntmps4
    have hg := Grew.refl w
    go_wp2_with fail
    refine (of_spec X _ hX).mono ?_
    rintro e w1 ⟨a, rfl, ha, han, hb1⟩
    have ha1 : Grew w1 (w1) := Grew.refl w1
    have hg1' := (Grew.call (Grew.refl _) hb1).trans ha1
    replace ha := ha.grew ha1
    replace hg := hg.trans hg1'
    clear hg1' ha1 hb1
    go_wp2_with fail
    refine (of_spec Y _ hY).mono ?_
    rintro e w2 ⟨b, rfl, hb, hbn, hb2⟩
    have ha2 : Grew w2 (((w2.alloc (.cells #[.slice a.ao a.n a.c] 24)).alloc (.cells #[.slice b.ao b.n b.c] 24))) := ((Grew.refl w2).alloc (.cells #[.slice a.ao a.n a.c] 24)).alloc (.cells #[.slice b.ao b.n b.c] 24)
    have hg2' := (Grew.call (Grew.refl _) hb2).trans ha2
    replace ha := ha.grew hg2'
    replace hb := hb.grew ha2
    obtain ⟨hEa, hEb, _⟩ := ents2 w2 (.cells #[.slice a.ao a.n a.c] 24) (.cells #[.slice b.ao b.n b.c] 24)
    replace hg := hg.trans hg2'
    clear hg2' ha2 hb2
    have chEa := box_cell hEa
    have chEb := box_cell hEb
    go_wp2_with fail
    generalize ((w2.alloc (.cells #[.slice a.ao a.n a.c] 24)).alloc (.cells #[.slice b.ao b.n b.c] 24)) = W2 at *
    refine (word_small ha hX).mono ?_
    rintro e w3 ⟨rfl, hb3⟩
    have ha3 : Grew w3 (w3) := Grew.refl w3
    have hg3' := (Grew.call (Grew.refl _) hb3).trans ha3
    replace ha := ha.grew hg3'
    replace hb := hb.grew hg3'
    replace hEa := ent_grew hg3' hEa
    replace hEb := ent_grew hg3' hEb
    replace hg := hg.trans hg3'
    clear hg3' ha3 hb3 chEa chEb
    have chEa := box_cell hEa
    have chEb := box_cell hEb
    go_upto_region 8 with fail
    clear chEa chEb
    have mk : Hid (∀ w', Grew w3 w' → w'.cell? ⟨w2.heap.size, 0, none⟩ = some (.slice a.ao a.n a.c) ∧ w'.cell? ⟨w2.heap.size + 1, 0, none⟩ = some (.slice b.ao b.n b.c) ∧ Grew w3 w') :=
      fun w' hg => ⟨cell_grew hg hEa, cell_grew hg hEb, hg⟩
    clear hEa hEb
    go_region_held3 (fun w' => w'.cell? ⟨w2.heap.size, 0, none⟩ = some (.slice a.ao a.n a.c) ∧ w'.cell? ⟨w2.heap.size + 1, 0, none⟩ = some (.slice b.ao b.n b.c) ∧ Grew w3 w')
      (first
        | exact mk.out _ (Grew.refl _).drew
        | exact mk.out _ (Grew.call (‹_ ∧ _ ∧ Grew w3 _›.2.2) ‹Below _ _ _›))
      (first
        | (go_at_call 16; refine (known_spec _).mono ?_; rintro e w9 ⟨rfl, hbw⟩)
        | (go_at_call 25; refine (rof_spec X _ hX).mono ?_; rintro e w9 ⟨v, rfl, hv, hvn, hbw⟩)
        | (go_at_call 21; refine (same_spec (by with_reducible first | exact ha.grew (‹_ ∧ _ ∧ Grew w3 _›.2.2) | exact hb.grew (‹_ ∧ _ ∧ Grew w3 _›.2.2) | exact ‹NatS _ _ _› | exact (NatS.up ‹NatS _ _ _› ‹Below _ _ _›) | exact (NatS.up (NatS.up ‹NatS _ _ _› ‹Below _ _ _›) ‹Below _ _ _›) | exact (NatS.up (NatS.up (NatS.up ‹NatS _ _ _› ‹Below _ _ _›) ‹Below _ _ _›) ‹Below _ _ _›) | exact (NatS.up (NatS.up (NatS.up (NatS.up ‹NatS _ _ _› ‹Below _ _ _›) ‹Below _ _ _›) ‹Below _ _ _›) ‹Below _ _ _›)) (by with_reducible first | exact ‹RefS _ _ _› | exact (RefS.up ‹RefS _ _ _› ‹Below _ _ _›) | exact (RefS.up (RefS.up ‹RefS _ _ _› ‹Below _ _ _›) ‹Below _ _ _›) | exact (RefS.up (RefS.up (RefS.up ‹RefS _ _ _› ‹Below _ _ _›) ‹Below _ _ _›) ‹Below _ _ _›) | exact (RefS.up (RefS.up (RefS.up (RefS.up ‹RefS _ _ _› ‹Below _ _ _›) ‹Below _ _ _›) ‹Below _ _ _›) ‹Below _ _ _›)) (by omega) (by omega)).mono ?_; rintro e w9 ⟨rfl, hbw⟩)
        | (go_at_call 26; refine (cmp_is (by with_reducible first | exact ha.grew (‹_ ∧ _ ∧ Grew w3 _›.2.2) | exact hb.grew (‹_ ∧ _ ∧ Grew w3 _›.2.2) | exact ‹NatS _ _ _› | exact (NatS.up ‹NatS _ _ _› ‹Below _ _ _›) | exact (NatS.up (NatS.up ‹NatS _ _ _› ‹Below _ _ _›) ‹Below _ _ _›) | exact (NatS.up (NatS.up (NatS.up ‹NatS _ _ _› ‹Below _ _ _›) ‹Below _ _ _›) ‹Below _ _ _›) | exact (NatS.up (NatS.up (NatS.up (NatS.up ‹NatS _ _ _› ‹Below _ _ _›) ‹Below _ _ _›) ‹Below _ _ _›) ‹Below _ _ _›)) (by with_reducible first | exact ha.grew (‹_ ∧ _ ∧ Grew w3 _›.2.2) | exact hb.grew (‹_ ∧ _ ∧ Grew w3 _›.2.2) | exact ‹NatS _ _ _› | exact (NatS.up ‹NatS _ _ _› ‹Below _ _ _›) | exact (NatS.up (NatS.up ‹NatS _ _ _› ‹Below _ _ _›) ‹Below _ _ _›) | exact (NatS.up (NatS.up (NatS.up ‹NatS _ _ _› ‹Below _ _ _›) ‹Below _ _ _›) ‹Below _ _ _›) | exact (NatS.up (NatS.up (NatS.up (NatS.up ‹NatS _ _ _› ‹Below _ _ _›) ‹Below _ _ _›) ‹Below _ _ _›) ‹Below _ _ _›)) (by omega) (by omega) HC.out).mono ?_; rintro e w9 ⟨rfl, hbw⟩)
        | (go_at_call 23; refine (bits_spec (by with_reducible first | exact ha.grew (‹_ ∧ _ ∧ Grew w3 _›.2.2) | exact hb.grew (‹_ ∧ _ ∧ Grew w3 _›.2.2) | exact ‹NatS _ _ _› | exact (NatS.up ‹NatS _ _ _› ‹Below _ _ _›) | exact (NatS.up (NatS.up ‹NatS _ _ _› ‹Below _ _ _›) ‹Below _ _ _›) | exact (NatS.up (NatS.up (NatS.up ‹NatS _ _ _› ‹Below _ _ _›) ‹Below _ _ _›) ‹Below _ _ _›) | exact (NatS.up (NatS.up (NatS.up (NatS.up ‹NatS _ _ _› ‹Below _ _ _›) ‹Below _ _ _›) ‹Below _ _ _›) ‹Below _ _ _›)) (by omega)).mono ?_; rintro e w9 ⟨rfl, hbw⟩)
        | (go_at_call 24; refine (rbits_spec (by with_reducible first | exact ‹RefS _ _ _› | exact (RefS.up ‹RefS _ _ _› ‹Below _ _ _›) | exact (RefS.up (RefS.up ‹RefS _ _ _› ‹Below _ _ _›) ‹Below _ _ _›) | exact (RefS.up (RefS.up (RefS.up ‹RefS _ _ _› ‹Below _ _ _›) ‹Below _ _ _›) ‹Below _ _ _›) | exact (RefS.up (RefS.up (RefS.up (RefS.up ‹RefS _ _ _› ‹Below _ _ _›) ‹Below _ _ _›) ‹Below _ _ _›) ‹Below _ _ _›)) (by omega)).mono ?_; rintro e w9 ⟨rfl, hbw⟩))
    all_goals go_wp2
    all_goals go_ret
    all_goals exact ⟨rfl, hg.trans (‹_ ∧ _ ∧ Grew w3 _›.2.2)⟩
  · subst heq
    have HC := Lib.hid (cmpN_eq X)
    go_enter Try.func4, Try.ntmps4
    have hg := Grew.refl w
    go_wp2_with fail
    refine (of_spec X _ hX).mono ?_
    rintro e w1 ⟨a, rfl, ha, han, hb1⟩
    have ha1 : Grew w1 (w1) := Grew.refl w1
    have hg1' := (Grew.call (Grew.refl _) hb1).trans ha1
    replace ha := ha.grew ha1
    replace hg := hg.trans hg1'
    clear hg1' ha1 hb1
    go_wp2_with fail
    refine (of_spec X _ hX).mono ?_
    rintro e w2 ⟨b, rfl, hb, hbn, hb2⟩
    have ha2 : Grew w2 (((w2.alloc (.cells #[.slice a.ao a.n a.c] 24)).alloc (.cells #[.slice b.ao b.n b.c] 24))) := ((Grew.refl w2).alloc (.cells #[.slice a.ao a.n a.c] 24)).alloc (.cells #[.slice b.ao b.n b.c] 24)
    have hg2' := (Grew.call (Grew.refl _) hb2).trans ha2
    replace ha := ha.grew hg2'
    replace hb := hb.grew ha2
    obtain ⟨hEa, hEb, _⟩ := ents2 w2 (.cells #[.slice a.ao a.n a.c] 24) (.cells #[.slice b.ao b.n b.c] 24)
    replace hg := hg.trans hg2'
    clear hg2' ha2 hb2
    have chEa := box_cell hEa
    have chEb := box_cell hEb
    go_wp2_with fail
    generalize ((w2.alloc (.cells #[.slice a.ao a.n a.c] 24)).alloc (.cells #[.slice b.ao b.n b.c] 24)) = W2 at *
    refine (word_small ha hX).mono ?_
    rintro e w3 ⟨rfl, hb3⟩
    have ha3 : Grew w3 (w3) := Grew.refl w3
    have hg3' := (Grew.call (Grew.refl _) hb3).trans ha3
    replace ha := ha.grew hg3'
    replace hb := hb.grew hg3'
    replace hEa := ent_grew hg3' hEa
    replace hEb := ent_grew hg3' hEb
    replace hg := hg.trans hg3'
    clear hg3' ha3 hb3 chEa chEb
    have chEa := box_cell hEa
    have chEb := box_cell hEb
    go_upto_region 8 with fail
    clear chEa chEb
    have mk : Hid (∀ w', Grew w3 w' → w'.cell? ⟨w2.heap.size, 0, none⟩ = some (.slice a.ao a.n a.c) ∧ w'.cell? ⟨w2.heap.size + 1, 0, none⟩ = some (.slice b.ao b.n b.c) ∧ Grew w3 w') :=
      fun w' hg => ⟨cell_grew hg hEa, cell_grew hg hEb, hg⟩
    clear hEa hEb
    go_region_held3 (fun w' => w'.cell? ⟨w2.heap.size, 0, none⟩ = some (.slice a.ao a.n a.c) ∧ w'.cell? ⟨w2.heap.size + 1, 0, none⟩ = some (.slice b.ao b.n b.c) ∧ Grew w3 w')
      (first
        | exact mk.out _ (Grew.refl _).drew
        | exact mk.out _ (Grew.call (‹_ ∧ _ ∧ Grew w3 _›.2.2) ‹Below _ _ _›))
      (first
        | (go_at_call 16; refine (known_spec _).mono ?_; rintro e w9 ⟨rfl, hbw⟩)
        | (go_at_call 25; refine (rof_spec X _ hX).mono ?_; rintro e w9 ⟨v, rfl, hv, hvn, hbw⟩)
        | (go_at_call 21; refine (same_spec (by with_reducible first | exact ha.grew (‹_ ∧ _ ∧ Grew w3 _›.2.2) | exact hb.grew (‹_ ∧ _ ∧ Grew w3 _›.2.2) | exact ‹NatS _ _ _› | exact (NatS.up ‹NatS _ _ _› ‹Below _ _ _›) | exact (NatS.up (NatS.up ‹NatS _ _ _› ‹Below _ _ _›) ‹Below _ _ _›) | exact (NatS.up (NatS.up (NatS.up ‹NatS _ _ _› ‹Below _ _ _›) ‹Below _ _ _›) ‹Below _ _ _›) | exact (NatS.up (NatS.up (NatS.up (NatS.up ‹NatS _ _ _› ‹Below _ _ _›) ‹Below _ _ _›) ‹Below _ _ _›) ‹Below _ _ _›)) (by with_reducible first | exact ‹RefS _ _ _› | exact (RefS.up ‹RefS _ _ _› ‹Below _ _ _›) | exact (RefS.up (RefS.up ‹RefS _ _ _› ‹Below _ _ _›) ‹Below _ _ _›) | exact (RefS.up (RefS.up (RefS.up ‹RefS _ _ _› ‹Below _ _ _›) ‹Below _ _ _›) ‹Below _ _ _›) | exact (RefS.up (RefS.up (RefS.up (RefS.up ‹RefS _ _ _› ‹Below _ _ _›) ‹Below _ _ _›) ‹Below _ _ _›) ‹Below _ _ _›)) (by omega) (by omega)).mono ?_; rintro e w9 ⟨rfl, hbw⟩)
        | (go_at_call 26; refine (cmp_is (by with_reducible first | exact ha.grew (‹_ ∧ _ ∧ Grew w3 _›.2.2) | exact hb.grew (‹_ ∧ _ ∧ Grew w3 _›.2.2) | exact ‹NatS _ _ _› | exact (NatS.up ‹NatS _ _ _› ‹Below _ _ _›) | exact (NatS.up (NatS.up ‹NatS _ _ _› ‹Below _ _ _›) ‹Below _ _ _›) | exact (NatS.up (NatS.up (NatS.up ‹NatS _ _ _› ‹Below _ _ _›) ‹Below _ _ _›) ‹Below _ _ _›) | exact (NatS.up (NatS.up (NatS.up (NatS.up ‹NatS _ _ _› ‹Below _ _ _›) ‹Below _ _ _›) ‹Below _ _ _›) ‹Below _ _ _›)) (by with_reducible first | exact ha.grew (‹_ ∧ _ ∧ Grew w3 _›.2.2) | exact hb.grew (‹_ ∧ _ ∧ Grew w3 _›.2.2) | exact ‹NatS _ _ _› | exact (NatS.up ‹NatS _ _ _› ‹Below _ _ _›) | exact (NatS.up (NatS.up ‹NatS _ _ _› ‹Below _ _ _›) ‹Below _ _ _›) | exact (NatS.up (NatS.up (NatS.up ‹NatS _ _ _› ‹Below _ _ _›) ‹Below _ _ _›) ‹Below _ _ _›) | exact (NatS.up (NatS.up (NatS.up (NatS.up ‹NatS _ _ _› ‹Below _ _ _›) ‹Below _ _ _›) ‹Below _ _ _›) ‹Below _ _ _›)) (by omega) (by omega) HC.out).mono ?_; rintro e w9 ⟨rfl, hbw⟩)
        | (go_at_call 23; refine (bits_spec (by with_reducible first | exact ha.grew (‹_ ∧ _ ∧ Grew w3 _›.2.2) | exact hb.grew (‹_ ∧ _ ∧ Grew w3 _›.2.2) | exact ‹NatS _ _ _› | exact (NatS.up ‹NatS _ _ _› ‹Below _ _ _›) | exact (NatS.up (NatS.up ‹NatS _ _ _› ‹Below _ _ _›) ‹Below _ _ _›) | exact (NatS.up (NatS.up (NatS.up ‹NatS _ _ _› ‹Below _ _ _›) ‹Below _ _ _›) ‹Below _ _ _›) | exact (NatS.up (NatS.up (NatS.up (NatS.up ‹NatS _ _ _› ‹Below _ _ _›) ‹Below _ _ _›) ‹Below _ _ _›) ‹Below _ _ _›)) (by omega)).mono ?_; rintro e w9 ⟨rfl, hbw⟩)
        | (go_at_call 24; refine (rbits_spec (by with_reducible first | exact ‹RefS _ _ _› | exact (RefS.up ‹RefS _ _ _› ‹Below _ _ _›) | exact (RefS.up (RefS.up ‹RefS _ _ _› ‹Below _ _ _›) ‹Below _ _ _›) | exact (RefS.up (RefS.up (RefS.up ‹RefS _ _ _› ‹Below _ _ _›) ‹Below _ _ _›) ‹Below _ _ _›) | exact (RefS.up (RefS.up (RefS.up (RefS.up ‹RefS _ _ _› ‹Below _ _ _›) ‹Below _ _ _›) ‹Below _ _ _›) ‹Below _ _ _›)) (by omega)).mono ?_; rintro e w9 ⟨rfl, hbw⟩))
    all_goals go_wp2
    all_goals go_ret
    all_goals exact ⟨rfl, hg.trans (‹_ ∧ _ ∧ Grew w3 _›.2.2)⟩
  · have HC := Lib.hid (cmpN_gt hgt)
    have hI : (Y : Int) < (X : Int) := by omega
    clear hgt
    go_enter Try.func4, Try.ntmps4
    have hg := Grew.refl w
    go_wp2_with fail
    refine (of_spec X _ hX).mono ?_
    rintro e w1 ⟨a, rfl, ha, han, hb1⟩
    have ha1 : Grew w1 (w1) := Grew.refl w1
    have hg1' := (Grew.call (Grew.refl _) hb1).trans ha1
    replace ha := ha.grew ha1
    replace hg := hg.trans hg1'
    clear hg1' ha1 hb1
    go_wp2_with fail
    refine (of_spec Y _ hY).mono ?_
    rintro e w2 ⟨b, rfl, hb, hbn, hb2⟩
    have ha2 : Grew w2 (((w2.alloc (.cells #[.slice a.ao a.n a.c] 24)).alloc (.cells #[.slice b.ao b.n b.c] 24))) := ((Grew.refl w2).alloc (.cells #[.slice a.ao a.n a.c] 24)).alloc (.cells #[.slice b.ao b.n b.c] 24)
    have hg2' := (Grew.call (Grew.refl _) hb2).trans ha2
    replace ha := ha.grew hg2'
    replace hb := hb.grew ha2
    obtain ⟨hEa, hEb, _⟩ := ents2 w2 (.cells #[.slice a.ao a.n a.c] 24) (.cells #[.slice b.ao b.n b.c] 24)
    replace hg := hg.trans hg2'
    clear hg2' ha2 hb2
    have chEa := box_cell hEa
    have chEb := box_cell hEb
    go_wp2_with fail
    generalize ((w2.alloc (.cells #[.slice a.ao a.n a.c] 24)).alloc (.cells #[.slice b.ao b.n b.c] 24)) = W2 at *
    refine (word_small ha hX).mono ?_
    rintro e w3 ⟨rfl, hb3⟩
    have ha3 : Grew w3 (w3) := Grew.refl w3
    have hg3' := (Grew.call (Grew.refl _) hb3).trans ha3
    replace ha := ha.grew hg3'
    replace hb := hb.grew hg3'
    replace hEa := ent_grew hg3' hEa
    replace hEb := ent_grew hg3' hEb
    replace hg := hg.trans hg3'
    clear hg3' ha3 hb3 chEa chEb
    have chEa := box_cell hEa
    have chEb := box_cell hEb
    go_upto_region 8 with fail
    clear chEa chEb
    have mk : Hid (∀ w', Grew w3 w' → w'.cell? ⟨w2.heap.size, 0, none⟩ = some (.slice a.ao a.n a.c) ∧ w'.cell? ⟨w2.heap.size + 1, 0, none⟩ = some (.slice b.ao b.n b.c) ∧ Grew w3 w') :=
      fun w' hg => ⟨cell_grew hg hEa, cell_grew hg hEb, hg⟩
    clear hEa hEb
    go_region_held3 (fun w' => w'.cell? ⟨w2.heap.size, 0, none⟩ = some (.slice a.ao a.n a.c) ∧ w'.cell? ⟨w2.heap.size + 1, 0, none⟩ = some (.slice b.ao b.n b.c) ∧ Grew w3 w')
      (first
        | exact mk.out _ (Grew.refl _).drew
        | exact mk.out _ (Grew.call (‹_ ∧ _ ∧ Grew w3 _›.2.2) ‹Below _ _ _›))
      (first
        | (go_at_call 16; refine (known_spec _).mono ?_; rintro e w9 ⟨rfl, hbw⟩)
        | (go_at_call 25; refine (rof_spec X _ hX).mono ?_; rintro e w9 ⟨v, rfl, hv, hvn, hbw⟩)
        | (go_at_call 21; refine (same_spec (by with_reducible first | exact ha.grew (‹_ ∧ _ ∧ Grew w3 _›.2.2) | exact hb.grew (‹_ ∧ _ ∧ Grew w3 _›.2.2) | exact ‹NatS _ _ _› | exact (NatS.up ‹NatS _ _ _› ‹Below _ _ _›) | exact (NatS.up (NatS.up ‹NatS _ _ _› ‹Below _ _ _›) ‹Below _ _ _›) | exact (NatS.up (NatS.up (NatS.up ‹NatS _ _ _› ‹Below _ _ _›) ‹Below _ _ _›) ‹Below _ _ _›) | exact (NatS.up (NatS.up (NatS.up (NatS.up ‹NatS _ _ _› ‹Below _ _ _›) ‹Below _ _ _›) ‹Below _ _ _›) ‹Below _ _ _›)) (by with_reducible first | exact ‹RefS _ _ _› | exact (RefS.up ‹RefS _ _ _› ‹Below _ _ _›) | exact (RefS.up (RefS.up ‹RefS _ _ _› ‹Below _ _ _›) ‹Below _ _ _›) | exact (RefS.up (RefS.up (RefS.up ‹RefS _ _ _› ‹Below _ _ _›) ‹Below _ _ _›) ‹Below _ _ _›) | exact (RefS.up (RefS.up (RefS.up (RefS.up ‹RefS _ _ _› ‹Below _ _ _›) ‹Below _ _ _›) ‹Below _ _ _›) ‹Below _ _ _›)) (by omega) (by omega)).mono ?_; rintro e w9 ⟨rfl, hbw⟩)
        | (go_at_call 26; refine (cmp_is (by with_reducible first | exact ha.grew (‹_ ∧ _ ∧ Grew w3 _›.2.2) | exact hb.grew (‹_ ∧ _ ∧ Grew w3 _›.2.2) | exact ‹NatS _ _ _› | exact (NatS.up ‹NatS _ _ _› ‹Below _ _ _›) | exact (NatS.up (NatS.up ‹NatS _ _ _› ‹Below _ _ _›) ‹Below _ _ _›) | exact (NatS.up (NatS.up (NatS.up ‹NatS _ _ _› ‹Below _ _ _›) ‹Below _ _ _›) ‹Below _ _ _›) | exact (NatS.up (NatS.up (NatS.up (NatS.up ‹NatS _ _ _› ‹Below _ _ _›) ‹Below _ _ _›) ‹Below _ _ _›) ‹Below _ _ _›)) (by with_reducible first | exact ha.grew (‹_ ∧ _ ∧ Grew w3 _›.2.2) | exact hb.grew (‹_ ∧ _ ∧ Grew w3 _›.2.2) | exact ‹NatS _ _ _› | exact (NatS.up ‹NatS _ _ _› ‹Below _ _ _›) | exact (NatS.up (NatS.up ‹NatS _ _ _› ‹Below _ _ _›) ‹Below _ _ _›) | exact (NatS.up (NatS.up (NatS.up ‹NatS _ _ _› ‹Below _ _ _›) ‹Below _ _ _›) ‹Below _ _ _›) | exact (NatS.up (NatS.up (NatS.up (NatS.up ‹NatS _ _ _› ‹Below _ _ _›) ‹Below _ _ _›) ‹Below _ _ _›) ‹Below _ _ _›)) (by omega) (by omega) HC.out).mono ?_; rintro e w9 ⟨rfl, hbw⟩)
        | (go_at_call 23; refine (bits_spec (by with_reducible first | exact ha.grew (‹_ ∧ _ ∧ Grew w3 _›.2.2) | exact hb.grew (‹_ ∧ _ ∧ Grew w3 _›.2.2) | exact ‹NatS _ _ _› | exact (NatS.up ‹NatS _ _ _› ‹Below _ _ _›) | exact (NatS.up (NatS.up ‹NatS _ _ _› ‹Below _ _ _›) ‹Below _ _ _›) | exact (NatS.up (NatS.up (NatS.up ‹NatS _ _ _› ‹Below _ _ _›) ‹Below _ _ _›) ‹Below _ _ _›) | exact (NatS.up (NatS.up (NatS.up (NatS.up ‹NatS _ _ _› ‹Below _ _ _›) ‹Below _ _ _›) ‹Below _ _ _›) ‹Below _ _ _›)) (by omega)).mono ?_; rintro e w9 ⟨rfl, hbw⟩)
        | (go_at_call 24; refine (rbits_spec (by with_reducible first | exact ‹RefS _ _ _› | exact (RefS.up ‹RefS _ _ _› ‹Below _ _ _›) | exact (RefS.up (RefS.up ‹RefS _ _ _› ‹Below _ _ _›) ‹Below _ _ _›) | exact (RefS.up (RefS.up (RefS.up ‹RefS _ _ _› ‹Below _ _ _›) ‹Below _ _ _›) ‹Below _ _ _›) | exact (RefS.up (RefS.up (RefS.up (RefS.up ‹RefS _ _ _› ‹Below _ _ _›) ‹Below _ _ _›) ‹Below _ _ _›) ‹Below _ _ _›)) (by omega)).mono ?_; rintro e w9 ⟨rfl, hbw⟩))
    all_goals go_wp2
    all_goals go_ret
    all_goals exact ⟨rfl, hg.trans (‹_ ∧ _ ∧ Grew w3 _›.2.2)⟩

end Go.Proofs.Ytahfnbbdhhehhaa
