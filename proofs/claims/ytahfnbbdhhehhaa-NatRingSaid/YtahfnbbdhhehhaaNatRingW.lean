/- NatRing: the walk. -/
import Derived.Test.YtahfnbbdhhehhaaLawD
namespace Go.Proofs.Ytahfnbbdhhehhaa
open Go.RowKit

theorem NatS.drew {W : World} {s : Sl} {x : Nat} (h : NatS W s x) : NatS W.drew s x := h

theorem of_zero (w : World) : Calls Try.prog 22 #[.int .u64 0] w fun e w' =>
      ∃ u : Sl, e = .returned (.agg #[.slice u.ao u.n u.c]) ∧ NatS w' u 0 ∧ u.n ≤ 2 ∧ Below w.heap.size w w' := of_spec 0 w (by omega)

/-- The texts' numbers, in boxes. -/
def Two4 (W : World) (a b x y : Sl) : World := (((W.alloc (.cells #[.slice a.ao a.n a.c] 24)).alloc (.cells #[.slice b.ao b.n b.c] 24)).alloc (.cells #[.slice x.ao x.n x.c] 30)).alloc (.cells #[.slice y.ao y.n y.c] 30)

theorem two4 (W : World) (a b x y : Sl) : Grew W (Two4 W a b x y) ∧ (Two4 W a b x y).heap[W.heap.size]? = some (.cells #[.slice a.ao a.n a.c] 24 (0, 0)) ∧ (Two4 W a b x y).heap[W.heap.size + 1]? = some (.cells #[.slice b.ao b.n b.c] 24 (0, 0)) ∧
    (Two4 W a b x y).heap[W.heap.size + 1 + 1]? = some (.cells #[.slice x.ao x.n x.c] 30 (0, 0)) ∧ (Two4 W a b x y).heap[W.heap.size + 1 + 1 + 1]? = some (.cells #[.slice y.ao y.n y.c] 30 (0, 0)) := by
  have h := ents4 W (.cells #[.slice a.ao a.n a.c] 24) (.cells #[.slice b.ao b.n b.c] 24) (.cells #[.slice x.ao x.n x.c] 30) (.cells #[.slice y.ao y.n y.c] 30)
  exact ⟨ents4g _ _ _ _ _, h.1, h.2.1, h.2.2.1, h.2.2.2.1⟩

theorem cmp_same {w : World} {s t : Sl} {x y : Nat} (h : NatS w s x) (h' : NatS w t y) (hn : s.n ≤ 1000000000000) (hm : t.n ≤ 1000000000000) (e : x = y) :
    Calls Try.prog 26 #[.agg #[.slice s.ao s.n s.c], .agg #[.slice t.ao t.n t.c]] w fun e w' =>
      e = .returned (.int .i64 0) ∧ Below w.heap.size w w' := by
  subst e
  have := cmp_spec h h' hn hm
  rw [cmpN_eq] at this
  exact this

set_option maxHeartbeats 3200000 in
theorem natRing_walk (s t u : ByteArray) (hs : s.size ≤ maxLen) (ht : t.size ≤ maxLen) (hu : u.size ≤ maxLen) (w : World) :
    Calls Try.prog 10 #[.string s, .string t, .string u] w fun e w' => e = .returned (.bool true) ∧ Below w.heap.size w w' := by
  unfold maxLen at hs ht hu
  cases hk1 : ok2 s t with
  | false =>
    go_enter Try.func10, Try.ntmps10
    go_wp2_with fail
    refine (two_spec s t _ hs ht).mono ?_
    rintro e w1 ⟨a, b, x, y, rfl, -, -, -, -, -, -, -, -, hb1⟩
    have hg1 := (Grew.call (Grew.refl _) hb1).trans (two4 w1 a b x y).1
    go_wp2_with fail
    change Calls _ _ _ (Two4 w1 a b x y) _
    generalize Two4 w1 a b x y = W1 at *
    refine (two_spec u _ _ hu (by decide)).mono ?_
    rintro e w2 ⟨c, d, x', y', rfl, -, -, -, -, -, -, -, -, hb2⟩
    have hg2 := (hg1.call hb2).trans (two4 w2 c d x' y').1
    go_wp2_with fail
    change Calls _ _ _ (Two4 w2 c d x' y') _
    generalize Two4 w2 c d x' y' = W2 at *
    refine (known_spec _).mono ?_
    rintro e w3 ⟨rfl, hb3⟩
    have hg3 := hg2.call hb3
    go_wp2_with fail
    refine (known_spec _).mono ?_
    rintro e w4 ⟨rfl, hb4⟩
    have hg4 := hg3.call hb4
    go_wp2
    go_ret
    exact ⟨rfl, hg4⟩
  | true =>
    cases hk2 : ok2 u ⟨#[48]⟩ with
    | false =>
      go_enter Try.func10, Try.ntmps10
      go_wp2_with fail
      refine (two_spec s t _ hs ht).mono ?_
      rintro e w1 ⟨a, b, x, y, rfl, ha, hb, -, -, han, hbn, -, -, hb1⟩
      have hg1 := (Grew.call (Grew.refl _) hb1).trans (two4 w1 a b x y).1
      obtain ⟨hgA, hA, hB, _, _⟩ := two4 w1 a b x y
      have ha := ha.grew hgA
      have hb := hb.grew hgA
      go_wp2_with fail
      change Calls _ _ _ (Two4 w1 a b x y) _
      generalize Two4 w1 a b x y = W1 at *
      refine (two_spec u _ _ hu (by decide)).mono ?_
      rintro e w2 ⟨c, d, x', y', rfl, hc, -, -, -, hcn, -, -, -, hb2⟩
      have hg12 := (Grew.call (Grew.refl _) hb2).trans (two4 w2 c d x' y').1
      obtain ⟨hgC, hC, _, _, _⟩ := two4 w2 c d x' y'
      have hc := hc.grew hgC
      have ha := ha.grew hg12
      have hb := hb.grew hg12
      have hA := ent_grew hg12 hA
      have hB := ent_grew hg12 hB
      have hg2 := hg1.trans hg12
      clear hgA hgC hg12 hg1 hb1 hb2
      go_wp2_with fail
      change Calls _ _ _ (Two4 w2 c d x' y') _
      generalize Two4 w2 c d x' y' = W2 at *
      refine (known_spec _).mono ?_
      rintro e w3 ⟨rfl, hb3⟩
      have hg23 := Grew.call (Grew.refl _) hb3
      have hg3 := hg2.trans hg23
      have ha := ha.grew hg23
      have hb := hb.grew hg23
      have hc := hc.grew hg23
      have hA := ent_grew hg23 hA
      have hB := ent_grew hg23 hB
      have hC := ent_grew hg23 hC
      clear hg2 hg23 hb3
      go_wp2_with fail
      refine (known_spec _).mono ?_
      rintro e w4 ⟨rfl, hb4⟩
      have hg4 := hg3.call hb4
      go_wp2
      go_ret
      exact ⟨rfl, hg4⟩
    | true =>
      go_enter Try.func10, Try.ntmps10
      go_wp2_with fail
      refine (two_spec s t _ hs ht).mono ?_
      rintro e w1 ⟨a, b, x, y, rfl, ha, hb, -, -, han, hbn, -, -, hb1⟩
      have hg1 := (Grew.call (Grew.refl _) hb1).trans (two4 w1 a b x y).1
      obtain ⟨hgA, hA, hB, _, _⟩ := two4 w1 a b x y
      have ha := ha.grew hgA
      have hb := hb.grew hgA
      go_wp2_with fail
      change Calls _ _ _ (Two4 w1 a b x y) _
      generalize Two4 w1 a b x y = W1 at *
      refine (two_spec u _ _ hu (by decide)).mono ?_
      rintro e w2 ⟨c, d, x', y', rfl, hc, -, -, -, hcn, -, -, -, hb2⟩
      have hg12 := (Grew.call (Grew.refl _) hb2).trans (two4 w2 c d x' y').1
      obtain ⟨hgC, hC, _, _, _⟩ := two4 w2 c d x' y'
      have hc := hc.grew hgC
      have ha := ha.grew hg12
      have hb := hb.grew hg12
      have hA := ent_grew hg12 hA
      have hB := ent_grew hg12 hB
      have hg2 := hg1.trans hg12
      clear hgA hgC hg12 hg1 hb1 hb2
      go_wp2_with fail
      change Calls _ _ _ (Two4 w2 c d x' y') _
      generalize Two4 w2 c d x' y' = W2 at *
      refine (known_spec _).mono ?_
      rintro e w3 ⟨rfl, hb3⟩
      have hg23 := Grew.call (Grew.refl _) hb3
      have hg3 := hg2.trans hg23
      have ha := ha.grew hg23
      have hb := hb.grew hg23
      have hc := hc.grew hg23
      have hA := ent_grew hg23 hA
      have hB := ent_grew hg23 hB
      have hC := ent_grew hg23 hC
      clear hg2 hg23 hb3
      have mk : Hid (∀ w', Grew w3 w' → w'.cell? ⟨w1.heap.size, 0, none⟩ = some (.slice a.ao a.n a.c) ∧ w'.cell? ⟨w1.heap.size + 1, 0, none⟩ = some (.slice b.ao b.n b.c) ∧ w'.cell? ⟨w2.heap.size, 0, none⟩ = some (.slice c.ao c.n c.c) ∧ Grew w3 w') :=
        fun w' hg => ⟨cell_grew hg hA, cell_grew hg hB, cell_grew hg hC, hg⟩
      clear hA hB hC
      clear hk1 hk2
      generalize pval (fewS s 200) = A at *
      generalize pval (fewS t 200) = B at *
      generalize pval (fewS u 200) = C at *
      go_upto_region 5 with fail
      dsimp only [List.append]
      go_region_held3 (fun w' => w'.cell? ⟨w1.heap.size, 0, none⟩ = some (.slice a.ao a.n a.c) ∧ w'.cell? ⟨w1.heap.size + 1, 0, none⟩ = some (.slice b.ao b.n b.c) ∧ w'.cell? ⟨w2.heap.size, 0, none⟩ = some (.slice c.ao c.n c.c) ∧ Grew w3 w')
        (first
          | exact mk.out _ (Grew.refl _).drew
          | exact mk.out _ (Grew.call (‹_ ∧ _ ∧ _ ∧ Grew w3 _›).2.2.2 ‹Below _ _ _›))
        (first
          | (go_at_call 40; refine (add_spec (by with_reducible first | exact ha.grew (‹_ ∧ _ ∧ _ ∧ Grew w3 _›).2.2.2 | exact hb.grew (‹_ ∧ _ ∧ _ ∧ Grew w3 _›).2.2.2 | exact hc.grew (‹_ ∧ _ ∧ _ ∧ Grew w3 _›).2.2.2 | exact ‹NatS _ _ _› | exact (NatS.up ‹NatS _ _ _› ‹Below _ _ _›) | exact (NatS.up (NatS.up ‹NatS _ _ _› ‹Below _ _ _›) ‹Below _ _ _›) | exact (NatS.up (NatS.up (NatS.up ‹NatS _ _ _› ‹Below _ _ _›) ‹Below _ _ _›) ‹Below _ _ _›) | exact (NatS.up (NatS.up (NatS.up (NatS.up ‹NatS _ _ _› ‹Below _ _ _›) ‹Below _ _ _›) ‹Below _ _ _›) ‹Below _ _ _›)) (by with_reducible first | exact ha.grew (‹_ ∧ _ ∧ _ ∧ Grew w3 _›).2.2.2 | exact hb.grew (‹_ ∧ _ ∧ _ ∧ Grew w3 _›).2.2.2 | exact hc.grew (‹_ ∧ _ ∧ _ ∧ Grew w3 _›).2.2.2 | exact ‹NatS _ _ _› | exact (NatS.up ‹NatS _ _ _› ‹Below _ _ _›) | exact (NatS.up (NatS.up ‹NatS _ _ _› ‹Below _ _ _›) ‹Below _ _ _›) | exact (NatS.up (NatS.up (NatS.up ‹NatS _ _ _› ‹Below _ _ _›) ‹Below _ _ _›) ‹Below _ _ _›) | exact (NatS.up (NatS.up (NatS.up (NatS.up ‹NatS _ _ _› ‹Below _ _ _›) ‹Below _ _ _›) ‹Below _ _ _›) ‹Below _ _ _›)) (by omega) (by omega)).mono ?_; rintro e w9 ⟨v, rfl, hv, hvn, hbw⟩)
          | (go_at_call 29; refine (mul_spec (by with_reducible first | exact ha.grew (‹_ ∧ _ ∧ _ ∧ Grew w3 _›).2.2.2 | exact hb.grew (‹_ ∧ _ ∧ _ ∧ Grew w3 _›).2.2.2 | exact hc.grew (‹_ ∧ _ ∧ _ ∧ Grew w3 _›).2.2.2 | exact ‹NatS _ _ _› | exact (NatS.up ‹NatS _ _ _› ‹Below _ _ _›) | exact (NatS.up (NatS.up ‹NatS _ _ _› ‹Below _ _ _›) ‹Below _ _ _›) | exact (NatS.up (NatS.up (NatS.up ‹NatS _ _ _› ‹Below _ _ _›) ‹Below _ _ _›) ‹Below _ _ _›) | exact (NatS.up (NatS.up (NatS.up (NatS.up ‹NatS _ _ _› ‹Below _ _ _›) ‹Below _ _ _›) ‹Below _ _ _›) ‹Below _ _ _›)) (by with_reducible first | exact ha.grew (‹_ ∧ _ ∧ _ ∧ Grew w3 _›).2.2.2 | exact hb.grew (‹_ ∧ _ ∧ _ ∧ Grew w3 _›).2.2.2 | exact hc.grew (‹_ ∧ _ ∧ _ ∧ Grew w3 _›).2.2.2 | exact ‹NatS _ _ _› | exact (NatS.up ‹NatS _ _ _› ‹Below _ _ _›) | exact (NatS.up (NatS.up ‹NatS _ _ _› ‹Below _ _ _›) ‹Below _ _ _›) | exact (NatS.up (NatS.up (NatS.up ‹NatS _ _ _› ‹Below _ _ _›) ‹Below _ _ _›) ‹Below _ _ _›) | exact (NatS.up (NatS.up (NatS.up (NatS.up ‹NatS _ _ _› ‹Below _ _ _›) ‹Below _ _ _›) ‹Below _ _ _›) ‹Below _ _ _›)) (by omega) (by omega)).mono ?_; rintro e w9 ⟨v, rfl, hv, hvn, hbw⟩)
          | (go_at_call 22; (first | with_reducible refine (of_zero _).mono ?_ | with_reducible refine (of_one _).mono ?_); rintro e w9 ⟨v, rfl, hv, hvn, hbw⟩)
          | (go_at_call 26; refine (cmp_same (by with_reducible first | exact ha.grew (‹_ ∧ _ ∧ _ ∧ Grew w3 _›).2.2.2 | exact hb.grew (‹_ ∧ _ ∧ _ ∧ Grew w3 _›).2.2.2 | exact hc.grew (‹_ ∧ _ ∧ _ ∧ Grew w3 _›).2.2.2 | exact ‹NatS _ _ _› | exact (NatS.up ‹NatS _ _ _› ‹Below _ _ _›) | exact (NatS.up (NatS.up ‹NatS _ _ _› ‹Below _ _ _›) ‹Below _ _ _›) | exact (NatS.up (NatS.up (NatS.up ‹NatS _ _ _› ‹Below _ _ _›) ‹Below _ _ _›) ‹Below _ _ _›) | exact (NatS.up (NatS.up (NatS.up (NatS.up ‹NatS _ _ _› ‹Below _ _ _›) ‹Below _ _ _›) ‹Below _ _ _›) ‹Below _ _ _›)) (by with_reducible first | exact ha.grew (‹_ ∧ _ ∧ _ ∧ Grew w3 _›).2.2.2 | exact hb.grew (‹_ ∧ _ ∧ _ ∧ Grew w3 _›).2.2.2 | exact hc.grew (‹_ ∧ _ ∧ _ ∧ Grew w3 _›).2.2.2 | exact ‹NatS _ _ _› | exact (NatS.up ‹NatS _ _ _› ‹Below _ _ _›) | exact (NatS.up (NatS.up ‹NatS _ _ _› ‹Below _ _ _›) ‹Below _ _ _›) | exact (NatS.up (NatS.up (NatS.up ‹NatS _ _ _› ‹Below _ _ _›) ‹Below _ _ _›) ‹Below _ _ _›) | exact (NatS.up (NatS.up (NatS.up (NatS.up ‹NatS _ _ _› ‹Below _ _ _›) ‹Below _ _ _›) ‹Below _ _ _›) ‹Below _ _ _›)) (by omega) (by omega) (by first | exact Nat.add_comm _ _ | exact Nat.mul_comm _ _ | exact Nat.add_assoc _ _ _ | exact Nat.mul_assoc _ _ _ | exact Nat.mul_add _ _ _ | exact Nat.add_zero _ | exact Nat.mul_one _)).mono ?_; rintro e w9 ⟨rfl, hbw⟩))
      all_goals go_wp2
      all_goals go_ret
      all_goals exact ⟨rfl, hg3.trans (‹_ ∧ _ ∧ _ ∧ Grew w3 _›).2.2.2⟩

end Go.Proofs.Ytahfnbbdhhehhaa
