/- NatReads: the walk. -/
import Derived.Test.YtahfnbbdhhehhaaLawF
import Derived.Test.YtahfnbbdhhehhaaRefI
import Derived.Test.YtahfnbbdhhehhaaRefJ
namespace Go.Proofs.Ytahfnbbdhhehhaa
open Go.RowKit

theorem perr_zero {s : ByteArray} (h : perr s = 0) : txt (dec (pval s)) = s := by
  by_cases hl : 4096 < s.size
  · have := (perr_long hl).1
    omega
  · by_cases hg : Good (bs s)
    · rw [(perr_ok hg).2, dec_dval hg, txt_bs]
    · have := (perr_bad (by omega) hg).1
      omega
theorem perr_ne {s : ByteArray} (h : perr s ≠ 0) : pval s = 0 := by
  by_cases hl : 4096 < s.size
  · exact (perr_long hl).2
  · by_cases hg : Good (bs s)
    · exact absurd (perr_ok hg).1 h
    · exact (perr_bad (by omega) hg).2

theorem rtwo64 (w : World) : Calls Try.prog 20 #[.int .i64 64] w fun e w' =>
      ∃ u : Sl, e = .returned (.agg #[.slice u.ao u.n u.c]) ∧ RefS w' u 18446744073709551616 ∧ u.n ≤ 201 ∧ Below w.heap.size w w' := rtwo_spec 64 w (by omega)

theorem rcmp_ord {w : World} {s t : Sl} {x y : Nat} (h : RefS w s x) (h' : RefS w t y) (hn : s.n ≤ 1000000000000) (hm : t.n ≤ 1000000000000) :
    Calls Try.prog 19 #[.agg #[.slice s.ao s.n s.c], .agg #[.slice t.ao t.n t.c]] w fun e w' =>
      ∃ c : Int, e = .returned (.int .i64 c) ∧ (x < y → c < 0) ∧ (y ≤ x → 0 ≤ c) ∧ Below w.heap.size w w' := by
  refine (rcmp_spec h h' hn hm).mono ?_
  rintro e w' ⟨rfl, hb⟩
  refine ⟨_, rfl, fun hlt => ?_, fun hle => ?_, hb⟩
  · rw [cmpN_lt hlt]; omega
  · rcases Nat.lt_or_eq_of_le hle with h | h
    · rw [cmpN_gt h]; omega
    · subst h; rw [cmpN_eq]; omega

set_option maxHeartbeats 3200000 in
theorem natReads_walk (s : ByteArray) (hs : s.size ≤ maxLen) (w : World) :
    Calls Try.prog 3 #[.string s] w fun e w' => e = .returned (.bool true) ∧ Below w.heap.size w w' := by
  unfold maxLen at hs
  by_cases hp : perr s = 0
  · have hX0 := Nat.lt_or_ge (pval s) 18446744073709551616
    rcases hX0 with hX | hX
    · by_cases hlong : 1000 < s.size
      · have hlI : (1000 : Int) < (s.size : Int) := by omega
        clear hlong
        go_enter Try.func3, Try.ntmps3
        have hg := Grew.refl w
        go_wp2_with fail
        refine (parse_spec s _ hs).mono ?_
        rintro e w1 ⟨a, rfl, ha, -, han, hb1⟩
        have ha1 : Grew w1 ((w1.alloc (.cells #[.slice a.ao a.n a.c] 24))) := (Grew.refl w1).alloc (.cells #[.slice a.ao a.n a.c] 24)
        have hg1' := (Grew.call (Grew.refl _) hb1).trans ha1
        replace ha := ha.grew ha1
        have hEa := ent_new w1 (.cells #[.slice a.ao a.n a.c] 24)
        replace hg := hg.trans hg1'
        clear hg1' ha1 hb1
        have chEa := box_cell hEa
        go_wp2_with fail
        generalize (w1.alloc (.cells #[.slice a.ao a.n a.c] 24)) = W1 at *
        refine (rparse_spec s _ hs).mono ?_
        rintro e w2 ⟨x, rfl, hx, -, hxn, hb2⟩
        have ha2 : Grew w2 ((w2.alloc (.cells #[.slice x.ao x.n x.c] 30))) := (Grew.refl w2).alloc (.cells #[.slice x.ao x.n x.c] 30)
        have hg2' := (Grew.call (Grew.refl _) hb2).trans ha2
        replace ha := ha.grew hg2'
        replace hEa := ent_grew hg2' hEa
        replace hx := hx.grew ha2
        have hEx := ent_new w2 (.cells #[.slice x.ao x.n x.c] 30)
        replace hg := hg.trans hg2'
        clear hg2' ha2 hb2 chEa
        have chEa := box_cell hEa
        have chEx := box_cell hEx
        go_wp2_with fail
        generalize (w2.alloc (.cells #[.slice x.ao x.n x.c] 30)) = W2 at *
        refine (known_spec _).mono ?_
        rintro e w3 ⟨rfl, hb3⟩
        have ha3 : Grew w3 (w3) := Grew.refl w3
        have hg3' := (Grew.call (Grew.refl _) hb3).trans ha3
        replace ha := ha.grew hg3'
        replace hx := hx.grew hg3'
        replace hEa := ent_grew hg3' hEa
        replace hEx := ent_grew hg3' hEx
        replace hg := hg.trans hg3'
        clear hg3' ha3 hb3 chEa chEx
        have chEa := box_cell hEa
        have chEx := box_cell hEx
        have HT := Lib.hid (perr_zero hp)
        clear hp
        generalize pval s = X at *
        go_wp2_with fail
        refine (word_small ha hX).mono ?_
        rintro e w4 ⟨rfl, hb4⟩
        have ha4 : Grew w4 (w4) := Grew.refl w4
        have hg4' := (Grew.call (Grew.refl _) hb4).trans ha4
        replace ha := ha.grew hg4'
        replace hx := hx.grew hg4'
        replace hEa := ent_grew hg4' hEa
        replace hEx := ent_grew hg4' hEx
        replace hg := hg.trans hg4'
        clear hg4' ha4 hb4 chEa chEx
        have chEa := box_cell hEa
        have chEx := box_cell hEx
        go_upto_region 8 with fail
        clear chEa chEx
        have mk : Hid (∀ w', Grew w4 w' → w'.cell? ⟨w2.heap.size, 0, none⟩ = some (.slice x.ao x.n x.c) ∧ Grew w4 w') :=
          fun w' hg => ⟨cell_grew hg hEx, hg⟩
        go_region_held3 (fun w' => w'.cell? ⟨w2.heap.size, 0, none⟩ = some (.slice x.ao x.n x.c) ∧ Grew w4 w')
          (first
            | exact mk.out _ (Grew.refl _).drew
            | exact mk.out _ (Grew.call (‹_ ∧ Grew w4 _›.2) ‹Below _ _ _›))
          (first
            | (go_at_call 20; refine (rtwo64 _).mono ?_; rintro e w9 ⟨v, rfl, hv, hvn, hbw⟩)
            | (go_at_call 19; refine (rcmp_ord (by with_reducible first | exact hx.grew (‹_ ∧ Grew w4 _›.2) | exact ‹RefS _ _ _› | exact (RefS.up ‹RefS _ _ _› ‹Below _ _ _›) | exact (RefS.up (RefS.up ‹RefS _ _ _› ‹Below _ _ _›) ‹Below _ _ _›) | exact (RefS.up (RefS.up (RefS.up ‹RefS _ _ _› ‹Below _ _ _›) ‹Below _ _ _›) ‹Below _ _ _›) | exact (RefS.up (RefS.up (RefS.up (RefS.up ‹RefS _ _ _› ‹Below _ _ _›) ‹Below _ _ _›) ‹Below _ _ _›) ‹Below _ _ _›)) hv (by omega) (by omega)).mono ?_; rintro e w9 ⟨cc, rfl, hc1, hc2, hbw⟩; have hcs := hc1 hX; clear hc1 hc2))
        have hgr := ‹_ ∧ Grew w4 _›.2
        replace ha := ha.grew hgr
        replace hx := hx.grew hgr
        replace hEa := ent_grew hgr hEa
        replace hEx := ent_grew hgr hEx
        replace hg := hg.trans hgr
        clear mk hgr
        have chEa := box_cell hEa
        have chEx := box_cell hEx
        go_upto_region 9 with fail
        clear chEa chEx
        have mk : Hid (∀ w', Grew w9 w' → w'.cell? ⟨w2.heap.size, 0, none⟩ = some (.slice x.ao x.n x.c) ∧ Grew w9 w') :=
          fun w' hg => ⟨cell_grew hg hEx, hg⟩
        refine wp_region_held_drew (S := (fun w' => w'.cell? ⟨w2.heap.size, 0, none⟩ = some (.slice x.ao x.n x.c) ∧ Grew w9 w')) (by kernel_rfl) ?hSz1 (fun hHeld => ?restz1)
        case hSz1 => (try dsimp only); (first | exact mk.out _ (Grew.refl _).drew | exact mk.out _ (Grew.call hHeld.2 ‹Below _ _ _›))
        refine wpAnyH_take (i := 0) (oi := ?oiz2) (v := ?vz2) ?hiz2 (by kernel_rfl) (by kernel_rfl) (by kernel_rfl) ?hqz2 ?hyz2 hHeld ?restz2
        case hiz2 => simp only [List.getElem?_toArray, List.getElem?_cons_zero]; exact rfl
        case hqz2 => exact fun _ _ _ h => h
        case hyz2 => refine Or.inl ⟨by rfl, ?_⟩; intro w hSw; (try dsimp only at hSw); go_simp; try with_reducible rfl
        (try simp only [Act.put, List.setIfInBounds_toArray, List.set_cons_zero, List.set_cons_succ])
        refine wpAnyH_take (i := 1) (oi := ?oiz3) (v := ?vz3) ?hiz3 (by kernel_rfl) (by kernel_rfl) (by kernel_rfl) ?hqz3 ?hyz3 hHeld ?restz3
        case hiz3 => simp only [List.getElem?_toArray, List.getElem?_cons_succ, List.getElem?_cons_zero]; exact rfl
        case hqz3 => exact fun _ _ _ h => h
        case hyz3 => refine Or.inl ⟨by rfl, ?_⟩; intro w hSw; (try dsimp only at hSw); go_simp; try with_reducible rfl
        (try simp only [Act.put, List.setIfInBounds_toArray, List.set_cons_zero, List.set_cons_succ])
        refine wpAnyH_take (i := 2) (oi := ?oiz4) (v := ?vz4) ?hiz4 (by kernel_rfl) (by kernel_rfl) (by kernel_rfl) ?hqz4 ?hyz4 hHeld ?restz4
        case hiz4 => simp only [List.getElem?_toArray, List.getElem?_cons_succ, List.getElem?_cons_zero]; exact rfl
        case hqz4 => exact fun _ _ _ h => h
        case hyz4 => refine Or.inl ⟨by rfl, ?_⟩; intro w hSw; (try dsimp only at hSw); go_simp; try with_reducible rfl
        (try simp only [Act.put, List.setIfInBounds_toArray, List.set_cons_zero, List.set_cons_succ])
        refine wpAnyH_take (i := 3) (oi := ?oiz5) (v := ?vz5) ?hiz5 (by kernel_rfl) (by kernel_rfl) (by kernel_rfl) ?hqz5 ?hyz5 hHeld ?restz5
        case hiz5 => simp only [List.getElem?_toArray, List.getElem?_cons_succ, List.getElem?_cons_zero]; exact rfl
        case hqz5 => exact fun _ _ _ h => h
        case hyz5 => refine Or.inl ⟨by rfl, ?_⟩; intro w hSw; (try dsimp only at hSw); go_simp; try with_reducible rfl
        (try simp only [Act.put, List.setIfInBounds_toArray, List.set_cons_zero, List.set_cons_succ])
        refine wpAnyH_take (i := 4) (oi := ?oiz6) (v := ?vz6) ?hiz6 (by kernel_rfl) (by kernel_rfl) (by kernel_rfl) ?hqz6 ?hyz6 hHeld ?restz6
        case hiz6 => simp only [List.getElem?_toArray, List.getElem?_cons_succ, List.getElem?_cons_zero]; exact rfl
        case hqz6 => exact fun _ _ _ h => h
        case hyz6 => refine Or.inl ⟨by rfl, ?_⟩; intro w hSw; (try dsimp only at hSw); go_simp; try with_reducible rfl
        (try simp only [Act.put, List.setIfInBounds_toArray, List.set_cons_zero, List.set_cons_succ])
        refine wpAnyH_take (i := 5) (oi := ?oiz7) (v := ?vz7) ?hiz7 (by kernel_rfl) (by kernel_rfl) (by kernel_rfl) ?hqz7 ?hyz7 hHeld ?restz7
        case hiz7 => simp only [List.getElem?_toArray, List.getElem?_cons_succ, List.getElem?_cons_zero]; exact rfl
        case hqz7 => exact fun _ _ _ h => h
        case hyz7 => refine Or.inl ⟨by rfl, ?_⟩; intro w hSw; (try dsimp only at hSw); go_simp; try with_reducible rfl
        (try simp only [Act.put, List.setIfInBounds_toArray, List.set_cons_zero, List.set_cons_succ])
        refine wpAnyH_take (i := 6) (oi := ?oiz8) (v := ?vz8) ?hiz8 (by kernel_rfl) (by kernel_rfl) (by kernel_rfl) ?hqz8 ?hyz8 hHeld ?restz8
        case hiz8 => simp only [List.getElem?_toArray, List.getElem?_cons_succ, List.getElem?_cons_zero]; exact rfl
        case hqz8 => exact fun _ _ _ h => h
        case hyz8 => refine Or.inl ⟨by rfl, ?_⟩; intro w hSw; (try dsimp only at hSw); go_simp; try with_reducible rfl
        (try simp only [Act.put, List.setIfInBounds_toArray, List.set_cons_zero, List.set_cons_succ])
        refine wpAnyH_take (i := 8) (oi := ?oiz9) (v := ?vz9) ?hiz9 (by kernel_rfl) (by kernel_rfl) (by kernel_rfl) ?hqz9 ?hyz9 hHeld ?restz9
        case hiz9 => simp only [List.getElem?_toArray, List.getElem?_cons_succ, List.getElem?_cons_zero]; exact rfl
        case hqz9 => exact fun _ _ _ h => h
        case hyz9 => refine Or.inl ⟨by rfl, ?_⟩; intro w hSw; (try dsimp only at hSw); go_simp; try with_reducible rfl
        (try simp only [Act.put, List.setIfInBounds_toArray, List.set_cons_zero, List.set_cons_succ])
        refine wpAnyH_ready (rs := [7]) (by kernel_rfl) (by simp) ?_
        refine AllReadyH.cons (o := ?oiz10) ?hiz10 (fun K hK => ?stepz10) AllReadyH.nil
        case hiz10 => simp only [List.getElem?_toArray, List.getElem?_cons_succ, List.getElem?_cons_zero]; exact rfl
        go_simp
        (go_at_call 22; refine (of_spec X _ hX).mono ?_; rintro e w10 ⟨o, rfl, ho, hon, hb10⟩)
        refine hK.out _ _ ?hSz10 (fun hHeld' => ?restz10)
        case hSz10 => (try dsimp only); (first | exact mk.out _ (Grew.refl _).drew | exact mk.out _ (Grew.call hHeld.2 ‹Below _ _ _›))
        clear hK K hHeld
        have hHeld := hHeld'
        clear hHeld'
        (try simp only [Act.put, List.setIfInBounds_toArray, List.set_cons_zero, List.set_cons_succ])
        refine wpAnyH_ready (rs := [9]) (by kernel_rfl) (by simp) ?_
        refine AllReadyH.cons (o := ?oiz11) ?hiz11 (fun K hK => ?stepz11) AllReadyH.nil
        case hiz11 => simp only [List.getElem?_toArray, List.getElem?_cons_succ, List.getElem?_cons_zero]; exact rfl
        go_simp
        (go_at_call 21; refine (same_spec ho (hx.grew hHeld.2) (by omega) (by omega)).mono ?_; rintro e w11 ⟨rfl, hb11⟩)
        refine hK.out _ _ ?hSz11 (fun hHeld' => ?restz11)
        case hSz11 => (try dsimp only); (first | exact mk.out _ (Grew.refl _).drew | exact mk.out _ (Grew.call hHeld.2 ‹Below _ _ _›))
        clear hK K hHeld
        have hHeld := hHeld'
        clear hHeld'
        (try simp only [Act.put, List.setIfInBounds_toArray, List.set_cons_zero, List.set_cons_succ])
        refine wpAnyH_take (i := 10) (oi := ?oiz12) (v := ?vz12) ?hiz12 (by kernel_rfl) (by kernel_rfl) (by kernel_rfl) ?hqz12 ?hyz12 hHeld ?restz12
        case hiz12 => simp only [List.getElem?_toArray, List.getElem?_cons_succ, List.getElem?_cons_zero]; exact rfl
        case hqz12 => exact fun _ _ _ h => h
        case hyz12 => refine Or.inl ⟨by rfl, ?_⟩; intro w hSw; (try dsimp only at hSw); go_simp; try with_reducible rfl
        (try simp only [Act.put, List.setIfInBounds_toArray, List.set_cons_zero, List.set_cons_succ])
        refine wpAnyH_take (i := 11) (oi := ?oiz13) (v := ?vz13) ?hiz13 (by kernel_rfl) (by kernel_rfl) (by kernel_rfl) ?hqz13 ?hyz13 hHeld ?restz13
        case hiz13 => simp only [List.getElem?_toArray, List.getElem?_cons_succ, List.getElem?_cons_zero]; exact rfl
        case hqz13 => exact fun _ _ _ h => h
        case hyz13 => refine Or.inl ⟨by rfl, ?_⟩; intro w hSw; (try dsimp only at hSw); go_simp; try with_reducible rfl
        (try simp only [Act.put, List.setIfInBounds_toArray, List.set_cons_zero, List.set_cons_succ])
        refine wpAnyH_take (i := 12) (oi := ?oiz14) (v := ?vz14) ?hiz14 (by kernel_rfl) (by kernel_rfl) (by kernel_rfl) ?hqz14 ?hyz14 hHeld ?restz14
        case hiz14 => simp only [List.getElem?_toArray, List.getElem?_cons_succ, List.getElem?_cons_zero]; exact rfl
        case hqz14 => exact fun _ _ _ h => h
        case hyz14 => refine Or.inl ⟨by rfl, ?_⟩; intro w hSw; (try dsimp only at hSw); go_simp; try with_reducible rfl
        (try simp only [Act.put, List.setIfInBounds_toArray, List.set_cons_zero, List.set_cons_succ])
        refine wpAnyH_take (i := 13) (oi := ?oiz15) (v := ?vz15) ?hiz15 (by kernel_rfl) (by kernel_rfl) (by kernel_rfl) ?hqz15 ?hyz15 hHeld ?restz15
        case hiz15 => simp only [List.getElem?_toArray, List.getElem?_cons_succ, List.getElem?_cons_zero]; exact rfl
        case hqz15 => exact fun _ _ _ h => h
        case hyz15 => refine Or.inl ⟨by rfl, ?_⟩; intro w hSw; (try dsimp only at hSw); go_simp; try with_reducible rfl
        (try simp only [Act.put, List.setIfInBounds_toArray, List.set_cons_zero, List.set_cons_succ])
        refine wpAnyH_take (i := 14) (oi := ?oiz16) (v := ?vz16) ?hiz16 (by kernel_rfl) (by kernel_rfl) (by kernel_rfl) ?hqz16 ?hyz16 hHeld ?restz16
        case hiz16 => simp only [List.getElem?_toArray, List.getElem?_cons_succ, List.getElem?_cons_zero]; exact rfl
        case hqz16 => exact fun _ _ _ h => h
        case hyz16 => refine Or.inl ⟨by rfl, ?_⟩; intro w hSw; (try dsimp only at hSw); go_simp; try with_reducible rfl
        (try simp only [Act.put, List.setIfInBounds_toArray, List.set_cons_zero, List.set_cons_succ])
        refine wpAnyH_take (i := 15) (oi := ?oiz17) (v := ?vz17) ?hiz17 (by kernel_rfl) (by kernel_rfl) (by kernel_rfl) ?hqz17 ?hyz17 hHeld ?restz17
        case hiz17 => simp only [List.getElem?_toArray, List.getElem?_cons_succ, List.getElem?_cons_zero]; exact rfl
        case hqz17 => exact fun _ _ _ h => h
        case hyz17 => refine Or.inl ⟨by rfl, ?_⟩; intro w hSw; (try dsimp only at hSw); go_simp; try with_reducible rfl
        (try simp only [Act.put, List.setIfInBounds_toArray, List.set_cons_zero, List.set_cons_succ])
        refine wpAnyH_take (i := 16) (oi := ?oiz18) (v := ?vz18) ?hiz18 (by kernel_rfl) (by kernel_rfl) (by kernel_rfl) ?hqz18 ?hyz18 hHeld ?restz18
        case hiz18 => simp only [List.getElem?_toArray, List.getElem?_cons_succ, List.getElem?_cons_zero]; exact rfl
        case hqz18 => exact fun _ _ _ h => h
        case hyz18 => refine Or.inl ⟨by rfl, ?_⟩; intro w hSw; (try dsimp only at hSw); go_simp; try with_reducible rfl
        (try simp only [Act.put, List.setIfInBounds_toArray, List.set_cons_zero, List.set_cons_succ])
        refine wpAnyH_take (i := 17) (oi := ?oiz19) (v := undef) ?hiz19 (by kernel_rfl) (by kernel_rfl) (by kernel_rfl) ?hqz19 ?hyz19 hHeld ?restz19
        case hiz19 => simp only [List.getElem?_toArray, List.getElem?_cons_succ, List.getElem?_cons_zero]; exact rfl
        case hqz19 => exact fun _ _ _ h => h
        case hyz19 => exact Or.inr ⟨by rfl, rfl⟩
        (try simp only [Act.put, List.setIfInBounds_toArray, List.set_cons_zero, List.set_cons_succ])
        refine wpAnyH_take (i := 18) (oi := ?oiz20) (v := undef) ?hiz20 (by kernel_rfl) (by kernel_rfl) (by kernel_rfl) ?hqz20 ?hyz20 hHeld ?restz20
        case hiz20 => simp only [List.getElem?_toArray, List.getElem?_cons_succ, List.getElem?_cons_zero]; exact rfl
        case hqz20 => exact fun _ _ _ h => h
        case hyz20 => exact Or.inr ⟨by rfl, rfl⟩
        (try simp only [Act.put, List.setIfInBounds_toArray, List.set_cons_zero, List.set_cons_succ])
        refine wpAnyH_take (i := 19) (oi := ?oiz21) (v := ?vz21) ?hiz21 (by kernel_rfl) (by kernel_rfl) (by kernel_rfl) ?hqz21 ?hyz21 hHeld ?restz21
        case hiz21 => simp only [List.getElem?_toArray, List.getElem?_cons_succ, List.getElem?_cons_zero]; exact rfl
        case hqz21 => exact fun _ _ _ h => h
        case hyz21 => refine Or.inl ⟨by rfl, ?_⟩; intro w hSw; (try dsimp only at hSw); go_simp; try with_reducible rfl
        (try simp only [Act.put, List.setIfInBounds_toArray, List.set_cons_zero, List.set_cons_succ])
        refine wpAnyH_take (i := 20) (oi := ?oiz22) (v := ?vz22) ?hiz22 (by kernel_rfl) (by kernel_rfl) (by kernel_rfl) ?hqz22 ?hyz22 hHeld ?restz22
        case hiz22 => simp only [List.getElem?_toArray, List.getElem?_cons_succ, List.getElem?_cons_zero]; exact rfl
        case hqz22 => exact fun _ _ _ h => h
        case hyz22 => refine Or.inl ⟨by rfl, ?_⟩; intro w hSw; (try dsimp only at hSw); go_simp; try with_reducible rfl
        (try simp only [Act.put, List.setIfInBounds_toArray, List.set_cons_zero, List.set_cons_succ])
        refine wpAnyH_done (by kernel_rfl) ?_ _
        have hgr : Grew w9 w11 := hHeld.2
        replace ha := ha.grew hgr
        replace hx := hx.grew hgr
        replace hEa := ent_grew hgr hEa
        replace hEx := ent_grew hgr hEx
        replace hg := hg.trans hgr
        clear hgr mk hHeld ho
        go_upto_region 11 with fail
        have mk : Hid (∀ w', Grew w11 w' → w'.cell? ⟨w1.heap.size, 0, none⟩ = some (.slice a.ao a.n a.c) ∧ w'.cell? ⟨w2.heap.size, 0, none⟩ = some (.slice x.ao x.n x.c) ∧ Grew w11 w') :=
          fun w' hg => ⟨cell_grew hg hEa, cell_grew hg hEx, hg⟩
        clear hEa hEx
        refine wp_region_held_drew (S := (fun w' => w'.cell? ⟨w1.heap.size, 0, none⟩ = some (.slice a.ao a.n a.c) ∧ w'.cell? ⟨w2.heap.size, 0, none⟩ = some (.slice x.ao x.n x.c) ∧ Grew w11 w')) (by kernel_rfl) ?hSz23 (fun hHeld => ?restz23)
        case hSz23 => (try dsimp only); (first | exact mk.out _ (Grew.refl _).drew | exact mk.out _ (Grew.call hHeld.2.2 ‹Below _ _ _›))
        refine wpAnyH_take (i := 0) (oi := ?oiz24) (v := ?vz24) ?hiz24 (by kernel_rfl) (by kernel_rfl) (by kernel_rfl) ?hqz24 ?hyz24 hHeld ?restz24
        case hiz24 => simp only [List.getElem?_toArray, List.getElem?_cons_zero]; exact rfl
        case hqz24 => exact fun _ _ _ h => h
        case hyz24 => refine Or.inl ⟨by rfl, ?_⟩; intro w hSw; (try dsimp only at hSw); go_simp; try with_reducible rfl
        (try simp only [Act.put, List.setIfInBounds_toArray, List.set_cons_zero, List.set_cons_succ])
        refine wpAnyH_take (i := 2) (oi := ?oiz25) (v := ?vz25) ?hiz25 (by kernel_rfl) (by kernel_rfl) (by kernel_rfl) ?hqz25 ?hyz25 hHeld ?restz25
        case hiz25 => simp only [List.getElem?_toArray, List.getElem?_cons_succ, List.getElem?_cons_zero]; exact rfl
        case hqz25 => exact fun _ _ _ h => h
        case hyz25 => refine Or.inl ⟨by rfl, ?_⟩; intro w hSw; (try dsimp only at hSw); go_simp; try with_reducible rfl
        (try simp only [Act.put, List.setIfInBounds_toArray, List.set_cons_zero, List.set_cons_succ])
        refine wpAnyH_ready (rs := [1]) (by kernel_rfl) (by simp) ?_
        refine AllReadyH.cons (o := ?oiz26) ?hiz26 (fun K hK => ?stepz26) AllReadyH.nil
        case hiz26 => simp only [List.getElem?_toArray, List.getElem?_cons_succ, List.getElem?_cons_zero]; exact rfl
        go_simp
        (go_at_call 17; refine (text_spec (ha.grew hHeld.2.2) (by omega)).mono ?_; rintro e w12 ⟨rfl, hb12⟩; rw [HT.out])
        refine hK.out _ _ ?hSz26 (fun hHeld' => ?restz26)
        case hSz26 => (try dsimp only); (first | exact mk.out _ (Grew.refl _).drew | exact mk.out _ (Grew.call hHeld.2.2 ‹Below _ _ _›))
        clear hK K hHeld
        have hHeld := hHeld'
        clear hHeld'
        (try simp only [Act.put, List.setIfInBounds_toArray, List.set_cons_zero, List.set_cons_succ])
        refine wpAnyH_take (i := 3) (oi := ?oiz27) (v := ?vz27) ?hiz27 (by kernel_rfl) (by kernel_rfl) (by kernel_rfl) ?hqz27 ?hyz27 hHeld ?restz27
        case hiz27 => simp only [List.getElem?_toArray, List.getElem?_cons_succ, List.getElem?_cons_zero]; exact rfl
        case hqz27 => exact fun _ _ _ h => h
        case hyz27 => refine Or.inl ⟨by rfl, ?_⟩; intro w hSw; (try dsimp only at hSw); go_simp; try with_reducible rfl
        (try simp only [Act.put, List.setIfInBounds_toArray, List.set_cons_zero, List.set_cons_succ])
        refine wpAnyH_take (i := 4) (oi := ?oiz28) (v := ?vz28) ?hiz28 (by kernel_rfl) (by kernel_rfl) (by kernel_rfl) ?hqz28 ?hyz28 hHeld ?restz28
        case hiz28 => simp only [List.getElem?_toArray, List.getElem?_cons_succ, List.getElem?_cons_zero]; exact rfl
        case hqz28 => exact fun _ _ _ h => h
        case hyz28 => refine Or.inl ⟨by rfl, ?_⟩; intro w hSw; (try dsimp only at hSw); go_simp; try with_reducible rfl
        (try simp only [Act.put, List.setIfInBounds_toArray, List.set_cons_zero, List.set_cons_succ])
        refine wpAnyH_take (i := 5) (oi := ?oiz29) (v := ?vz29) ?hiz29 (by kernel_rfl) (by kernel_rfl) (by kernel_rfl) ?hqz29 ?hyz29 hHeld ?restz29
        case hiz29 => simp only [List.getElem?_toArray, List.getElem?_cons_succ, List.getElem?_cons_zero]; exact rfl
        case hqz29 => exact fun _ _ _ h => h
        case hyz29 => refine Or.inl ⟨by rfl, ?_⟩; intro w hSw; (try dsimp only at hSw); go_simp; try with_reducible rfl
        (try simp only [Act.put, List.setIfInBounds_toArray, List.set_cons_zero, List.set_cons_succ])
        refine wpAnyH_take (i := 6) (oi := ?oiz30) (v := ?vz30) ?hiz30 (by kernel_rfl) (by kernel_rfl) (by kernel_rfl) ?hqz30 ?hyz30 hHeld ?restz30
        case hiz30 => simp only [List.getElem?_toArray, List.getElem?_cons_succ, List.getElem?_cons_zero]; exact rfl
        case hqz30 => exact fun _ _ _ h => h
        case hyz30 => refine Or.inl ⟨by rfl, ?_⟩; intro w hSw; (try dsimp only at hSw); go_simp; try with_reducible rfl
        (try simp only [Act.put, List.setIfInBounds_toArray, List.set_cons_zero, List.set_cons_succ])
        refine wpAnyH_take (i := 7) (oi := ?oiz31) (v := ?vz31) ?hiz31 (by kernel_rfl) (by kernel_rfl) (by kernel_rfl) ?hqz31 ?hyz31 hHeld ?restz31
        case hiz31 => simp only [List.getElem?_toArray, List.getElem?_cons_succ, List.getElem?_cons_zero]; exact rfl
        case hqz31 => exact fun _ _ _ h => h
        case hyz31 => refine Or.inl ⟨by rfl, ?_⟩; intro w hSw; (try dsimp only at hSw); go_simp; try with_reducible rfl
        (try simp only [Act.put, List.setIfInBounds_toArray, List.set_cons_zero, List.set_cons_succ])
        refine wpAnyH_take (i := 8) (oi := ?oiz32) (v := ?vz32) ?hiz32 (by kernel_rfl) (by kernel_rfl) (by kernel_rfl) ?hqz32 ?hyz32 hHeld ?restz32
        case hiz32 => simp only [List.getElem?_toArray, List.getElem?_cons_succ, List.getElem?_cons_zero]; exact rfl
        case hqz32 => exact fun _ _ _ h => h
        case hyz32 => refine Or.inl ⟨by rfl, ?_⟩; intro w hSw; (try dsimp only at hSw); go_simp; try with_reducible rfl
        (try simp only [Act.put, List.setIfInBounds_toArray, List.set_cons_zero, List.set_cons_succ])
        refine wpAnyH_take (i := 9) (oi := ?oiz33) (v := undef) ?hiz33 (by kernel_rfl) (by kernel_rfl) (by kernel_rfl) ?hqz33 ?hyz33 hHeld ?restz33
        case hiz33 => simp only [List.getElem?_toArray, List.getElem?_cons_succ, List.getElem?_cons_zero]; exact rfl
        case hqz33 => exact fun _ _ _ h => h
        case hyz33 => exact Or.inr ⟨by rfl, rfl⟩
        (try simp only [Act.put, List.setIfInBounds_toArray, List.set_cons_zero, List.set_cons_succ])
        refine wpAnyH_take (i := 10) (oi := ?oiz34) (v := undef) ?hiz34 (by kernel_rfl) (by kernel_rfl) (by kernel_rfl) ?hqz34 ?hyz34 hHeld ?restz34
        case hiz34 => simp only [List.getElem?_toArray, List.getElem?_cons_succ, List.getElem?_cons_zero]; exact rfl
        case hqz34 => exact fun _ _ _ h => h
        case hyz34 => exact Or.inr ⟨by rfl, rfl⟩
        (try simp only [Act.put, List.setIfInBounds_toArray, List.set_cons_zero, List.set_cons_succ])
        refine wpAnyH_take (i := 11) (oi := ?oiz35) (v := undef) ?hiz35 (by kernel_rfl) (by kernel_rfl) (by kernel_rfl) ?hqz35 ?hyz35 hHeld ?restz35
        case hiz35 => simp only [List.getElem?_toArray, List.getElem?_cons_succ, List.getElem?_cons_zero]; exact rfl
        case hqz35 => exact fun _ _ _ h => h
        case hyz35 => exact Or.inr ⟨by rfl, rfl⟩
        (try simp only [Act.put, List.setIfInBounds_toArray, List.set_cons_zero, List.set_cons_succ])
        refine wpAnyH_take (i := 12) (oi := ?oiz36) (v := undef) ?hiz36 (by kernel_rfl) (by kernel_rfl) (by kernel_rfl) ?hqz36 ?hyz36 hHeld ?restz36
        case hiz36 => simp only [List.getElem?_toArray, List.getElem?_cons_succ, List.getElem?_cons_zero]; exact rfl
        case hqz36 => exact fun _ _ _ h => h
        case hyz36 => exact Or.inr ⟨by rfl, rfl⟩
        (try simp only [Act.put, List.setIfInBounds_toArray, List.set_cons_zero, List.set_cons_succ])
        refine wpAnyH_take (i := 13) (oi := ?oiz37) (v := undef) ?hiz37 (by kernel_rfl) (by kernel_rfl) (by kernel_rfl) ?hqz37 ?hyz37 hHeld ?restz37
        case hiz37 => simp only [List.getElem?_toArray, List.getElem?_cons_succ, List.getElem?_cons_zero]; exact rfl
        case hqz37 => exact fun _ _ _ h => h
        case hyz37 => exact Or.inr ⟨by rfl, rfl⟩
        (try simp only [Act.put, List.setIfInBounds_toArray, List.set_cons_zero, List.set_cons_succ])
        refine wpAnyH_take (i := 14) (oi := ?oiz38) (v := ?vz38) ?hiz38 (by kernel_rfl) (by kernel_rfl) (by kernel_rfl) ?hqz38 ?hyz38 hHeld ?restz38
        case hiz38 => simp only [List.getElem?_toArray, List.getElem?_cons_succ, List.getElem?_cons_zero]; exact rfl
        case hqz38 => exact fun _ _ _ h => h
        case hyz38 => refine Or.inl ⟨by rfl, ?_⟩; intro w hSw; (try dsimp only at hSw); go_simp; try with_reducible rfl
        (try simp only [Act.put, List.setIfInBounds_toArray, List.set_cons_zero, List.set_cons_succ])
        refine wpAnyH_take (i := 15) (oi := ?oiz39) (v := ?vz39) ?hiz39 (by kernel_rfl) (by kernel_rfl) (by kernel_rfl) ?hqz39 ?hyz39 hHeld ?restz39
        case hiz39 => simp only [List.getElem?_toArray, List.getElem?_cons_succ, List.getElem?_cons_zero]; exact rfl
        case hqz39 => exact fun _ _ _ h => h
        case hyz39 => refine Or.inl ⟨by rfl, ?_⟩; intro w hSw; (try dsimp only at hSw); go_simp; try with_reducible rfl
        (try simp only [Act.put, List.setIfInBounds_toArray, List.set_cons_zero, List.set_cons_succ])
        refine wpAnyH_take (i := 16) (oi := ?oiz40) (v := ?vz40) ?hiz40 (by kernel_rfl) (by kernel_rfl) (by kernel_rfl) ?hqz40 ?hyz40 hHeld ?restz40
        case hiz40 => simp only [List.getElem?_toArray, List.getElem?_cons_succ, List.getElem?_cons_zero]; exact rfl
        case hqz40 => exact fun _ _ _ h => h
        case hyz40 => refine Or.inl ⟨by rfl, ?_⟩; intro w hSw; (try dsimp only at hSw); go_simp; try with_reducible rfl
        (try simp only [Act.put, List.setIfInBounds_toArray, List.set_cons_zero, List.set_cons_succ])
        refine wpAnyH_done (by kernel_rfl) ?_ _
        have hgr := hg.trans hHeld.2.2
        clear hHeld mk
        go_wp2
        go_ret
        exact ⟨rfl, hgr⟩
      · have hlI : decide ((1000 : Int) < (s.size : Int)) = false := by simp; omega
        clear hlong
        go_enter Try.func3, Try.ntmps3
        have hg := Grew.refl w
        go_wp2_with fail
        refine (parse_spec s _ hs).mono ?_
        rintro e w1 ⟨a, rfl, ha, -, han, hb1⟩
        have ha1 : Grew w1 ((w1.alloc (.cells #[.slice a.ao a.n a.c] 24))) := (Grew.refl w1).alloc (.cells #[.slice a.ao a.n a.c] 24)
        have hg1' := (Grew.call (Grew.refl _) hb1).trans ha1
        replace ha := ha.grew ha1
        have hEa := ent_new w1 (.cells #[.slice a.ao a.n a.c] 24)
        replace hg := hg.trans hg1'
        clear hg1' ha1 hb1
        have chEa := box_cell hEa
        go_wp2_with fail
        generalize (w1.alloc (.cells #[.slice a.ao a.n a.c] 24)) = W1 at *
        refine (rparse_spec s _ hs).mono ?_
        rintro e w2 ⟨x, rfl, hx, -, hxn, hb2⟩
        have ha2 : Grew w2 ((w2.alloc (.cells #[.slice x.ao x.n x.c] 30))) := (Grew.refl w2).alloc (.cells #[.slice x.ao x.n x.c] 30)
        have hg2' := (Grew.call (Grew.refl _) hb2).trans ha2
        replace ha := ha.grew hg2'
        replace hEa := ent_grew hg2' hEa
        replace hx := hx.grew ha2
        have hEx := ent_new w2 (.cells #[.slice x.ao x.n x.c] 30)
        replace hg := hg.trans hg2'
        clear hg2' ha2 hb2 chEa
        have chEa := box_cell hEa
        have chEx := box_cell hEx
        go_wp2_with fail
        generalize (w2.alloc (.cells #[.slice x.ao x.n x.c] 30)) = W2 at *
        refine (known_spec _).mono ?_
        rintro e w3 ⟨rfl, hb3⟩
        have ha3 : Grew w3 (w3) := Grew.refl w3
        have hg3' := (Grew.call (Grew.refl _) hb3).trans ha3
        replace ha := ha.grew hg3'
        replace hx := hx.grew hg3'
        replace hEa := ent_grew hg3' hEa
        replace hEx := ent_grew hg3' hEx
        replace hg := hg.trans hg3'
        clear hg3' ha3 hb3 chEa chEx
        have chEa := box_cell hEa
        have chEx := box_cell hEx
        have HT := Lib.hid (perr_zero hp)
        clear hp
        generalize pval s = X at *
        go_wp2_with fail
        refine (word_small ha hX).mono ?_
        rintro e w4 ⟨rfl, hb4⟩
        have ha4 : Grew w4 (w4) := Grew.refl w4
        have hg4' := (Grew.call (Grew.refl _) hb4).trans ha4
        replace ha := ha.grew hg4'
        replace hx := hx.grew hg4'
        replace hEa := ent_grew hg4' hEa
        replace hEx := ent_grew hg4' hEx
        replace hg := hg.trans hg4'
        clear hg4' ha4 hb4 chEa chEx
        have chEa := box_cell hEa
        have chEx := box_cell hEx
        go_upto_region 8 with fail
        clear chEa chEx
        have mk : Hid (∀ w', Grew w4 w' → w'.cell? ⟨w2.heap.size, 0, none⟩ = some (.slice x.ao x.n x.c) ∧ Grew w4 w') :=
          fun w' hg => ⟨cell_grew hg hEx, hg⟩
        go_region_held3 (fun w' => w'.cell? ⟨w2.heap.size, 0, none⟩ = some (.slice x.ao x.n x.c) ∧ Grew w4 w')
          (first
            | exact mk.out _ (Grew.refl _).drew
            | exact mk.out _ (Grew.call (‹_ ∧ Grew w4 _›.2) ‹Below _ _ _›))
          (first
            | (go_at_call 20; refine (rtwo64 _).mono ?_; rintro e w9 ⟨v, rfl, hv, hvn, hbw⟩)
            | (go_at_call 19; refine (rcmp_ord (by with_reducible first | exact hx.grew (‹_ ∧ Grew w4 _›.2) | exact ‹RefS _ _ _› | exact (RefS.up ‹RefS _ _ _› ‹Below _ _ _›) | exact (RefS.up (RefS.up ‹RefS _ _ _› ‹Below _ _ _›) ‹Below _ _ _›) | exact (RefS.up (RefS.up (RefS.up ‹RefS _ _ _› ‹Below _ _ _›) ‹Below _ _ _›) ‹Below _ _ _›) | exact (RefS.up (RefS.up (RefS.up (RefS.up ‹RefS _ _ _› ‹Below _ _ _›) ‹Below _ _ _›) ‹Below _ _ _›) ‹Below _ _ _›)) hv (by omega) (by omega)).mono ?_; rintro e w9 ⟨cc, rfl, hc1, hc2, hbw⟩; have hcs := hc1 hX; clear hc1 hc2))
        have hgr := ‹_ ∧ Grew w4 _›.2
        replace ha := ha.grew hgr
        replace hx := hx.grew hgr
        replace hEa := ent_grew hgr hEa
        replace hEx := ent_grew hgr hEx
        replace hg := hg.trans hgr
        clear mk hgr
        have chEa := box_cell hEa
        have chEx := box_cell hEx
        go_upto_region 9 with fail
        clear chEa chEx
        have mk : Hid (∀ w', Grew w9 w' → w'.cell? ⟨w2.heap.size, 0, none⟩ = some (.slice x.ao x.n x.c) ∧ Grew w9 w') :=
          fun w' hg => ⟨cell_grew hg hEx, hg⟩
        refine wp_region_held_drew (S := (fun w' => w'.cell? ⟨w2.heap.size, 0, none⟩ = some (.slice x.ao x.n x.c) ∧ Grew w9 w')) (by kernel_rfl) ?hSz41 (fun hHeld => ?restz41)
        case hSz41 => (try dsimp only); (first | exact mk.out _ (Grew.refl _).drew | exact mk.out _ (Grew.call hHeld.2 ‹Below _ _ _›))
        refine wpAnyH_take (i := 0) (oi := ?oiz42) (v := ?vz42) ?hiz42 (by kernel_rfl) (by kernel_rfl) (by kernel_rfl) ?hqz42 ?hyz42 hHeld ?restz42
        case hiz42 => simp only [List.getElem?_toArray, List.getElem?_cons_zero]; exact rfl
        case hqz42 => exact fun _ _ _ h => h
        case hyz42 => refine Or.inl ⟨by rfl, ?_⟩; intro w hSw; (try dsimp only at hSw); go_simp; try with_reducible rfl
        (try simp only [Act.put, List.setIfInBounds_toArray, List.set_cons_zero, List.set_cons_succ])
        refine wpAnyH_take (i := 1) (oi := ?oiz43) (v := ?vz43) ?hiz43 (by kernel_rfl) (by kernel_rfl) (by kernel_rfl) ?hqz43 ?hyz43 hHeld ?restz43
        case hiz43 => simp only [List.getElem?_toArray, List.getElem?_cons_succ, List.getElem?_cons_zero]; exact rfl
        case hqz43 => exact fun _ _ _ h => h
        case hyz43 => refine Or.inl ⟨by rfl, ?_⟩; intro w hSw; (try dsimp only at hSw); go_simp; try with_reducible rfl
        (try simp only [Act.put, List.setIfInBounds_toArray, List.set_cons_zero, List.set_cons_succ])
        refine wpAnyH_take (i := 2) (oi := ?oiz44) (v := ?vz44) ?hiz44 (by kernel_rfl) (by kernel_rfl) (by kernel_rfl) ?hqz44 ?hyz44 hHeld ?restz44
        case hiz44 => simp only [List.getElem?_toArray, List.getElem?_cons_succ, List.getElem?_cons_zero]; exact rfl
        case hqz44 => exact fun _ _ _ h => h
        case hyz44 => refine Or.inl ⟨by rfl, ?_⟩; intro w hSw; (try dsimp only at hSw); go_simp; try with_reducible rfl
        (try simp only [Act.put, List.setIfInBounds_toArray, List.set_cons_zero, List.set_cons_succ])
        refine wpAnyH_take (i := 3) (oi := ?oiz45) (v := ?vz45) ?hiz45 (by kernel_rfl) (by kernel_rfl) (by kernel_rfl) ?hqz45 ?hyz45 hHeld ?restz45
        case hiz45 => simp only [List.getElem?_toArray, List.getElem?_cons_succ, List.getElem?_cons_zero]; exact rfl
        case hqz45 => exact fun _ _ _ h => h
        case hyz45 => refine Or.inl ⟨by rfl, ?_⟩; intro w hSw; (try dsimp only at hSw); go_simp; try with_reducible rfl
        (try simp only [Act.put, List.setIfInBounds_toArray, List.set_cons_zero, List.set_cons_succ])
        refine wpAnyH_take (i := 4) (oi := ?oiz46) (v := ?vz46) ?hiz46 (by kernel_rfl) (by kernel_rfl) (by kernel_rfl) ?hqz46 ?hyz46 hHeld ?restz46
        case hiz46 => simp only [List.getElem?_toArray, List.getElem?_cons_succ, List.getElem?_cons_zero]; exact rfl
        case hqz46 => exact fun _ _ _ h => h
        case hyz46 => refine Or.inl ⟨by rfl, ?_⟩; intro w hSw; (try dsimp only at hSw); go_simp; try with_reducible rfl
        (try simp only [Act.put, List.setIfInBounds_toArray, List.set_cons_zero, List.set_cons_succ])
        refine wpAnyH_take (i := 5) (oi := ?oiz47) (v := ?vz47) ?hiz47 (by kernel_rfl) (by kernel_rfl) (by kernel_rfl) ?hqz47 ?hyz47 hHeld ?restz47
        case hiz47 => simp only [List.getElem?_toArray, List.getElem?_cons_succ, List.getElem?_cons_zero]; exact rfl
        case hqz47 => exact fun _ _ _ h => h
        case hyz47 => refine Or.inl ⟨by rfl, ?_⟩; intro w hSw; (try dsimp only at hSw); go_simp; try with_reducible rfl
        (try simp only [Act.put, List.setIfInBounds_toArray, List.set_cons_zero, List.set_cons_succ])
        refine wpAnyH_take (i := 6) (oi := ?oiz48) (v := ?vz48) ?hiz48 (by kernel_rfl) (by kernel_rfl) (by kernel_rfl) ?hqz48 ?hyz48 hHeld ?restz48
        case hiz48 => simp only [List.getElem?_toArray, List.getElem?_cons_succ, List.getElem?_cons_zero]; exact rfl
        case hqz48 => exact fun _ _ _ h => h
        case hyz48 => refine Or.inl ⟨by rfl, ?_⟩; intro w hSw; (try dsimp only at hSw); go_simp; try with_reducible rfl
        (try simp only [Act.put, List.setIfInBounds_toArray, List.set_cons_zero, List.set_cons_succ])
        refine wpAnyH_take (i := 8) (oi := ?oiz49) (v := ?vz49) ?hiz49 (by kernel_rfl) (by kernel_rfl) (by kernel_rfl) ?hqz49 ?hyz49 hHeld ?restz49
        case hiz49 => simp only [List.getElem?_toArray, List.getElem?_cons_succ, List.getElem?_cons_zero]; exact rfl
        case hqz49 => exact fun _ _ _ h => h
        case hyz49 => refine Or.inl ⟨by rfl, ?_⟩; intro w hSw; (try dsimp only at hSw); go_simp; try with_reducible rfl
        (try simp only [Act.put, List.setIfInBounds_toArray, List.set_cons_zero, List.set_cons_succ])
        refine wpAnyH_ready (rs := [7]) (by kernel_rfl) (by simp) ?_
        refine AllReadyH.cons (o := ?oiz50) ?hiz50 (fun K hK => ?stepz50) AllReadyH.nil
        case hiz50 => simp only [List.getElem?_toArray, List.getElem?_cons_succ, List.getElem?_cons_zero]; exact rfl
        go_simp
        (go_at_call 22; refine (of_spec X _ hX).mono ?_; rintro e w10 ⟨o, rfl, ho, hon, hb10⟩)
        refine hK.out _ _ ?hSz50 (fun hHeld' => ?restz50)
        case hSz50 => (try dsimp only); (first | exact mk.out _ (Grew.refl _).drew | exact mk.out _ (Grew.call hHeld.2 ‹Below _ _ _›))
        clear hK K hHeld
        have hHeld := hHeld'
        clear hHeld'
        (try simp only [Act.put, List.setIfInBounds_toArray, List.set_cons_zero, List.set_cons_succ])
        refine wpAnyH_ready (rs := [9]) (by kernel_rfl) (by simp) ?_
        refine AllReadyH.cons (o := ?oiz51) ?hiz51 (fun K hK => ?stepz51) AllReadyH.nil
        case hiz51 => simp only [List.getElem?_toArray, List.getElem?_cons_succ, List.getElem?_cons_zero]; exact rfl
        go_simp
        (go_at_call 21; refine (same_spec ho (hx.grew hHeld.2) (by omega) (by omega)).mono ?_; rintro e w11 ⟨rfl, hb11⟩)
        refine hK.out _ _ ?hSz51 (fun hHeld' => ?restz51)
        case hSz51 => (try dsimp only); (first | exact mk.out _ (Grew.refl _).drew | exact mk.out _ (Grew.call hHeld.2 ‹Below _ _ _›))
        clear hK K hHeld
        have hHeld := hHeld'
        clear hHeld'
        (try simp only [Act.put, List.setIfInBounds_toArray, List.set_cons_zero, List.set_cons_succ])
        refine wpAnyH_take (i := 10) (oi := ?oiz52) (v := ?vz52) ?hiz52 (by kernel_rfl) (by kernel_rfl) (by kernel_rfl) ?hqz52 ?hyz52 hHeld ?restz52
        case hiz52 => simp only [List.getElem?_toArray, List.getElem?_cons_succ, List.getElem?_cons_zero]; exact rfl
        case hqz52 => exact fun _ _ _ h => h
        case hyz52 => refine Or.inl ⟨by rfl, ?_⟩; intro w hSw; (try dsimp only at hSw); go_simp; try with_reducible rfl
        (try simp only [Act.put, List.setIfInBounds_toArray, List.set_cons_zero, List.set_cons_succ])
        refine wpAnyH_take (i := 11) (oi := ?oiz53) (v := ?vz53) ?hiz53 (by kernel_rfl) (by kernel_rfl) (by kernel_rfl) ?hqz53 ?hyz53 hHeld ?restz53
        case hiz53 => simp only [List.getElem?_toArray, List.getElem?_cons_succ, List.getElem?_cons_zero]; exact rfl
        case hqz53 => exact fun _ _ _ h => h
        case hyz53 => refine Or.inl ⟨by rfl, ?_⟩; intro w hSw; (try dsimp only at hSw); go_simp; try with_reducible rfl
        (try simp only [Act.put, List.setIfInBounds_toArray, List.set_cons_zero, List.set_cons_succ])
        refine wpAnyH_take (i := 12) (oi := ?oiz54) (v := ?vz54) ?hiz54 (by kernel_rfl) (by kernel_rfl) (by kernel_rfl) ?hqz54 ?hyz54 hHeld ?restz54
        case hiz54 => simp only [List.getElem?_toArray, List.getElem?_cons_succ, List.getElem?_cons_zero]; exact rfl
        case hqz54 => exact fun _ _ _ h => h
        case hyz54 => refine Or.inl ⟨by rfl, ?_⟩; intro w hSw; (try dsimp only at hSw); go_simp; try with_reducible rfl
        (try simp only [Act.put, List.setIfInBounds_toArray, List.set_cons_zero, List.set_cons_succ])
        refine wpAnyH_take (i := 13) (oi := ?oiz55) (v := ?vz55) ?hiz55 (by kernel_rfl) (by kernel_rfl) (by kernel_rfl) ?hqz55 ?hyz55 hHeld ?restz55
        case hiz55 => simp only [List.getElem?_toArray, List.getElem?_cons_succ, List.getElem?_cons_zero]; exact rfl
        case hqz55 => exact fun _ _ _ h => h
        case hyz55 => refine Or.inl ⟨by rfl, ?_⟩; intro w hSw; (try dsimp only at hSw); go_simp; try with_reducible rfl
        (try simp only [Act.put, List.setIfInBounds_toArray, List.set_cons_zero, List.set_cons_succ])
        refine wpAnyH_take (i := 14) (oi := ?oiz56) (v := ?vz56) ?hiz56 (by kernel_rfl) (by kernel_rfl) (by kernel_rfl) ?hqz56 ?hyz56 hHeld ?restz56
        case hiz56 => simp only [List.getElem?_toArray, List.getElem?_cons_succ, List.getElem?_cons_zero]; exact rfl
        case hqz56 => exact fun _ _ _ h => h
        case hyz56 => refine Or.inl ⟨by rfl, ?_⟩; intro w hSw; (try dsimp only at hSw); go_simp; try with_reducible rfl
        (try simp only [Act.put, List.setIfInBounds_toArray, List.set_cons_zero, List.set_cons_succ])
        refine wpAnyH_take (i := 15) (oi := ?oiz57) (v := ?vz57) ?hiz57 (by kernel_rfl) (by kernel_rfl) (by kernel_rfl) ?hqz57 ?hyz57 hHeld ?restz57
        case hiz57 => simp only [List.getElem?_toArray, List.getElem?_cons_succ, List.getElem?_cons_zero]; exact rfl
        case hqz57 => exact fun _ _ _ h => h
        case hyz57 => refine Or.inl ⟨by rfl, ?_⟩; intro w hSw; (try dsimp only at hSw); go_simp; try with_reducible rfl
        (try simp only [Act.put, List.setIfInBounds_toArray, List.set_cons_zero, List.set_cons_succ])
        refine wpAnyH_take (i := 16) (oi := ?oiz58) (v := ?vz58) ?hiz58 (by kernel_rfl) (by kernel_rfl) (by kernel_rfl) ?hqz58 ?hyz58 hHeld ?restz58
        case hiz58 => simp only [List.getElem?_toArray, List.getElem?_cons_succ, List.getElem?_cons_zero]; exact rfl
        case hqz58 => exact fun _ _ _ h => h
        case hyz58 => refine Or.inl ⟨by rfl, ?_⟩; intro w hSw; (try dsimp only at hSw); go_simp; try with_reducible rfl
        (try simp only [Act.put, List.setIfInBounds_toArray, List.set_cons_zero, List.set_cons_succ])
        refine wpAnyH_take (i := 17) (oi := ?oiz59) (v := undef) ?hiz59 (by kernel_rfl) (by kernel_rfl) (by kernel_rfl) ?hqz59 ?hyz59 hHeld ?restz59
        case hiz59 => simp only [List.getElem?_toArray, List.getElem?_cons_succ, List.getElem?_cons_zero]; exact rfl
        case hqz59 => exact fun _ _ _ h => h
        case hyz59 => exact Or.inr ⟨by rfl, rfl⟩
        (try simp only [Act.put, List.setIfInBounds_toArray, List.set_cons_zero, List.set_cons_succ])
        refine wpAnyH_take (i := 18) (oi := ?oiz60) (v := undef) ?hiz60 (by kernel_rfl) (by kernel_rfl) (by kernel_rfl) ?hqz60 ?hyz60 hHeld ?restz60
        case hiz60 => simp only [List.getElem?_toArray, List.getElem?_cons_succ, List.getElem?_cons_zero]; exact rfl
        case hqz60 => exact fun _ _ _ h => h
        case hyz60 => exact Or.inr ⟨by rfl, rfl⟩
        (try simp only [Act.put, List.setIfInBounds_toArray, List.set_cons_zero, List.set_cons_succ])
        refine wpAnyH_take (i := 19) (oi := ?oiz61) (v := ?vz61) ?hiz61 (by kernel_rfl) (by kernel_rfl) (by kernel_rfl) ?hqz61 ?hyz61 hHeld ?restz61
        case hiz61 => simp only [List.getElem?_toArray, List.getElem?_cons_succ, List.getElem?_cons_zero]; exact rfl
        case hqz61 => exact fun _ _ _ h => h
        case hyz61 => refine Or.inl ⟨by rfl, ?_⟩; intro w hSw; (try dsimp only at hSw); go_simp; try with_reducible rfl
        (try simp only [Act.put, List.setIfInBounds_toArray, List.set_cons_zero, List.set_cons_succ])
        refine wpAnyH_take (i := 20) (oi := ?oiz62) (v := ?vz62) ?hiz62 (by kernel_rfl) (by kernel_rfl) (by kernel_rfl) ?hqz62 ?hyz62 hHeld ?restz62
        case hiz62 => simp only [List.getElem?_toArray, List.getElem?_cons_succ, List.getElem?_cons_zero]; exact rfl
        case hqz62 => exact fun _ _ _ h => h
        case hyz62 => refine Or.inl ⟨by rfl, ?_⟩; intro w hSw; (try dsimp only at hSw); go_simp; try with_reducible rfl
        (try simp only [Act.put, List.setIfInBounds_toArray, List.set_cons_zero, List.set_cons_succ])
        refine wpAnyH_done (by kernel_rfl) ?_ _
        have hgr : Grew w9 w11 := hHeld.2
        replace ha := ha.grew hgr
        replace hx := hx.grew hgr
        replace hEa := ent_grew hgr hEa
        replace hEx := ent_grew hgr hEx
        replace hg := hg.trans hgr
        clear hgr mk hHeld ho
        go_upto_region 11 with fail
        have mk : Hid (∀ w', Grew w11 w' → w'.cell? ⟨w1.heap.size, 0, none⟩ = some (.slice a.ao a.n a.c) ∧ w'.cell? ⟨w2.heap.size, 0, none⟩ = some (.slice x.ao x.n x.c) ∧ Grew w11 w') :=
          fun w' hg => ⟨cell_grew hg hEa, cell_grew hg hEx, hg⟩
        clear hEa hEx
        refine wp_region_held_drew (S := (fun w' => w'.cell? ⟨w1.heap.size, 0, none⟩ = some (.slice a.ao a.n a.c) ∧ w'.cell? ⟨w2.heap.size, 0, none⟩ = some (.slice x.ao x.n x.c) ∧ Grew w11 w')) (by kernel_rfl) ?hSz63 (fun hHeld => ?restz63)
        case hSz63 => (try dsimp only); (first | exact mk.out _ (Grew.refl _).drew | exact mk.out _ (Grew.call hHeld.2.2 ‹Below _ _ _›))
        refine wpAnyH_take (i := 0) (oi := ?oiz64) (v := ?vz64) ?hiz64 (by kernel_rfl) (by kernel_rfl) (by kernel_rfl) ?hqz64 ?hyz64 hHeld ?restz64
        case hiz64 => simp only [List.getElem?_toArray, List.getElem?_cons_zero]; exact rfl
        case hqz64 => exact fun _ _ _ h => h
        case hyz64 => refine Or.inl ⟨by rfl, ?_⟩; intro w hSw; (try dsimp only at hSw); go_simp; try with_reducible rfl
        (try simp only [Act.put, List.setIfInBounds_toArray, List.set_cons_zero, List.set_cons_succ])
        refine wpAnyH_take (i := 2) (oi := ?oiz65) (v := ?vz65) ?hiz65 (by kernel_rfl) (by kernel_rfl) (by kernel_rfl) ?hqz65 ?hyz65 hHeld ?restz65
        case hiz65 => simp only [List.getElem?_toArray, List.getElem?_cons_succ, List.getElem?_cons_zero]; exact rfl
        case hqz65 => exact fun _ _ _ h => h
        case hyz65 => refine Or.inl ⟨by rfl, ?_⟩; intro w hSw; (try dsimp only at hSw); go_simp; try with_reducible rfl
        (try simp only [Act.put, List.setIfInBounds_toArray, List.set_cons_zero, List.set_cons_succ])
        refine wpAnyH_ready (rs := [1]) (by kernel_rfl) (by simp) ?_
        refine AllReadyH.cons (o := ?oiz66) ?hiz66 (fun K hK => ?stepz66) AllReadyH.nil
        case hiz66 => simp only [List.getElem?_toArray, List.getElem?_cons_succ, List.getElem?_cons_zero]; exact rfl
        go_simp
        (go_at_call 17; refine (text_spec (ha.grew hHeld.2.2) (by omega)).mono ?_; rintro e w12 ⟨rfl, hb12⟩; rw [HT.out])
        refine hK.out _ _ ?hSz66 (fun hHeld' => ?restz66)
        case hSz66 => (try dsimp only); (first | exact mk.out _ (Grew.refl _).drew | exact mk.out _ (Grew.call hHeld.2.2 ‹Below _ _ _›))
        clear hK K hHeld
        have hHeld := hHeld'
        clear hHeld'
        (try simp only [Act.put, List.setIfInBounds_toArray, List.set_cons_zero, List.set_cons_succ])
        refine wpAnyH_take (i := 3) (oi := ?oiz67) (v := ?vz67) ?hiz67 (by kernel_rfl) (by kernel_rfl) (by kernel_rfl) ?hqz67 ?hyz67 hHeld ?restz67
        case hiz67 => simp only [List.getElem?_toArray, List.getElem?_cons_succ, List.getElem?_cons_zero]; exact rfl
        case hqz67 => exact fun _ _ _ h => h
        case hyz67 => refine Or.inl ⟨by rfl, ?_⟩; intro w hSw; (try dsimp only at hSw); go_simp; try with_reducible rfl
        (try simp only [Act.put, List.setIfInBounds_toArray, List.set_cons_zero, List.set_cons_succ])
        refine wpAnyH_take (i := 4) (oi := ?oiz68) (v := ?vz68) ?hiz68 (by kernel_rfl) (by kernel_rfl) (by kernel_rfl) ?hqz68 ?hyz68 hHeld ?restz68
        case hiz68 => simp only [List.getElem?_toArray, List.getElem?_cons_succ, List.getElem?_cons_zero]; exact rfl
        case hqz68 => exact fun _ _ _ h => h
        case hyz68 => refine Or.inl ⟨by rfl, ?_⟩; intro w hSw; (try dsimp only at hSw); go_simp; try with_reducible rfl
        (try simp only [Act.put, List.setIfInBounds_toArray, List.set_cons_zero, List.set_cons_succ])
        refine wpAnyH_take (i := 5) (oi := ?oiz69) (v := ?vz69) ?hiz69 (by kernel_rfl) (by kernel_rfl) (by kernel_rfl) ?hqz69 ?hyz69 hHeld ?restz69
        case hiz69 => simp only [List.getElem?_toArray, List.getElem?_cons_succ, List.getElem?_cons_zero]; exact rfl
        case hqz69 => exact fun _ _ _ h => h
        case hyz69 => refine Or.inl ⟨by rfl, ?_⟩; intro w hSw; (try dsimp only at hSw); go_simp; try with_reducible rfl
        (try simp only [Act.put, List.setIfInBounds_toArray, List.set_cons_zero, List.set_cons_succ])
        refine wpAnyH_take (i := 6) (oi := ?oiz70) (v := ?vz70) ?hiz70 (by kernel_rfl) (by kernel_rfl) (by kernel_rfl) ?hqz70 ?hyz70 hHeld ?restz70
        case hiz70 => simp only [List.getElem?_toArray, List.getElem?_cons_succ, List.getElem?_cons_zero]; exact rfl
        case hqz70 => exact fun _ _ _ h => h
        case hyz70 => refine Or.inl ⟨by rfl, ?_⟩; intro w hSw; (try dsimp only at hSw); go_simp; try with_reducible rfl
        (try simp only [Act.put, List.setIfInBounds_toArray, List.set_cons_zero, List.set_cons_succ])
        refine wpAnyH_take (i := 7) (oi := ?oiz71) (v := ?vz71) ?hiz71 (by kernel_rfl) (by kernel_rfl) (by kernel_rfl) ?hqz71 ?hyz71 hHeld ?restz71
        case hiz71 => simp only [List.getElem?_toArray, List.getElem?_cons_succ, List.getElem?_cons_zero]; exact rfl
        case hqz71 => exact fun _ _ _ h => h
        case hyz71 => refine Or.inl ⟨by rfl, ?_⟩; intro w hSw; (try dsimp only at hSw); go_simp; try with_reducible rfl
        (try simp only [Act.put, List.setIfInBounds_toArray, List.set_cons_zero, List.set_cons_succ])
        refine wpAnyH_take (i := 8) (oi := ?oiz72) (v := ?vz72) ?hiz72 (by kernel_rfl) (by kernel_rfl) (by kernel_rfl) ?hqz72 ?hyz72 hHeld ?restz72
        case hiz72 => simp only [List.getElem?_toArray, List.getElem?_cons_succ, List.getElem?_cons_zero]; exact rfl
        case hqz72 => exact fun _ _ _ h => h
        case hyz72 => refine Or.inl ⟨by rfl, ?_⟩; intro w hSw; (try dsimp only at hSw); go_simp; try with_reducible rfl
        (try simp only [Act.put, List.setIfInBounds_toArray, List.set_cons_zero, List.set_cons_succ])
        refine wpAnyH_take (i := 9) (oi := ?oiz73) (v := ?vz73) ?hiz73 (by kernel_rfl) (by kernel_rfl) (by kernel_rfl) ?hqz73 ?hyz73 hHeld ?restz73
        case hiz73 => simp only [List.getElem?_toArray, List.getElem?_cons_succ, List.getElem?_cons_zero]; exact rfl
        case hqz73 => exact fun _ _ _ h => h
        case hyz73 => refine Or.inl ⟨by rfl, ?_⟩; intro w hSw; (try dsimp only at hSw); go_simp; try with_reducible rfl
        (try simp only [Act.put, List.setIfInBounds_toArray, List.set_cons_zero, List.set_cons_succ])
        refine wpAnyH_take (i := 11) (oi := ?oiz74) (v := ?vz74) ?hiz74 (by kernel_rfl) (by kernel_rfl) (by kernel_rfl) ?hqz74 ?hyz74 hHeld ?restz74
        case hiz74 => simp only [List.getElem?_toArray, List.getElem?_cons_succ, List.getElem?_cons_zero]; exact rfl
        case hqz74 => exact fun _ _ _ h => h
        case hyz74 => refine Or.inl ⟨by rfl, ?_⟩; intro w hSw; (try dsimp only at hSw); go_simp; try with_reducible rfl
        (try simp only [Act.put, List.setIfInBounds_toArray, List.set_cons_zero, List.set_cons_succ])
        refine wpAnyH_ready (rs := [10]) (by kernel_rfl) (by simp) ?_
        refine AllReadyH.cons (o := ?oiz75) ?hiz75 (fun K hK => ?stepz75) AllReadyH.nil
        case hiz75 => simp only [List.getElem?_toArray, List.getElem?_cons_succ, List.getElem?_cons_zero]; exact rfl
        go_simp
        (go_at_call 23; refine (bits_spec (ha.grew hHeld.2.2) (by omega)).mono ?_; rintro e w13 ⟨rfl, hb13⟩)
        refine hK.out _ _ ?hSz75 (fun hHeld' => ?restz75)
        case hSz75 => (try dsimp only); (first | exact mk.out _ (Grew.refl _).drew | exact mk.out _ (Grew.call hHeld.2.2 ‹Below _ _ _›))
        clear hK K hHeld
        have hHeld := hHeld'
        clear hHeld'
        (try simp only [Act.put, List.setIfInBounds_toArray, List.set_cons_zero, List.set_cons_succ])
        refine wpAnyH_ready (rs := [12]) (by kernel_rfl) (by simp) ?_
        refine AllReadyH.cons (o := ?oiz76) ?hiz76 (fun K hK => ?stepz76) AllReadyH.nil
        case hiz76 => simp only [List.getElem?_toArray, List.getElem?_cons_succ, List.getElem?_cons_zero]; exact rfl
        go_simp
        (go_at_call 24; refine (rbits_spec (hx.grew hHeld.2.2) (by omega)).mono ?_; rintro e w14 ⟨rfl, hb14⟩)
        refine hK.out _ _ ?hSz76 (fun hHeld' => ?restz76)
        case hSz76 => (try dsimp only); (first | exact mk.out _ (Grew.refl _).drew | exact mk.out _ (Grew.call hHeld.2.2 ‹Below _ _ _›))
        clear hK K hHeld
        have hHeld := hHeld'
        clear hHeld'
        (try simp only [Act.put, List.setIfInBounds_toArray, List.set_cons_zero, List.set_cons_succ])
        refine wpAnyH_take (i := 13) (oi := ?oiz77) (v := ?vz77) ?hiz77 (by kernel_rfl) (by kernel_rfl) (by kernel_rfl) ?hqz77 ?hyz77 hHeld ?restz77
        case hiz77 => simp only [List.getElem?_toArray, List.getElem?_cons_succ, List.getElem?_cons_zero]; exact rfl
        case hqz77 => exact fun _ _ _ h => h
        case hyz77 => refine Or.inl ⟨by rfl, ?_⟩; intro w hSw; (try dsimp only at hSw); go_simp; try with_reducible rfl
        (try simp only [Act.put, List.setIfInBounds_toArray, List.set_cons_zero, List.set_cons_succ])
        refine wpAnyH_take (i := 14) (oi := ?oiz78) (v := ?vz78) ?hiz78 (by kernel_rfl) (by kernel_rfl) (by kernel_rfl) ?hqz78 ?hyz78 hHeld ?restz78
        case hiz78 => simp only [List.getElem?_toArray, List.getElem?_cons_succ, List.getElem?_cons_zero]; exact rfl
        case hqz78 => exact fun _ _ _ h => h
        case hyz78 => refine Or.inl ⟨by rfl, ?_⟩; intro w hSw; (try dsimp only at hSw); go_simp; try with_reducible rfl
        (try simp only [Act.put, List.setIfInBounds_toArray, List.set_cons_zero, List.set_cons_succ])
        refine wpAnyH_take (i := 15) (oi := ?oiz79) (v := ?vz79) ?hiz79 (by kernel_rfl) (by kernel_rfl) (by kernel_rfl) ?hqz79 ?hyz79 hHeld ?restz79
        case hiz79 => simp only [List.getElem?_toArray, List.getElem?_cons_succ, List.getElem?_cons_zero]; exact rfl
        case hqz79 => exact fun _ _ _ h => h
        case hyz79 => refine Or.inl ⟨by rfl, ?_⟩; intro w hSw; (try dsimp only at hSw); go_simp; try with_reducible rfl
        (try simp only [Act.put, List.setIfInBounds_toArray, List.set_cons_zero, List.set_cons_succ])
        refine wpAnyH_take (i := 16) (oi := ?oiz80) (v := ?vz80) ?hiz80 (by kernel_rfl) (by kernel_rfl) (by kernel_rfl) ?hqz80 ?hyz80 hHeld ?restz80
        case hiz80 => simp only [List.getElem?_toArray, List.getElem?_cons_succ, List.getElem?_cons_zero]; exact rfl
        case hqz80 => exact fun _ _ _ h => h
        case hyz80 => refine Or.inl ⟨by rfl, ?_⟩; intro w hSw; (try dsimp only at hSw); go_simp; try with_reducible rfl
        (try simp only [Act.put, List.setIfInBounds_toArray, List.set_cons_zero, List.set_cons_succ])
        refine wpAnyH_done (by kernel_rfl) ?_ _
        have hgr := hg.trans hHeld.2.2
        clear hHeld mk
        go_wp2
        go_ret
        exact ⟨rfl, hgr⟩
    · by_cases hlong : 1000 < s.size
      · have hlI : (1000 : Int) < (s.size : Int) := by omega
        clear hlong
        go_enter Try.func3, Try.ntmps3
        have hg := Grew.refl w
        go_wp2_with fail
        refine (parse_spec s _ hs).mono ?_
        rintro e w1 ⟨a, rfl, ha, -, han, hb1⟩
        have ha1 : Grew w1 ((w1.alloc (.cells #[.slice a.ao a.n a.c] 24))) := (Grew.refl w1).alloc (.cells #[.slice a.ao a.n a.c] 24)
        have hg1' := (Grew.call (Grew.refl _) hb1).trans ha1
        replace ha := ha.grew ha1
        have hEa := ent_new w1 (.cells #[.slice a.ao a.n a.c] 24)
        replace hg := hg.trans hg1'
        clear hg1' ha1 hb1
        have chEa := box_cell hEa
        go_wp2_with fail
        generalize (w1.alloc (.cells #[.slice a.ao a.n a.c] 24)) = W1 at *
        refine (rparse_spec s _ hs).mono ?_
        rintro e w2 ⟨x, rfl, hx, -, hxn, hb2⟩
        have ha2 : Grew w2 ((w2.alloc (.cells #[.slice x.ao x.n x.c] 30))) := (Grew.refl w2).alloc (.cells #[.slice x.ao x.n x.c] 30)
        have hg2' := (Grew.call (Grew.refl _) hb2).trans ha2
        replace ha := ha.grew hg2'
        replace hEa := ent_grew hg2' hEa
        replace hx := hx.grew ha2
        have hEx := ent_new w2 (.cells #[.slice x.ao x.n x.c] 30)
        replace hg := hg.trans hg2'
        clear hg2' ha2 hb2 chEa
        have chEa := box_cell hEa
        have chEx := box_cell hEx
        go_wp2_with fail
        generalize (w2.alloc (.cells #[.slice x.ao x.n x.c] 30)) = W2 at *
        refine (known_spec _).mono ?_
        rintro e w3 ⟨rfl, hb3⟩
        have ha3 : Grew w3 (w3) := Grew.refl w3
        have hg3' := (Grew.call (Grew.refl _) hb3).trans ha3
        replace ha := ha.grew hg3'
        replace hx := hx.grew hg3'
        replace hEa := ent_grew hg3' hEa
        replace hEx := ent_grew hg3' hEx
        replace hg := hg.trans hg3'
        clear hg3' ha3 hb3 chEa chEx
        have chEa := box_cell hEa
        have chEx := box_cell hEx
        have HT := Lib.hid (perr_zero hp)
        clear hp
        generalize pval s = X at *
        go_wp2_with fail
        refine (word_big ha (by omega) hX).mono ?_
        rintro e w4 ⟨rfl, hb4⟩
        have ha4 : Grew w4 (w4) := Grew.refl w4
        have hg4' := (Grew.call (Grew.refl _) hb4).trans ha4
        replace ha := ha.grew hg4'
        replace hx := hx.grew hg4'
        replace hEa := ent_grew hg4' hEa
        replace hEx := ent_grew hg4' hEx
        replace hg := hg.trans hg4'
        clear hg4' ha4 hb4 chEa chEx
        have chEa := box_cell hEa
        have chEx := box_cell hEx
        go_upto_region 8 with fail
        clear chEa chEx
        have mk : Hid (∀ w', Grew w4 w' → w'.cell? ⟨w2.heap.size, 0, none⟩ = some (.slice x.ao x.n x.c) ∧ Grew w4 w') :=
          fun w' hg => ⟨cell_grew hg hEx, hg⟩
        go_region_held3 (fun w' => w'.cell? ⟨w2.heap.size, 0, none⟩ = some (.slice x.ao x.n x.c) ∧ Grew w4 w')
          (first
            | exact mk.out _ (Grew.refl _).drew
            | exact mk.out _ (Grew.call (‹_ ∧ Grew w4 _›.2) ‹Below _ _ _›))
          (first
            | (go_at_call 20; refine (rtwo64 _).mono ?_; rintro e w9 ⟨v, rfl, hv, hvn, hbw⟩)
            | (go_at_call 19; refine (rcmp_ord (by with_reducible first | exact hx.grew (‹_ ∧ Grew w4 _›.2) | exact ‹RefS _ _ _› | exact (RefS.up ‹RefS _ _ _› ‹Below _ _ _›) | exact (RefS.up (RefS.up ‹RefS _ _ _› ‹Below _ _ _›) ‹Below _ _ _›) | exact (RefS.up (RefS.up (RefS.up ‹RefS _ _ _› ‹Below _ _ _›) ‹Below _ _ _›) ‹Below _ _ _›) | exact (RefS.up (RefS.up (RefS.up (RefS.up ‹RefS _ _ _› ‹Below _ _ _›) ‹Below _ _ _›) ‹Below _ _ _›) ‹Below _ _ _›)) hv (by omega) (by omega)).mono ?_; rintro e w9 ⟨cc, rfl, hc1, hc2, hbw⟩; have hcs : decide (cc < 0) = false := decide_eq_false (Int.not_lt.2 (hc2 hX)); clear hc1 hc2))
        have hgr := ‹_ ∧ Grew w4 _›.2
        replace ha := ha.grew hgr
        replace hx := hx.grew hgr
        replace hEa := ent_grew hgr hEa
        replace hEx := ent_grew hgr hEx
        replace hg := hg.trans hgr
        clear mk hgr
        have chEa := box_cell hEa
        have chEx := box_cell hEx
        go_upto_region 9 with fail
        clear chEa chEx
        have mk : Hid (∀ w', Grew w9 w' → w'.cell? ⟨w2.heap.size, 0, none⟩ = some (.slice x.ao x.n x.c) ∧ Grew w9 w') :=
          fun w' hg => ⟨cell_grew hg hEx, hg⟩
        refine wp_region_held_drew (S := (fun w' => w'.cell? ⟨w2.heap.size, 0, none⟩ = some (.slice x.ao x.n x.c) ∧ Grew w9 w')) (by kernel_rfl) ?hSz81 (fun hHeld => ?restz81)
        case hSz81 => (try dsimp only); (first | exact mk.out _ (Grew.refl _).drew | exact mk.out _ (Grew.call hHeld.2 ‹Below _ _ _›))
        refine wpAnyH_take (i := 0) (oi := ?oiz82) (v := ?vz82) ?hiz82 (by kernel_rfl) (by kernel_rfl) (by kernel_rfl) ?hqz82 ?hyz82 hHeld ?restz82
        case hiz82 => simp only [List.getElem?_toArray, List.getElem?_cons_zero]; exact rfl
        case hqz82 => exact fun _ _ _ h => h
        case hyz82 => refine Or.inl ⟨by rfl, ?_⟩; intro w hSw; (try dsimp only at hSw); go_simp; try with_reducible rfl
        (try simp only [Act.put, List.setIfInBounds_toArray, List.set_cons_zero, List.set_cons_succ])
        refine wpAnyH_take (i := 1) (oi := ?oiz83) (v := ?vz83) ?hiz83 (by kernel_rfl) (by kernel_rfl) (by kernel_rfl) ?hqz83 ?hyz83 hHeld ?restz83
        case hiz83 => simp only [List.getElem?_toArray, List.getElem?_cons_succ, List.getElem?_cons_zero]; exact rfl
        case hqz83 => exact fun _ _ _ h => h
        case hyz83 => refine Or.inl ⟨by rfl, ?_⟩; intro w hSw; (try dsimp only at hSw); go_simp; try with_reducible rfl
        (try simp only [Act.put, List.setIfInBounds_toArray, List.set_cons_zero, List.set_cons_succ])
        refine wpAnyH_take (i := 2) (oi := ?oiz84) (v := ?vz84) ?hiz84 (by kernel_rfl) (by kernel_rfl) (by kernel_rfl) ?hqz84 ?hyz84 hHeld ?restz84
        case hiz84 => simp only [List.getElem?_toArray, List.getElem?_cons_succ, List.getElem?_cons_zero]; exact rfl
        case hqz84 => exact fun _ _ _ h => h
        case hyz84 => refine Or.inl ⟨by rfl, ?_⟩; intro w hSw; (try dsimp only at hSw); go_simp; try with_reducible rfl
        (try simp only [Act.put, List.setIfInBounds_toArray, List.set_cons_zero, List.set_cons_succ])
        refine wpAnyH_take (i := 3) (oi := ?oiz85) (v := ?vz85) ?hiz85 (by kernel_rfl) (by kernel_rfl) (by kernel_rfl) ?hqz85 ?hyz85 hHeld ?restz85
        case hiz85 => simp only [List.getElem?_toArray, List.getElem?_cons_succ, List.getElem?_cons_zero]; exact rfl
        case hqz85 => exact fun _ _ _ h => h
        case hyz85 => refine Or.inl ⟨by rfl, ?_⟩; intro w hSw; (try dsimp only at hSw); go_simp; try with_reducible rfl
        (try simp only [Act.put, List.setIfInBounds_toArray, List.set_cons_zero, List.set_cons_succ])
        refine wpAnyH_take (i := 4) (oi := ?oiz86) (v := ?vz86) ?hiz86 (by kernel_rfl) (by kernel_rfl) (by kernel_rfl) ?hqz86 ?hyz86 hHeld ?restz86
        case hiz86 => simp only [List.getElem?_toArray, List.getElem?_cons_succ, List.getElem?_cons_zero]; exact rfl
        case hqz86 => exact fun _ _ _ h => h
        case hyz86 => refine Or.inl ⟨by rfl, ?_⟩; intro w hSw; (try dsimp only at hSw); go_simp; try with_reducible rfl
        (try simp only [Act.put, List.setIfInBounds_toArray, List.set_cons_zero, List.set_cons_succ])
        refine wpAnyH_take (i := 5) (oi := ?oiz87) (v := ?vz87) ?hiz87 (by kernel_rfl) (by kernel_rfl) (by kernel_rfl) ?hqz87 ?hyz87 hHeld ?restz87
        case hiz87 => simp only [List.getElem?_toArray, List.getElem?_cons_succ, List.getElem?_cons_zero]; exact rfl
        case hqz87 => exact fun _ _ _ h => h
        case hyz87 => refine Or.inl ⟨by rfl, ?_⟩; intro w hSw; (try dsimp only at hSw); go_simp; try with_reducible rfl
        (try simp only [Act.put, List.setIfInBounds_toArray, List.set_cons_zero, List.set_cons_succ])
        refine wpAnyH_take (i := 6) (oi := ?oiz88) (v := undef) ?hiz88 (by kernel_rfl) (by kernel_rfl) (by kernel_rfl) ?hqz88 ?hyz88 hHeld ?restz88
        case hiz88 => simp only [List.getElem?_toArray, List.getElem?_cons_succ, List.getElem?_cons_zero]; exact rfl
        case hqz88 => exact fun _ _ _ h => h
        case hyz88 => exact Or.inr ⟨by rfl, rfl⟩
        (try simp only [Act.put, List.setIfInBounds_toArray, List.set_cons_zero, List.set_cons_succ])
        refine wpAnyH_take (i := 7) (oi := ?oiz89) (v := undef) ?hiz89 (by kernel_rfl) (by kernel_rfl) (by kernel_rfl) ?hqz89 ?hyz89 hHeld ?restz89
        case hiz89 => simp only [List.getElem?_toArray, List.getElem?_cons_succ, List.getElem?_cons_zero]; exact rfl
        case hqz89 => exact fun _ _ _ h => h
        case hyz89 => exact Or.inr ⟨by rfl, rfl⟩
        (try simp only [Act.put, List.setIfInBounds_toArray, List.set_cons_zero, List.set_cons_succ])
        refine wpAnyH_take (i := 8) (oi := ?oiz90) (v := undef) ?hiz90 (by kernel_rfl) (by kernel_rfl) (by kernel_rfl) ?hqz90 ?hyz90 hHeld ?restz90
        case hiz90 => simp only [List.getElem?_toArray, List.getElem?_cons_succ, List.getElem?_cons_zero]; exact rfl
        case hqz90 => exact fun _ _ _ h => h
        case hyz90 => exact Or.inr ⟨by rfl, rfl⟩
        (try simp only [Act.put, List.setIfInBounds_toArray, List.set_cons_zero, List.set_cons_succ])
        refine wpAnyH_take (i := 9) (oi := ?oiz91) (v := undef) ?hiz91 (by kernel_rfl) (by kernel_rfl) (by kernel_rfl) ?hqz91 ?hyz91 hHeld ?restz91
        case hiz91 => simp only [List.getElem?_toArray, List.getElem?_cons_succ, List.getElem?_cons_zero]; exact rfl
        case hqz91 => exact fun _ _ _ h => h
        case hyz91 => exact Or.inr ⟨by rfl, rfl⟩
        (try simp only [Act.put, List.setIfInBounds_toArray, List.set_cons_zero, List.set_cons_succ])
        refine wpAnyH_take (i := 10) (oi := ?oiz92) (v := undef) ?hiz92 (by kernel_rfl) (by kernel_rfl) (by kernel_rfl) ?hqz92 ?hyz92 hHeld ?restz92
        case hiz92 => simp only [List.getElem?_toArray, List.getElem?_cons_succ, List.getElem?_cons_zero]; exact rfl
        case hqz92 => exact fun _ _ _ h => h
        case hyz92 => exact Or.inr ⟨by rfl, rfl⟩
        (try simp only [Act.put, List.setIfInBounds_toArray, List.set_cons_zero, List.set_cons_succ])
        refine wpAnyH_take (i := 11) (oi := ?oiz93) (v := ?vz93) ?hiz93 (by kernel_rfl) (by kernel_rfl) (by kernel_rfl) ?hqz93 ?hyz93 hHeld ?restz93
        case hiz93 => simp only [List.getElem?_toArray, List.getElem?_cons_succ, List.getElem?_cons_zero]; exact rfl
        case hqz93 => exact fun _ _ _ h => h
        case hyz93 => refine Or.inl ⟨by rfl, ?_⟩; intro w hSw; (try dsimp only at hSw); go_simp; try with_reducible rfl
        (try simp only [Act.put, List.setIfInBounds_toArray, List.set_cons_zero, List.set_cons_succ])
        refine wpAnyH_take (i := 12) (oi := ?oiz94) (v := ?vz94) ?hiz94 (by kernel_rfl) (by kernel_rfl) (by kernel_rfl) ?hqz94 ?hyz94 hHeld ?restz94
        case hiz94 => simp only [List.getElem?_toArray, List.getElem?_cons_succ, List.getElem?_cons_zero]; exact rfl
        case hqz94 => exact fun _ _ _ h => h
        case hyz94 => refine Or.inl ⟨by rfl, ?_⟩; intro w hSw; (try dsimp only at hSw); go_simp; try with_reducible rfl
        (try simp only [Act.put, List.setIfInBounds_toArray, List.set_cons_zero, List.set_cons_succ])
        refine wpAnyH_take (i := 13) (oi := ?oiz95) (v := ?vz95) ?hiz95 (by kernel_rfl) (by kernel_rfl) (by kernel_rfl) ?hqz95 ?hyz95 hHeld ?restz95
        case hiz95 => simp only [List.getElem?_toArray, List.getElem?_cons_succ, List.getElem?_cons_zero]; exact rfl
        case hqz95 => exact fun _ _ _ h => h
        case hyz95 => refine Or.inl ⟨by rfl, ?_⟩; intro w hSw; (try dsimp only at hSw); go_simp; try with_reducible rfl
        (try simp only [Act.put, List.setIfInBounds_toArray, List.set_cons_zero, List.set_cons_succ])
        refine wpAnyH_take (i := 14) (oi := ?oiz96) (v := ?vz96) ?hiz96 (by kernel_rfl) (by kernel_rfl) (by kernel_rfl) ?hqz96 ?hyz96 hHeld ?restz96
        case hiz96 => simp only [List.getElem?_toArray, List.getElem?_cons_succ, List.getElem?_cons_zero]; exact rfl
        case hqz96 => exact fun _ _ _ h => h
        case hyz96 => refine Or.inl ⟨by rfl, ?_⟩; intro w hSw; (try dsimp only at hSw); go_simp; try with_reducible rfl
        (try simp only [Act.put, List.setIfInBounds_toArray, List.set_cons_zero, List.set_cons_succ])
        refine wpAnyH_take (i := 15) (oi := ?oiz97) (v := ?vz97) ?hiz97 (by kernel_rfl) (by kernel_rfl) (by kernel_rfl) ?hqz97 ?hyz97 hHeld ?restz97
        case hiz97 => simp only [List.getElem?_toArray, List.getElem?_cons_succ, List.getElem?_cons_zero]; exact rfl
        case hqz97 => exact fun _ _ _ h => h
        case hyz97 => refine Or.inl ⟨by rfl, ?_⟩; intro w hSw; (try dsimp only at hSw); go_simp; try with_reducible rfl
        (try simp only [Act.put, List.setIfInBounds_toArray, List.set_cons_zero, List.set_cons_succ])
        refine wpAnyH_take (i := 16) (oi := ?oiz98) (v := ?vz98) ?hiz98 (by kernel_rfl) (by kernel_rfl) (by kernel_rfl) ?hqz98 ?hyz98 hHeld ?restz98
        case hiz98 => simp only [List.getElem?_toArray, List.getElem?_cons_succ, List.getElem?_cons_zero]; exact rfl
        case hqz98 => exact fun _ _ _ h => h
        case hyz98 => refine Or.inl ⟨by rfl, ?_⟩; intro w hSw; (try dsimp only at hSw); go_simp; try with_reducible rfl
        (try simp only [Act.put, List.setIfInBounds_toArray, List.set_cons_zero, List.set_cons_succ])
        refine wpAnyH_take (i := 17) (oi := ?oiz99) (v := ?vz99) ?hiz99 (by kernel_rfl) (by kernel_rfl) (by kernel_rfl) ?hqz99 ?hyz99 hHeld ?restz99
        case hiz99 => simp only [List.getElem?_toArray, List.getElem?_cons_succ, List.getElem?_cons_zero]; exact rfl
        case hqz99 => exact fun _ _ _ h => h
        case hyz99 => refine Or.inl ⟨by rfl, ?_⟩; intro w hSw; (try dsimp only at hSw); go_simp; try with_reducible rfl
        (try simp only [Act.put, List.setIfInBounds_toArray, List.set_cons_zero, List.set_cons_succ])
        refine wpAnyH_take (i := 18) (oi := ?oiz100) (v := ?vz100) ?hiz100 (by kernel_rfl) (by kernel_rfl) (by kernel_rfl) ?hqz100 ?hyz100 hHeld ?restz100
        case hiz100 => simp only [List.getElem?_toArray, List.getElem?_cons_succ, List.getElem?_cons_zero]; exact rfl
        case hqz100 => exact fun _ _ _ h => h
        case hyz100 => refine Or.inl ⟨by rfl, ?_⟩; intro w hSw; (try dsimp only at hSw); go_simp; try with_reducible rfl
        (try simp only [Act.put, List.setIfInBounds_toArray, List.set_cons_zero, List.set_cons_succ])
        refine wpAnyH_take (i := 19) (oi := ?oiz101) (v := ?vz101) ?hiz101 (by kernel_rfl) (by kernel_rfl) (by kernel_rfl) ?hqz101 ?hyz101 hHeld ?restz101
        case hiz101 => simp only [List.getElem?_toArray, List.getElem?_cons_succ, List.getElem?_cons_zero]; exact rfl
        case hqz101 => exact fun _ _ _ h => h
        case hyz101 => refine Or.inl ⟨by rfl, ?_⟩; intro w hSw; (try dsimp only at hSw); go_simp; try with_reducible rfl
        (try simp only [Act.put, List.setIfInBounds_toArray, List.set_cons_zero, List.set_cons_succ])
        refine wpAnyH_take (i := 20) (oi := ?oiz102) (v := ?vz102) ?hiz102 (by kernel_rfl) (by kernel_rfl) (by kernel_rfl) ?hqz102 ?hyz102 hHeld ?restz102
        case hiz102 => simp only [List.getElem?_toArray, List.getElem?_cons_succ, List.getElem?_cons_zero]; exact rfl
        case hqz102 => exact fun _ _ _ h => h
        case hyz102 => refine Or.inl ⟨by rfl, ?_⟩; intro w hSw; (try dsimp only at hSw); go_simp; try with_reducible rfl
        (try simp only [Act.put, List.setIfInBounds_toArray, List.set_cons_zero, List.set_cons_succ])
        refine wpAnyH_done (by kernel_rfl) ?_ _
        have hgr : Grew w9 w9.drew := hHeld.2
        replace ha := ha.grew hgr
        replace hx := hx.grew hgr
        replace hEa := ent_grew hgr hEa
        replace hEx := ent_grew hgr hEx
        replace hg := hg.trans hgr
        clear hgr mk hHeld
        generalize w9.drew = w11 at *
        go_upto_region 11 with fail
        have mk : Hid (∀ w', Grew w11 w' → w'.cell? ⟨w1.heap.size, 0, none⟩ = some (.slice a.ao a.n a.c) ∧ w'.cell? ⟨w2.heap.size, 0, none⟩ = some (.slice x.ao x.n x.c) ∧ Grew w11 w') :=
          fun w' hg => ⟨cell_grew hg hEa, cell_grew hg hEx, hg⟩
        clear hEa hEx
        refine wp_region_held_drew (S := (fun w' => w'.cell? ⟨w1.heap.size, 0, none⟩ = some (.slice a.ao a.n a.c) ∧ w'.cell? ⟨w2.heap.size, 0, none⟩ = some (.slice x.ao x.n x.c) ∧ Grew w11 w')) (by kernel_rfl) ?hSz103 (fun hHeld => ?restz103)
        case hSz103 => (try dsimp only); (first | exact mk.out _ (Grew.refl _).drew | exact mk.out _ (Grew.call hHeld.2.2 ‹Below _ _ _›))
        refine wpAnyH_take (i := 0) (oi := ?oiz104) (v := ?vz104) ?hiz104 (by kernel_rfl) (by kernel_rfl) (by kernel_rfl) ?hqz104 ?hyz104 hHeld ?restz104
        case hiz104 => simp only [List.getElem?_toArray, List.getElem?_cons_zero]; exact rfl
        case hqz104 => exact fun _ _ _ h => h
        case hyz104 => refine Or.inl ⟨by rfl, ?_⟩; intro w hSw; (try dsimp only at hSw); go_simp; try with_reducible rfl
        (try simp only [Act.put, List.setIfInBounds_toArray, List.set_cons_zero, List.set_cons_succ])
        refine wpAnyH_take (i := 2) (oi := ?oiz105) (v := ?vz105) ?hiz105 (by kernel_rfl) (by kernel_rfl) (by kernel_rfl) ?hqz105 ?hyz105 hHeld ?restz105
        case hiz105 => simp only [List.getElem?_toArray, List.getElem?_cons_succ, List.getElem?_cons_zero]; exact rfl
        case hqz105 => exact fun _ _ _ h => h
        case hyz105 => refine Or.inl ⟨by rfl, ?_⟩; intro w hSw; (try dsimp only at hSw); go_simp; try with_reducible rfl
        (try simp only [Act.put, List.setIfInBounds_toArray, List.set_cons_zero, List.set_cons_succ])
        refine wpAnyH_ready (rs := [1]) (by kernel_rfl) (by simp) ?_
        refine AllReadyH.cons (o := ?oiz106) ?hiz106 (fun K hK => ?stepz106) AllReadyH.nil
        case hiz106 => simp only [List.getElem?_toArray, List.getElem?_cons_succ, List.getElem?_cons_zero]; exact rfl
        go_simp
        (go_at_call 17; refine (text_spec (ha.grew hHeld.2.2) (by omega)).mono ?_; rintro e w12 ⟨rfl, hb12⟩; rw [HT.out])
        refine hK.out _ _ ?hSz106 (fun hHeld' => ?restz106)
        case hSz106 => (try dsimp only); (first | exact mk.out _ (Grew.refl _).drew | exact mk.out _ (Grew.call hHeld.2.2 ‹Below _ _ _›))
        clear hK K hHeld
        have hHeld := hHeld'
        clear hHeld'
        (try simp only [Act.put, List.setIfInBounds_toArray, List.set_cons_zero, List.set_cons_succ])
        refine wpAnyH_take (i := 3) (oi := ?oiz107) (v := ?vz107) ?hiz107 (by kernel_rfl) (by kernel_rfl) (by kernel_rfl) ?hqz107 ?hyz107 hHeld ?restz107
        case hiz107 => simp only [List.getElem?_toArray, List.getElem?_cons_succ, List.getElem?_cons_zero]; exact rfl
        case hqz107 => exact fun _ _ _ h => h
        case hyz107 => refine Or.inl ⟨by rfl, ?_⟩; intro w hSw; (try dsimp only at hSw); go_simp; try with_reducible rfl
        (try simp only [Act.put, List.setIfInBounds_toArray, List.set_cons_zero, List.set_cons_succ])
        refine wpAnyH_take (i := 4) (oi := ?oiz108) (v := ?vz108) ?hiz108 (by kernel_rfl) (by kernel_rfl) (by kernel_rfl) ?hqz108 ?hyz108 hHeld ?restz108
        case hiz108 => simp only [List.getElem?_toArray, List.getElem?_cons_succ, List.getElem?_cons_zero]; exact rfl
        case hqz108 => exact fun _ _ _ h => h
        case hyz108 => refine Or.inl ⟨by rfl, ?_⟩; intro w hSw; (try dsimp only at hSw); go_simp; try with_reducible rfl
        (try simp only [Act.put, List.setIfInBounds_toArray, List.set_cons_zero, List.set_cons_succ])
        refine wpAnyH_take (i := 5) (oi := ?oiz109) (v := ?vz109) ?hiz109 (by kernel_rfl) (by kernel_rfl) (by kernel_rfl) ?hqz109 ?hyz109 hHeld ?restz109
        case hiz109 => simp only [List.getElem?_toArray, List.getElem?_cons_succ, List.getElem?_cons_zero]; exact rfl
        case hqz109 => exact fun _ _ _ h => h
        case hyz109 => refine Or.inl ⟨by rfl, ?_⟩; intro w hSw; (try dsimp only at hSw); go_simp; try with_reducible rfl
        (try simp only [Act.put, List.setIfInBounds_toArray, List.set_cons_zero, List.set_cons_succ])
        refine wpAnyH_take (i := 6) (oi := ?oiz110) (v := ?vz110) ?hiz110 (by kernel_rfl) (by kernel_rfl) (by kernel_rfl) ?hqz110 ?hyz110 hHeld ?restz110
        case hiz110 => simp only [List.getElem?_toArray, List.getElem?_cons_succ, List.getElem?_cons_zero]; exact rfl
        case hqz110 => exact fun _ _ _ h => h
        case hyz110 => refine Or.inl ⟨by rfl, ?_⟩; intro w hSw; (try dsimp only at hSw); go_simp; try with_reducible rfl
        (try simp only [Act.put, List.setIfInBounds_toArray, List.set_cons_zero, List.set_cons_succ])
        refine wpAnyH_take (i := 7) (oi := ?oiz111) (v := ?vz111) ?hiz111 (by kernel_rfl) (by kernel_rfl) (by kernel_rfl) ?hqz111 ?hyz111 hHeld ?restz111
        case hiz111 => simp only [List.getElem?_toArray, List.getElem?_cons_succ, List.getElem?_cons_zero]; exact rfl
        case hqz111 => exact fun _ _ _ h => h
        case hyz111 => refine Or.inl ⟨by rfl, ?_⟩; intro w hSw; (try dsimp only at hSw); go_simp; try with_reducible rfl
        (try simp only [Act.put, List.setIfInBounds_toArray, List.set_cons_zero, List.set_cons_succ])
        refine wpAnyH_take (i := 8) (oi := ?oiz112) (v := ?vz112) ?hiz112 (by kernel_rfl) (by kernel_rfl) (by kernel_rfl) ?hqz112 ?hyz112 hHeld ?restz112
        case hiz112 => simp only [List.getElem?_toArray, List.getElem?_cons_succ, List.getElem?_cons_zero]; exact rfl
        case hqz112 => exact fun _ _ _ h => h
        case hyz112 => refine Or.inl ⟨by rfl, ?_⟩; intro w hSw; (try dsimp only at hSw); go_simp; try with_reducible rfl
        (try simp only [Act.put, List.setIfInBounds_toArray, List.set_cons_zero, List.set_cons_succ])
        refine wpAnyH_take (i := 9) (oi := ?oiz113) (v := undef) ?hiz113 (by kernel_rfl) (by kernel_rfl) (by kernel_rfl) ?hqz113 ?hyz113 hHeld ?restz113
        case hiz113 => simp only [List.getElem?_toArray, List.getElem?_cons_succ, List.getElem?_cons_zero]; exact rfl
        case hqz113 => exact fun _ _ _ h => h
        case hyz113 => exact Or.inr ⟨by rfl, rfl⟩
        (try simp only [Act.put, List.setIfInBounds_toArray, List.set_cons_zero, List.set_cons_succ])
        refine wpAnyH_take (i := 10) (oi := ?oiz114) (v := undef) ?hiz114 (by kernel_rfl) (by kernel_rfl) (by kernel_rfl) ?hqz114 ?hyz114 hHeld ?restz114
        case hiz114 => simp only [List.getElem?_toArray, List.getElem?_cons_succ, List.getElem?_cons_zero]; exact rfl
        case hqz114 => exact fun _ _ _ h => h
        case hyz114 => exact Or.inr ⟨by rfl, rfl⟩
        (try simp only [Act.put, List.setIfInBounds_toArray, List.set_cons_zero, List.set_cons_succ])
        refine wpAnyH_take (i := 11) (oi := ?oiz115) (v := undef) ?hiz115 (by kernel_rfl) (by kernel_rfl) (by kernel_rfl) ?hqz115 ?hyz115 hHeld ?restz115
        case hiz115 => simp only [List.getElem?_toArray, List.getElem?_cons_succ, List.getElem?_cons_zero]; exact rfl
        case hqz115 => exact fun _ _ _ h => h
        case hyz115 => exact Or.inr ⟨by rfl, rfl⟩
        (try simp only [Act.put, List.setIfInBounds_toArray, List.set_cons_zero, List.set_cons_succ])
        refine wpAnyH_take (i := 12) (oi := ?oiz116) (v := undef) ?hiz116 (by kernel_rfl) (by kernel_rfl) (by kernel_rfl) ?hqz116 ?hyz116 hHeld ?restz116
        case hiz116 => simp only [List.getElem?_toArray, List.getElem?_cons_succ, List.getElem?_cons_zero]; exact rfl
        case hqz116 => exact fun _ _ _ h => h
        case hyz116 => exact Or.inr ⟨by rfl, rfl⟩
        (try simp only [Act.put, List.setIfInBounds_toArray, List.set_cons_zero, List.set_cons_succ])
        refine wpAnyH_take (i := 13) (oi := ?oiz117) (v := undef) ?hiz117 (by kernel_rfl) (by kernel_rfl) (by kernel_rfl) ?hqz117 ?hyz117 hHeld ?restz117
        case hiz117 => simp only [List.getElem?_toArray, List.getElem?_cons_succ, List.getElem?_cons_zero]; exact rfl
        case hqz117 => exact fun _ _ _ h => h
        case hyz117 => exact Or.inr ⟨by rfl, rfl⟩
        (try simp only [Act.put, List.setIfInBounds_toArray, List.set_cons_zero, List.set_cons_succ])
        refine wpAnyH_take (i := 14) (oi := ?oiz118) (v := ?vz118) ?hiz118 (by kernel_rfl) (by kernel_rfl) (by kernel_rfl) ?hqz118 ?hyz118 hHeld ?restz118
        case hiz118 => simp only [List.getElem?_toArray, List.getElem?_cons_succ, List.getElem?_cons_zero]; exact rfl
        case hqz118 => exact fun _ _ _ h => h
        case hyz118 => refine Or.inl ⟨by rfl, ?_⟩; intro w hSw; (try dsimp only at hSw); go_simp; try with_reducible rfl
        (try simp only [Act.put, List.setIfInBounds_toArray, List.set_cons_zero, List.set_cons_succ])
        refine wpAnyH_take (i := 15) (oi := ?oiz119) (v := ?vz119) ?hiz119 (by kernel_rfl) (by kernel_rfl) (by kernel_rfl) ?hqz119 ?hyz119 hHeld ?restz119
        case hiz119 => simp only [List.getElem?_toArray, List.getElem?_cons_succ, List.getElem?_cons_zero]; exact rfl
        case hqz119 => exact fun _ _ _ h => h
        case hyz119 => refine Or.inl ⟨by rfl, ?_⟩; intro w hSw; (try dsimp only at hSw); go_simp; try with_reducible rfl
        (try simp only [Act.put, List.setIfInBounds_toArray, List.set_cons_zero, List.set_cons_succ])
        refine wpAnyH_take (i := 16) (oi := ?oiz120) (v := ?vz120) ?hiz120 (by kernel_rfl) (by kernel_rfl) (by kernel_rfl) ?hqz120 ?hyz120 hHeld ?restz120
        case hiz120 => simp only [List.getElem?_toArray, List.getElem?_cons_succ, List.getElem?_cons_zero]; exact rfl
        case hqz120 => exact fun _ _ _ h => h
        case hyz120 => refine Or.inl ⟨by rfl, ?_⟩; intro w hSw; (try dsimp only at hSw); go_simp; try with_reducible rfl
        (try simp only [Act.put, List.setIfInBounds_toArray, List.set_cons_zero, List.set_cons_succ])
        refine wpAnyH_done (by kernel_rfl) ?_ _
        have hgr := hg.trans hHeld.2.2
        clear hHeld mk
        go_wp2
        go_ret
        exact ⟨rfl, hgr⟩
      · have hlI : decide ((1000 : Int) < (s.size : Int)) = false := by simp; omega
        clear hlong
        go_enter Try.func3, Try.ntmps3
        have hg := Grew.refl w
        go_wp2_with fail
        refine (parse_spec s _ hs).mono ?_
        rintro e w1 ⟨a, rfl, ha, -, han, hb1⟩
        have ha1 : Grew w1 ((w1.alloc (.cells #[.slice a.ao a.n a.c] 24))) := (Grew.refl w1).alloc (.cells #[.slice a.ao a.n a.c] 24)
        have hg1' := (Grew.call (Grew.refl _) hb1).trans ha1
        replace ha := ha.grew ha1
        have hEa := ent_new w1 (.cells #[.slice a.ao a.n a.c] 24)
        replace hg := hg.trans hg1'
        clear hg1' ha1 hb1
        have chEa := box_cell hEa
        go_wp2_with fail
        generalize (w1.alloc (.cells #[.slice a.ao a.n a.c] 24)) = W1 at *
        refine (rparse_spec s _ hs).mono ?_
        rintro e w2 ⟨x, rfl, hx, -, hxn, hb2⟩
        have ha2 : Grew w2 ((w2.alloc (.cells #[.slice x.ao x.n x.c] 30))) := (Grew.refl w2).alloc (.cells #[.slice x.ao x.n x.c] 30)
        have hg2' := (Grew.call (Grew.refl _) hb2).trans ha2
        replace ha := ha.grew hg2'
        replace hEa := ent_grew hg2' hEa
        replace hx := hx.grew ha2
        have hEx := ent_new w2 (.cells #[.slice x.ao x.n x.c] 30)
        replace hg := hg.trans hg2'
        clear hg2' ha2 hb2 chEa
        have chEa := box_cell hEa
        have chEx := box_cell hEx
        go_wp2_with fail
        generalize (w2.alloc (.cells #[.slice x.ao x.n x.c] 30)) = W2 at *
        refine (known_spec _).mono ?_
        rintro e w3 ⟨rfl, hb3⟩
        have ha3 : Grew w3 (w3) := Grew.refl w3
        have hg3' := (Grew.call (Grew.refl _) hb3).trans ha3
        replace ha := ha.grew hg3'
        replace hx := hx.grew hg3'
        replace hEa := ent_grew hg3' hEa
        replace hEx := ent_grew hg3' hEx
        replace hg := hg.trans hg3'
        clear hg3' ha3 hb3 chEa chEx
        have chEa := box_cell hEa
        have chEx := box_cell hEx
        have HT := Lib.hid (perr_zero hp)
        clear hp
        generalize pval s = X at *
        go_wp2_with fail
        refine (word_big ha (by omega) hX).mono ?_
        rintro e w4 ⟨rfl, hb4⟩
        have ha4 : Grew w4 (w4) := Grew.refl w4
        have hg4' := (Grew.call (Grew.refl _) hb4).trans ha4
        replace ha := ha.grew hg4'
        replace hx := hx.grew hg4'
        replace hEa := ent_grew hg4' hEa
        replace hEx := ent_grew hg4' hEx
        replace hg := hg.trans hg4'
        clear hg4' ha4 hb4 chEa chEx
        have chEa := box_cell hEa
        have chEx := box_cell hEx
        go_upto_region 8 with fail
        clear chEa chEx
        have mk : Hid (∀ w', Grew w4 w' → w'.cell? ⟨w2.heap.size, 0, none⟩ = some (.slice x.ao x.n x.c) ∧ Grew w4 w') :=
          fun w' hg => ⟨cell_grew hg hEx, hg⟩
        go_region_held3 (fun w' => w'.cell? ⟨w2.heap.size, 0, none⟩ = some (.slice x.ao x.n x.c) ∧ Grew w4 w')
          (first
            | exact mk.out _ (Grew.refl _).drew
            | exact mk.out _ (Grew.call (‹_ ∧ Grew w4 _›.2) ‹Below _ _ _›))
          (first
            | (go_at_call 20; refine (rtwo64 _).mono ?_; rintro e w9 ⟨v, rfl, hv, hvn, hbw⟩)
            | (go_at_call 19; refine (rcmp_ord (by with_reducible first | exact hx.grew (‹_ ∧ Grew w4 _›.2) | exact ‹RefS _ _ _› | exact (RefS.up ‹RefS _ _ _› ‹Below _ _ _›) | exact (RefS.up (RefS.up ‹RefS _ _ _› ‹Below _ _ _›) ‹Below _ _ _›) | exact (RefS.up (RefS.up (RefS.up ‹RefS _ _ _› ‹Below _ _ _›) ‹Below _ _ _›) ‹Below _ _ _›) | exact (RefS.up (RefS.up (RefS.up (RefS.up ‹RefS _ _ _› ‹Below _ _ _›) ‹Below _ _ _›) ‹Below _ _ _›) ‹Below _ _ _›)) hv (by omega) (by omega)).mono ?_; rintro e w9 ⟨cc, rfl, hc1, hc2, hbw⟩; have hcs : decide (cc < 0) = false := decide_eq_false (Int.not_lt.2 (hc2 hX)); clear hc1 hc2))
        have hgr := ‹_ ∧ Grew w4 _›.2
        replace ha := ha.grew hgr
        replace hx := hx.grew hgr
        replace hEa := ent_grew hgr hEa
        replace hEx := ent_grew hgr hEx
        replace hg := hg.trans hgr
        clear mk hgr
        have chEa := box_cell hEa
        have chEx := box_cell hEx
        go_upto_region 9 with fail
        clear chEa chEx
        have mk : Hid (∀ w', Grew w9 w' → w'.cell? ⟨w2.heap.size, 0, none⟩ = some (.slice x.ao x.n x.c) ∧ Grew w9 w') :=
          fun w' hg => ⟨cell_grew hg hEx, hg⟩
        refine wp_region_held_drew (S := (fun w' => w'.cell? ⟨w2.heap.size, 0, none⟩ = some (.slice x.ao x.n x.c) ∧ Grew w9 w')) (by kernel_rfl) ?hSz121 (fun hHeld => ?restz121)
        case hSz121 => (try dsimp only); (first | exact mk.out _ (Grew.refl _).drew | exact mk.out _ (Grew.call hHeld.2 ‹Below _ _ _›))
        refine wpAnyH_take (i := 0) (oi := ?oiz122) (v := ?vz122) ?hiz122 (by kernel_rfl) (by kernel_rfl) (by kernel_rfl) ?hqz122 ?hyz122 hHeld ?restz122
        case hiz122 => simp only [List.getElem?_toArray, List.getElem?_cons_zero]; exact rfl
        case hqz122 => exact fun _ _ _ h => h
        case hyz122 => refine Or.inl ⟨by rfl, ?_⟩; intro w hSw; (try dsimp only at hSw); go_simp; try with_reducible rfl
        (try simp only [Act.put, List.setIfInBounds_toArray, List.set_cons_zero, List.set_cons_succ])
        refine wpAnyH_take (i := 1) (oi := ?oiz123) (v := ?vz123) ?hiz123 (by kernel_rfl) (by kernel_rfl) (by kernel_rfl) ?hqz123 ?hyz123 hHeld ?restz123
        case hiz123 => simp only [List.getElem?_toArray, List.getElem?_cons_succ, List.getElem?_cons_zero]; exact rfl
        case hqz123 => exact fun _ _ _ h => h
        case hyz123 => refine Or.inl ⟨by rfl, ?_⟩; intro w hSw; (try dsimp only at hSw); go_simp; try with_reducible rfl
        (try simp only [Act.put, List.setIfInBounds_toArray, List.set_cons_zero, List.set_cons_succ])
        refine wpAnyH_take (i := 2) (oi := ?oiz124) (v := ?vz124) ?hiz124 (by kernel_rfl) (by kernel_rfl) (by kernel_rfl) ?hqz124 ?hyz124 hHeld ?restz124
        case hiz124 => simp only [List.getElem?_toArray, List.getElem?_cons_succ, List.getElem?_cons_zero]; exact rfl
        case hqz124 => exact fun _ _ _ h => h
        case hyz124 => refine Or.inl ⟨by rfl, ?_⟩; intro w hSw; (try dsimp only at hSw); go_simp; try with_reducible rfl
        (try simp only [Act.put, List.setIfInBounds_toArray, List.set_cons_zero, List.set_cons_succ])
        refine wpAnyH_take (i := 3) (oi := ?oiz125) (v := ?vz125) ?hiz125 (by kernel_rfl) (by kernel_rfl) (by kernel_rfl) ?hqz125 ?hyz125 hHeld ?restz125
        case hiz125 => simp only [List.getElem?_toArray, List.getElem?_cons_succ, List.getElem?_cons_zero]; exact rfl
        case hqz125 => exact fun _ _ _ h => h
        case hyz125 => refine Or.inl ⟨by rfl, ?_⟩; intro w hSw; (try dsimp only at hSw); go_simp; try with_reducible rfl
        (try simp only [Act.put, List.setIfInBounds_toArray, List.set_cons_zero, List.set_cons_succ])
        refine wpAnyH_take (i := 4) (oi := ?oiz126) (v := ?vz126) ?hiz126 (by kernel_rfl) (by kernel_rfl) (by kernel_rfl) ?hqz126 ?hyz126 hHeld ?restz126
        case hiz126 => simp only [List.getElem?_toArray, List.getElem?_cons_succ, List.getElem?_cons_zero]; exact rfl
        case hqz126 => exact fun _ _ _ h => h
        case hyz126 => refine Or.inl ⟨by rfl, ?_⟩; intro w hSw; (try dsimp only at hSw); go_simp; try with_reducible rfl
        (try simp only [Act.put, List.setIfInBounds_toArray, List.set_cons_zero, List.set_cons_succ])
        refine wpAnyH_take (i := 5) (oi := ?oiz127) (v := ?vz127) ?hiz127 (by kernel_rfl) (by kernel_rfl) (by kernel_rfl) ?hqz127 ?hyz127 hHeld ?restz127
        case hiz127 => simp only [List.getElem?_toArray, List.getElem?_cons_succ, List.getElem?_cons_zero]; exact rfl
        case hqz127 => exact fun _ _ _ h => h
        case hyz127 => refine Or.inl ⟨by rfl, ?_⟩; intro w hSw; (try dsimp only at hSw); go_simp; try with_reducible rfl
        (try simp only [Act.put, List.setIfInBounds_toArray, List.set_cons_zero, List.set_cons_succ])
        refine wpAnyH_take (i := 6) (oi := ?oiz128) (v := undef) ?hiz128 (by kernel_rfl) (by kernel_rfl) (by kernel_rfl) ?hqz128 ?hyz128 hHeld ?restz128
        case hiz128 => simp only [List.getElem?_toArray, List.getElem?_cons_succ, List.getElem?_cons_zero]; exact rfl
        case hqz128 => exact fun _ _ _ h => h
        case hyz128 => exact Or.inr ⟨by rfl, rfl⟩
        (try simp only [Act.put, List.setIfInBounds_toArray, List.set_cons_zero, List.set_cons_succ])
        refine wpAnyH_take (i := 7) (oi := ?oiz129) (v := undef) ?hiz129 (by kernel_rfl) (by kernel_rfl) (by kernel_rfl) ?hqz129 ?hyz129 hHeld ?restz129
        case hiz129 => simp only [List.getElem?_toArray, List.getElem?_cons_succ, List.getElem?_cons_zero]; exact rfl
        case hqz129 => exact fun _ _ _ h => h
        case hyz129 => exact Or.inr ⟨by rfl, rfl⟩
        (try simp only [Act.put, List.setIfInBounds_toArray, List.set_cons_zero, List.set_cons_succ])
        refine wpAnyH_take (i := 8) (oi := ?oiz130) (v := undef) ?hiz130 (by kernel_rfl) (by kernel_rfl) (by kernel_rfl) ?hqz130 ?hyz130 hHeld ?restz130
        case hiz130 => simp only [List.getElem?_toArray, List.getElem?_cons_succ, List.getElem?_cons_zero]; exact rfl
        case hqz130 => exact fun _ _ _ h => h
        case hyz130 => exact Or.inr ⟨by rfl, rfl⟩
        (try simp only [Act.put, List.setIfInBounds_toArray, List.set_cons_zero, List.set_cons_succ])
        refine wpAnyH_take (i := 9) (oi := ?oiz131) (v := undef) ?hiz131 (by kernel_rfl) (by kernel_rfl) (by kernel_rfl) ?hqz131 ?hyz131 hHeld ?restz131
        case hiz131 => simp only [List.getElem?_toArray, List.getElem?_cons_succ, List.getElem?_cons_zero]; exact rfl
        case hqz131 => exact fun _ _ _ h => h
        case hyz131 => exact Or.inr ⟨by rfl, rfl⟩
        (try simp only [Act.put, List.setIfInBounds_toArray, List.set_cons_zero, List.set_cons_succ])
        refine wpAnyH_take (i := 10) (oi := ?oiz132) (v := undef) ?hiz132 (by kernel_rfl) (by kernel_rfl) (by kernel_rfl) ?hqz132 ?hyz132 hHeld ?restz132
        case hiz132 => simp only [List.getElem?_toArray, List.getElem?_cons_succ, List.getElem?_cons_zero]; exact rfl
        case hqz132 => exact fun _ _ _ h => h
        case hyz132 => exact Or.inr ⟨by rfl, rfl⟩
        (try simp only [Act.put, List.setIfInBounds_toArray, List.set_cons_zero, List.set_cons_succ])
        refine wpAnyH_take (i := 11) (oi := ?oiz133) (v := ?vz133) ?hiz133 (by kernel_rfl) (by kernel_rfl) (by kernel_rfl) ?hqz133 ?hyz133 hHeld ?restz133
        case hiz133 => simp only [List.getElem?_toArray, List.getElem?_cons_succ, List.getElem?_cons_zero]; exact rfl
        case hqz133 => exact fun _ _ _ h => h
        case hyz133 => refine Or.inl ⟨by rfl, ?_⟩; intro w hSw; (try dsimp only at hSw); go_simp; try with_reducible rfl
        (try simp only [Act.put, List.setIfInBounds_toArray, List.set_cons_zero, List.set_cons_succ])
        refine wpAnyH_take (i := 12) (oi := ?oiz134) (v := ?vz134) ?hiz134 (by kernel_rfl) (by kernel_rfl) (by kernel_rfl) ?hqz134 ?hyz134 hHeld ?restz134
        case hiz134 => simp only [List.getElem?_toArray, List.getElem?_cons_succ, List.getElem?_cons_zero]; exact rfl
        case hqz134 => exact fun _ _ _ h => h
        case hyz134 => refine Or.inl ⟨by rfl, ?_⟩; intro w hSw; (try dsimp only at hSw); go_simp; try with_reducible rfl
        (try simp only [Act.put, List.setIfInBounds_toArray, List.set_cons_zero, List.set_cons_succ])
        refine wpAnyH_take (i := 13) (oi := ?oiz135) (v := ?vz135) ?hiz135 (by kernel_rfl) (by kernel_rfl) (by kernel_rfl) ?hqz135 ?hyz135 hHeld ?restz135
        case hiz135 => simp only [List.getElem?_toArray, List.getElem?_cons_succ, List.getElem?_cons_zero]; exact rfl
        case hqz135 => exact fun _ _ _ h => h
        case hyz135 => refine Or.inl ⟨by rfl, ?_⟩; intro w hSw; (try dsimp only at hSw); go_simp; try with_reducible rfl
        (try simp only [Act.put, List.setIfInBounds_toArray, List.set_cons_zero, List.set_cons_succ])
        refine wpAnyH_take (i := 14) (oi := ?oiz136) (v := ?vz136) ?hiz136 (by kernel_rfl) (by kernel_rfl) (by kernel_rfl) ?hqz136 ?hyz136 hHeld ?restz136
        case hiz136 => simp only [List.getElem?_toArray, List.getElem?_cons_succ, List.getElem?_cons_zero]; exact rfl
        case hqz136 => exact fun _ _ _ h => h
        case hyz136 => refine Or.inl ⟨by rfl, ?_⟩; intro w hSw; (try dsimp only at hSw); go_simp; try with_reducible rfl
        (try simp only [Act.put, List.setIfInBounds_toArray, List.set_cons_zero, List.set_cons_succ])
        refine wpAnyH_take (i := 15) (oi := ?oiz137) (v := ?vz137) ?hiz137 (by kernel_rfl) (by kernel_rfl) (by kernel_rfl) ?hqz137 ?hyz137 hHeld ?restz137
        case hiz137 => simp only [List.getElem?_toArray, List.getElem?_cons_succ, List.getElem?_cons_zero]; exact rfl
        case hqz137 => exact fun _ _ _ h => h
        case hyz137 => refine Or.inl ⟨by rfl, ?_⟩; intro w hSw; (try dsimp only at hSw); go_simp; try with_reducible rfl
        (try simp only [Act.put, List.setIfInBounds_toArray, List.set_cons_zero, List.set_cons_succ])
        refine wpAnyH_take (i := 16) (oi := ?oiz138) (v := ?vz138) ?hiz138 (by kernel_rfl) (by kernel_rfl) (by kernel_rfl) ?hqz138 ?hyz138 hHeld ?restz138
        case hiz138 => simp only [List.getElem?_toArray, List.getElem?_cons_succ, List.getElem?_cons_zero]; exact rfl
        case hqz138 => exact fun _ _ _ h => h
        case hyz138 => refine Or.inl ⟨by rfl, ?_⟩; intro w hSw; (try dsimp only at hSw); go_simp; try with_reducible rfl
        (try simp only [Act.put, List.setIfInBounds_toArray, List.set_cons_zero, List.set_cons_succ])
        refine wpAnyH_take (i := 17) (oi := ?oiz139) (v := ?vz139) ?hiz139 (by kernel_rfl) (by kernel_rfl) (by kernel_rfl) ?hqz139 ?hyz139 hHeld ?restz139
        case hiz139 => simp only [List.getElem?_toArray, List.getElem?_cons_succ, List.getElem?_cons_zero]; exact rfl
        case hqz139 => exact fun _ _ _ h => h
        case hyz139 => refine Or.inl ⟨by rfl, ?_⟩; intro w hSw; (try dsimp only at hSw); go_simp; try with_reducible rfl
        (try simp only [Act.put, List.setIfInBounds_toArray, List.set_cons_zero, List.set_cons_succ])
        refine wpAnyH_take (i := 18) (oi := ?oiz140) (v := ?vz140) ?hiz140 (by kernel_rfl) (by kernel_rfl) (by kernel_rfl) ?hqz140 ?hyz140 hHeld ?restz140
        case hiz140 => simp only [List.getElem?_toArray, List.getElem?_cons_succ, List.getElem?_cons_zero]; exact rfl
        case hqz140 => exact fun _ _ _ h => h
        case hyz140 => refine Or.inl ⟨by rfl, ?_⟩; intro w hSw; (try dsimp only at hSw); go_simp; try with_reducible rfl
        (try simp only [Act.put, List.setIfInBounds_toArray, List.set_cons_zero, List.set_cons_succ])
        refine wpAnyH_take (i := 19) (oi := ?oiz141) (v := ?vz141) ?hiz141 (by kernel_rfl) (by kernel_rfl) (by kernel_rfl) ?hqz141 ?hyz141 hHeld ?restz141
        case hiz141 => simp only [List.getElem?_toArray, List.getElem?_cons_succ, List.getElem?_cons_zero]; exact rfl
        case hqz141 => exact fun _ _ _ h => h
        case hyz141 => refine Or.inl ⟨by rfl, ?_⟩; intro w hSw; (try dsimp only at hSw); go_simp; try with_reducible rfl
        (try simp only [Act.put, List.setIfInBounds_toArray, List.set_cons_zero, List.set_cons_succ])
        refine wpAnyH_take (i := 20) (oi := ?oiz142) (v := ?vz142) ?hiz142 (by kernel_rfl) (by kernel_rfl) (by kernel_rfl) ?hqz142 ?hyz142 hHeld ?restz142
        case hiz142 => simp only [List.getElem?_toArray, List.getElem?_cons_succ, List.getElem?_cons_zero]; exact rfl
        case hqz142 => exact fun _ _ _ h => h
        case hyz142 => refine Or.inl ⟨by rfl, ?_⟩; intro w hSw; (try dsimp only at hSw); go_simp; try with_reducible rfl
        (try simp only [Act.put, List.setIfInBounds_toArray, List.set_cons_zero, List.set_cons_succ])
        refine wpAnyH_done (by kernel_rfl) ?_ _
        have hgr : Grew w9 w9.drew := hHeld.2
        replace ha := ha.grew hgr
        replace hx := hx.grew hgr
        replace hEa := ent_grew hgr hEa
        replace hEx := ent_grew hgr hEx
        replace hg := hg.trans hgr
        clear hgr mk hHeld
        generalize w9.drew = w11 at *
        go_upto_region 11 with fail
        have mk : Hid (∀ w', Grew w11 w' → w'.cell? ⟨w1.heap.size, 0, none⟩ = some (.slice a.ao a.n a.c) ∧ w'.cell? ⟨w2.heap.size, 0, none⟩ = some (.slice x.ao x.n x.c) ∧ Grew w11 w') :=
          fun w' hg => ⟨cell_grew hg hEa, cell_grew hg hEx, hg⟩
        clear hEa hEx
        refine wp_region_held_drew (S := (fun w' => w'.cell? ⟨w1.heap.size, 0, none⟩ = some (.slice a.ao a.n a.c) ∧ w'.cell? ⟨w2.heap.size, 0, none⟩ = some (.slice x.ao x.n x.c) ∧ Grew w11 w')) (by kernel_rfl) ?hSz143 (fun hHeld => ?restz143)
        case hSz143 => (try dsimp only); (first | exact mk.out _ (Grew.refl _).drew | exact mk.out _ (Grew.call hHeld.2.2 ‹Below _ _ _›))
        refine wpAnyH_take (i := 0) (oi := ?oiz144) (v := ?vz144) ?hiz144 (by kernel_rfl) (by kernel_rfl) (by kernel_rfl) ?hqz144 ?hyz144 hHeld ?restz144
        case hiz144 => simp only [List.getElem?_toArray, List.getElem?_cons_zero]; exact rfl
        case hqz144 => exact fun _ _ _ h => h
        case hyz144 => refine Or.inl ⟨by rfl, ?_⟩; intro w hSw; (try dsimp only at hSw); go_simp; try with_reducible rfl
        (try simp only [Act.put, List.setIfInBounds_toArray, List.set_cons_zero, List.set_cons_succ])
        refine wpAnyH_take (i := 2) (oi := ?oiz145) (v := ?vz145) ?hiz145 (by kernel_rfl) (by kernel_rfl) (by kernel_rfl) ?hqz145 ?hyz145 hHeld ?restz145
        case hiz145 => simp only [List.getElem?_toArray, List.getElem?_cons_succ, List.getElem?_cons_zero]; exact rfl
        case hqz145 => exact fun _ _ _ h => h
        case hyz145 => refine Or.inl ⟨by rfl, ?_⟩; intro w hSw; (try dsimp only at hSw); go_simp; try with_reducible rfl
        (try simp only [Act.put, List.setIfInBounds_toArray, List.set_cons_zero, List.set_cons_succ])
        refine wpAnyH_ready (rs := [1]) (by kernel_rfl) (by simp) ?_
        refine AllReadyH.cons (o := ?oiz146) ?hiz146 (fun K hK => ?stepz146) AllReadyH.nil
        case hiz146 => simp only [List.getElem?_toArray, List.getElem?_cons_succ, List.getElem?_cons_zero]; exact rfl
        go_simp
        (go_at_call 17; refine (text_spec (ha.grew hHeld.2.2) (by omega)).mono ?_; rintro e w12 ⟨rfl, hb12⟩; rw [HT.out])
        refine hK.out _ _ ?hSz146 (fun hHeld' => ?restz146)
        case hSz146 => (try dsimp only); (first | exact mk.out _ (Grew.refl _).drew | exact mk.out _ (Grew.call hHeld.2.2 ‹Below _ _ _›))
        clear hK K hHeld
        have hHeld := hHeld'
        clear hHeld'
        (try simp only [Act.put, List.setIfInBounds_toArray, List.set_cons_zero, List.set_cons_succ])
        refine wpAnyH_take (i := 3) (oi := ?oiz147) (v := ?vz147) ?hiz147 (by kernel_rfl) (by kernel_rfl) (by kernel_rfl) ?hqz147 ?hyz147 hHeld ?restz147
        case hiz147 => simp only [List.getElem?_toArray, List.getElem?_cons_succ, List.getElem?_cons_zero]; exact rfl
        case hqz147 => exact fun _ _ _ h => h
        case hyz147 => refine Or.inl ⟨by rfl, ?_⟩; intro w hSw; (try dsimp only at hSw); go_simp; try with_reducible rfl
        (try simp only [Act.put, List.setIfInBounds_toArray, List.set_cons_zero, List.set_cons_succ])
        refine wpAnyH_take (i := 4) (oi := ?oiz148) (v := ?vz148) ?hiz148 (by kernel_rfl) (by kernel_rfl) (by kernel_rfl) ?hqz148 ?hyz148 hHeld ?restz148
        case hiz148 => simp only [List.getElem?_toArray, List.getElem?_cons_succ, List.getElem?_cons_zero]; exact rfl
        case hqz148 => exact fun _ _ _ h => h
        case hyz148 => refine Or.inl ⟨by rfl, ?_⟩; intro w hSw; (try dsimp only at hSw); go_simp; try with_reducible rfl
        (try simp only [Act.put, List.setIfInBounds_toArray, List.set_cons_zero, List.set_cons_succ])
        refine wpAnyH_take (i := 5) (oi := ?oiz149) (v := ?vz149) ?hiz149 (by kernel_rfl) (by kernel_rfl) (by kernel_rfl) ?hqz149 ?hyz149 hHeld ?restz149
        case hiz149 => simp only [List.getElem?_toArray, List.getElem?_cons_succ, List.getElem?_cons_zero]; exact rfl
        case hqz149 => exact fun _ _ _ h => h
        case hyz149 => refine Or.inl ⟨by rfl, ?_⟩; intro w hSw; (try dsimp only at hSw); go_simp; try with_reducible rfl
        (try simp only [Act.put, List.setIfInBounds_toArray, List.set_cons_zero, List.set_cons_succ])
        refine wpAnyH_take (i := 6) (oi := ?oiz150) (v := ?vz150) ?hiz150 (by kernel_rfl) (by kernel_rfl) (by kernel_rfl) ?hqz150 ?hyz150 hHeld ?restz150
        case hiz150 => simp only [List.getElem?_toArray, List.getElem?_cons_succ, List.getElem?_cons_zero]; exact rfl
        case hqz150 => exact fun _ _ _ h => h
        case hyz150 => refine Or.inl ⟨by rfl, ?_⟩; intro w hSw; (try dsimp only at hSw); go_simp; try with_reducible rfl
        (try simp only [Act.put, List.setIfInBounds_toArray, List.set_cons_zero, List.set_cons_succ])
        refine wpAnyH_take (i := 7) (oi := ?oiz151) (v := ?vz151) ?hiz151 (by kernel_rfl) (by kernel_rfl) (by kernel_rfl) ?hqz151 ?hyz151 hHeld ?restz151
        case hiz151 => simp only [List.getElem?_toArray, List.getElem?_cons_succ, List.getElem?_cons_zero]; exact rfl
        case hqz151 => exact fun _ _ _ h => h
        case hyz151 => refine Or.inl ⟨by rfl, ?_⟩; intro w hSw; (try dsimp only at hSw); go_simp; try with_reducible rfl
        (try simp only [Act.put, List.setIfInBounds_toArray, List.set_cons_zero, List.set_cons_succ])
        refine wpAnyH_take (i := 8) (oi := ?oiz152) (v := ?vz152) ?hiz152 (by kernel_rfl) (by kernel_rfl) (by kernel_rfl) ?hqz152 ?hyz152 hHeld ?restz152
        case hiz152 => simp only [List.getElem?_toArray, List.getElem?_cons_succ, List.getElem?_cons_zero]; exact rfl
        case hqz152 => exact fun _ _ _ h => h
        case hyz152 => refine Or.inl ⟨by rfl, ?_⟩; intro w hSw; (try dsimp only at hSw); go_simp; try with_reducible rfl
        (try simp only [Act.put, List.setIfInBounds_toArray, List.set_cons_zero, List.set_cons_succ])
        refine wpAnyH_take (i := 9) (oi := ?oiz153) (v := ?vz153) ?hiz153 (by kernel_rfl) (by kernel_rfl) (by kernel_rfl) ?hqz153 ?hyz153 hHeld ?restz153
        case hiz153 => simp only [List.getElem?_toArray, List.getElem?_cons_succ, List.getElem?_cons_zero]; exact rfl
        case hqz153 => exact fun _ _ _ h => h
        case hyz153 => refine Or.inl ⟨by rfl, ?_⟩; intro w hSw; (try dsimp only at hSw); go_simp; try with_reducible rfl
        (try simp only [Act.put, List.setIfInBounds_toArray, List.set_cons_zero, List.set_cons_succ])
        refine wpAnyH_take (i := 11) (oi := ?oiz154) (v := ?vz154) ?hiz154 (by kernel_rfl) (by kernel_rfl) (by kernel_rfl) ?hqz154 ?hyz154 hHeld ?restz154
        case hiz154 => simp only [List.getElem?_toArray, List.getElem?_cons_succ, List.getElem?_cons_zero]; exact rfl
        case hqz154 => exact fun _ _ _ h => h
        case hyz154 => refine Or.inl ⟨by rfl, ?_⟩; intro w hSw; (try dsimp only at hSw); go_simp; try with_reducible rfl
        (try simp only [Act.put, List.setIfInBounds_toArray, List.set_cons_zero, List.set_cons_succ])
        refine wpAnyH_ready (rs := [10]) (by kernel_rfl) (by simp) ?_
        refine AllReadyH.cons (o := ?oiz155) ?hiz155 (fun K hK => ?stepz155) AllReadyH.nil
        case hiz155 => simp only [List.getElem?_toArray, List.getElem?_cons_succ, List.getElem?_cons_zero]; exact rfl
        go_simp
        (go_at_call 23; refine (bits_spec (ha.grew hHeld.2.2) (by omega)).mono ?_; rintro e w13 ⟨rfl, hb13⟩)
        refine hK.out _ _ ?hSz155 (fun hHeld' => ?restz155)
        case hSz155 => (try dsimp only); (first | exact mk.out _ (Grew.refl _).drew | exact mk.out _ (Grew.call hHeld.2.2 ‹Below _ _ _›))
        clear hK K hHeld
        have hHeld := hHeld'
        clear hHeld'
        (try simp only [Act.put, List.setIfInBounds_toArray, List.set_cons_zero, List.set_cons_succ])
        refine wpAnyH_ready (rs := [12]) (by kernel_rfl) (by simp) ?_
        refine AllReadyH.cons (o := ?oiz156) ?hiz156 (fun K hK => ?stepz156) AllReadyH.nil
        case hiz156 => simp only [List.getElem?_toArray, List.getElem?_cons_succ, List.getElem?_cons_zero]; exact rfl
        go_simp
        (go_at_call 24; refine (rbits_spec (hx.grew hHeld.2.2) (by omega)).mono ?_; rintro e w14 ⟨rfl, hb14⟩)
        refine hK.out _ _ ?hSz156 (fun hHeld' => ?restz156)
        case hSz156 => (try dsimp only); (first | exact mk.out _ (Grew.refl _).drew | exact mk.out _ (Grew.call hHeld.2.2 ‹Below _ _ _›))
        clear hK K hHeld
        have hHeld := hHeld'
        clear hHeld'
        (try simp only [Act.put, List.setIfInBounds_toArray, List.set_cons_zero, List.set_cons_succ])
        refine wpAnyH_take (i := 13) (oi := ?oiz157) (v := ?vz157) ?hiz157 (by kernel_rfl) (by kernel_rfl) (by kernel_rfl) ?hqz157 ?hyz157 hHeld ?restz157
        case hiz157 => simp only [List.getElem?_toArray, List.getElem?_cons_succ, List.getElem?_cons_zero]; exact rfl
        case hqz157 => exact fun _ _ _ h => h
        case hyz157 => refine Or.inl ⟨by rfl, ?_⟩; intro w hSw; (try dsimp only at hSw); go_simp; try with_reducible rfl
        (try simp only [Act.put, List.setIfInBounds_toArray, List.set_cons_zero, List.set_cons_succ])
        refine wpAnyH_take (i := 14) (oi := ?oiz158) (v := ?vz158) ?hiz158 (by kernel_rfl) (by kernel_rfl) (by kernel_rfl) ?hqz158 ?hyz158 hHeld ?restz158
        case hiz158 => simp only [List.getElem?_toArray, List.getElem?_cons_succ, List.getElem?_cons_zero]; exact rfl
        case hqz158 => exact fun _ _ _ h => h
        case hyz158 => refine Or.inl ⟨by rfl, ?_⟩; intro w hSw; (try dsimp only at hSw); go_simp; try with_reducible rfl
        (try simp only [Act.put, List.setIfInBounds_toArray, List.set_cons_zero, List.set_cons_succ])
        refine wpAnyH_take (i := 15) (oi := ?oiz159) (v := ?vz159) ?hiz159 (by kernel_rfl) (by kernel_rfl) (by kernel_rfl) ?hqz159 ?hyz159 hHeld ?restz159
        case hiz159 => simp only [List.getElem?_toArray, List.getElem?_cons_succ, List.getElem?_cons_zero]; exact rfl
        case hqz159 => exact fun _ _ _ h => h
        case hyz159 => refine Or.inl ⟨by rfl, ?_⟩; intro w hSw; (try dsimp only at hSw); go_simp; try with_reducible rfl
        (try simp only [Act.put, List.setIfInBounds_toArray, List.set_cons_zero, List.set_cons_succ])
        refine wpAnyH_take (i := 16) (oi := ?oiz160) (v := ?vz160) ?hiz160 (by kernel_rfl) (by kernel_rfl) (by kernel_rfl) ?hqz160 ?hyz160 hHeld ?restz160
        case hiz160 => simp only [List.getElem?_toArray, List.getElem?_cons_succ, List.getElem?_cons_zero]; exact rfl
        case hqz160 => exact fun _ _ _ h => h
        case hyz160 => refine Or.inl ⟨by rfl, ?_⟩; intro w hSw; (try dsimp only at hSw); go_simp; try with_reducible rfl
        (try simp only [Act.put, List.setIfInBounds_toArray, List.set_cons_zero, List.set_cons_succ])
        refine wpAnyH_done (by kernel_rfl) ?_ _
        have hgr := hg.trans hHeld.2.2
        clear hHeld mk
        go_wp2
        go_ret
        exact ⟨rfl, hgr⟩
  · go_enter Try.func3, Try.ntmps3
    have hg := Grew.refl w
    go_wp2_with fail
    refine (parse_spec s _ hs).mono ?_
    rintro e w1 ⟨a, rfl, ha, -, han, hb1⟩
    have ha1 : Grew w1 ((w1.alloc (.cells #[.slice a.ao a.n a.c] 24))) := (Grew.refl w1).alloc (.cells #[.slice a.ao a.n a.c] 24)
    have hg1' := (Grew.call (Grew.refl _) hb1).trans ha1
    replace ha := ha.grew ha1
    have hEa := ent_new w1 (.cells #[.slice a.ao a.n a.c] 24)
    replace hg := hg.trans hg1'
    clear hg1' ha1 hb1
    have chEa := box_cell hEa
    go_wp2_with fail
    generalize (w1.alloc (.cells #[.slice a.ao a.n a.c] 24)) = W1 at *
    refine (rparse_spec s _ hs).mono ?_
    rintro e w2 ⟨x, rfl, hx, -, hxn, hb2⟩
    have ha2 : Grew w2 ((w2.alloc (.cells #[.slice x.ao x.n x.c] 30))) := (Grew.refl w2).alloc (.cells #[.slice x.ao x.n x.c] 30)
    have hg2' := (Grew.call (Grew.refl _) hb2).trans ha2
    replace ha := ha.grew hg2'
    replace hEa := ent_grew hg2' hEa
    replace hx := hx.grew ha2
    have hEx := ent_new w2 (.cells #[.slice x.ao x.n x.c] 30)
    replace hg := hg.trans hg2'
    clear hg2' ha2 hb2 chEa
    have chEa := box_cell hEa
    have chEx := box_cell hEx
    go_wp2_with fail
    generalize (w2.alloc (.cells #[.slice x.ao x.n x.c] 30)) = W2 at *
    refine (known_spec _).mono ?_
    rintro e w3 ⟨rfl, hb3⟩
    have ha3 : Grew w3 (w3) := Grew.refl w3
    have hg3' := (Grew.call (Grew.refl _) hb3).trans ha3
    replace ha := ha.grew hg3'
    replace hx := hx.grew hg3'
    replace hEa := ent_grew hg3' hEa
    replace hEx := ent_grew hg3' hEx
    replace hg := hg.trans hg3'
    clear hg3' ha3 hb3 chEa chEx
    have chEa := box_cell hEa
    have chEx := box_cell hEx
    rw [perr_ne hp] at ha
    have hpI : (perr s == 0) = false := beq_eq_false_iff_ne.2 hp
    clear hp
    generalize perr s = p at *
    go_wp2_with fail
    refine (known_t (c := ⟨#[48]⟩) ha (by omega) (by decide +kernel) (by decide +kernel)).mono ?_
    rintro e w4 ⟨rfl, hb4⟩
    have ha4 : Grew w4 (w4) := Grew.refl w4
    have hg4' := (Grew.call (Grew.refl _) hb4).trans ha4
    replace ha := ha.grew hg4'
    replace hx := hx.grew hg4'
    replace hEa := ent_grew hg4' hEa
    replace hEx := ent_grew hg4' hEx
    replace hg := hg.trans hg4'
    clear hg4' ha4 hb4 chEa chEx
    have chEa := box_cell hEa
    have chEx := box_cell hEx
    go_wp2
    go_ret
    exact ⟨rfl, hg⟩

end Go.Proofs.Ytahfnbbdhhehhaa
