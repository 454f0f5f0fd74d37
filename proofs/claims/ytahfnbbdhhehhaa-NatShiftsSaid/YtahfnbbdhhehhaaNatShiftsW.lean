/- NatShifts: the walk. -/
import Derived.Test.YtahfnbbdhhehhaaLawF
import Derived.Test.YtahfnbbdhhehhaaLawG
import Derived.Test.YtahfnbbdhhehhaaRefI
namespace Go.Proofs.Ytahfnbbdhhehhaa
open Go.RowKit

/-- The quotient, in its box. -/
def DivBox (W : World) (z : Nat) (s16 : Value) (wx : World) : Prop := ∃ (g : Nat) (q : Sl), s16 = .pointer (some ⟨g, 0, none⟩) ∧ wx.heap[g]? = some (.cells #[.slice q.ao q.n q.c] 30 (0, 0)) ∧ RefS wx q z ∧ q.n ≤ 200 ∧ Grew W wx

theorem DivBox.e1 {W wd : World} {q : Sl} {z : Nat} (hq : RefS wd q z) (hn : q.n ≤ 200) (hg : Grew W wd) (v : Value) : DivBox W z (.pointer (some ⟨wd.heap.size, 0, none⟩)) ((wd.alloc (.cells #[.slice q.ao q.n q.c] 30)).alloc (.cells #[v] 30)) :=
  ⟨_, q, rfl, ent_old (ent_new _ _) _, hq.kp (((Kp.refl _).alloc _).alloc _), hn, (hg.alloc _).alloc _⟩
theorem DivBox.e2 {W wd : World} {q : Sl} {z : Nat} (hq : RefS wd q z) (hn : q.n ≤ 200) (hg : Grew W wd) (v : Value) : DivBox W z (.pointer (some ⟨wd.heap.size + 1, 0, none⟩)) ((wd.alloc (.cells #[v] 30)).alloc (.cells #[.slice q.ao q.n q.c] 30)) :=
  ⟨_, q, rfl, (ents2 _ _ _).2.1, hq.kp (((Kp.refl _).alloc _).alloc _), hn, (hg.alloc _).alloc _⟩
theorem DivBox.e3 {W wd : World} {q : Sl} {z g : Nat} (hq : RefS wd q z) (hn : q.n ≤ 200) (hg : Grew W wd) (he : wd.heap[g]? = some (.cells #[.slice none 0 0] 30 (0, 0))) (hl : W.heap.size ≤ g) (v : Value) : DivBox W z (.pointer (some ⟨g, 0, none⟩)) ((wd.setCell ⟨g, 0, none⟩ (.slice q.ao q.n q.c)).alloc (.cells #[v] 30)) :=
  ⟨_, q, rfl, ent_old (box_set he _) _, hq.kp (((Kp.refl _).setCell he (by decide) _).alloc _), hn, (hg.set hl _).alloc _⟩
theorem DivBox.e4 {W wd : World} {q : Sl} {z h : Nat} (hq : RefS wd q z) (hn : q.n ≤ 200) (hg : Grew W wd) (he : wd.heap[h]? = some (.cells #[.slice none 0 0] 30 (0, 0))) (hl : W.heap.size ≤ h) (v : Value) : DivBox W z (.pointer (some ⟨wd.heap.size, 0, none⟩)) ((wd.setCell ⟨h, 0, none⟩ v).alloc (.cells #[.slice q.ao q.n q.c] 30)) :=
  ⟨_, q, rfl, by have := ent_new (wd.setCell ⟨h, 0, none⟩ v) (.cells #[.slice q.ao q.n q.c] 30); simpa using this, hq.kp (((Kp.refl _).setCell he (by decide) _).alloc _), hn, (hg.set hl _).alloc _⟩
theorem DivBox.e5 {W wd : World} {q : Sl} {z g h : Nat} (hq : RefS wd q z) (hn : q.n ≤ 200) (hg : Grew W wd) (he : wd.heap[g]? = some (.cells #[.slice none 0 0] 30 (0, 0))) (he' : wd.heap[h]? = some (.cells #[.slice none 0 0] 30 (0, 0))) (hl : W.heap.size ≤ g) (hl' : W.heap.size ≤ h) (hne : g ≠ h) (v : Value) : DivBox W z (.pointer (some ⟨g, 0, none⟩)) ((wd.setCell ⟨g, 0, none⟩ (.slice q.ao q.n q.c)).setCell ⟨h, 0, none⟩ v) :=
  ⟨_, q, rfl, box_keep (box_set he _) hne _, hq.kp (((Kp.refl _).setCell he (by decide) _).setCell (box_keep he' hne.symm _) (by decide) _), hn, (hg.set hl _).set hl' _⟩

set_option maxRecDepth 100000 in
set_option maxHeartbeats 12800000 in
theorem natShifts_walk (s : ByteArray) (k : Int) (hs : s.size ≤ maxLen) (hk : (Lit.int .i64 k).wf = true) (w : World) :
    Calls Try.prog 7 #[.string s, .int .i64 k] w fun e w' => e = .returned (.bool true) ∧ Below w.heap.size w w' := by
  unfold maxLen at hs
  clear hk
  cases hk1 : ok2 s ⟨#[48]⟩ with
  | false =>
    go_enter Try.func7, Try.ntmps7
    go_wp2_with fail
    refine (two_spec s ⟨#[48]⟩ _ hs (by decide)).mono ?_
    rintro e w1 ⟨a, b, x, y, rfl, ha, hb, hx, hy, han, hbn, hxn, hyn, hb1⟩
    have hg1 := (Grew.call (Grew.refl _) hb1).trans (two4 w1 a b x y).1
    obtain ⟨hgA, hEa, hEb, hEx, hEy⟩ := two4 w1 a b x y
    have ha := ha.grew hgA
    have hb := hb.grew hgA
    have hx := hx.grew hgA
    have hy := hy.grew hgA
    go_wp2_with fail
    change Calls _ _ _ (Two4 w1 a b x y) _
    generalize Two4 w1 a b x y = W1 at *
    clear hgA hb1
    refine (up_all k ha (by omega)).mono ?_
    rintro e w2 ⟨u, eu, rfl, hb1⟩
    have ha1 : Grew w2 ((w2.alloc (.cells #[.slice u.ao u.n u.c] 24))) := (Grew.refl w2).alloc (.cells #[.slice u.ao u.n u.c] 24)
    have hg1' := (Grew.call (Grew.refl _) hb1).trans ha1
    replace ha := ha.grew hg1'
    replace hb := hb.grew hg1'
    replace hx := hx.grew hg1'
    replace hy := hy.grew hg1'
    replace hEa := ent_grew hg1' hEa
    replace hEb := ent_grew hg1' hEb
    replace hEx := ent_grew hg1' hEx
    replace hEy := ent_grew hg1' hEy
    have hEu := ent_new w2 (.cells #[.slice u.ao u.n u.c] 24)
    replace hg1 := hg1.trans hg1'
    clear hg1' ha1 hb1
    have chEa := box_cell hEa
    have chEb := box_cell hEb
    have chEx := box_cell hEx
    have chEy := box_cell hEy
    have chEu := box_cell hEu
    go_wp2_with fail
    generalize (w2.alloc (.cells #[.slice u.ao u.n u.c] 24)) = W2 at *
    refine (down_all k ha (by omega)).mono ?_
    rintro e w3 ⟨v, ev, rfl, hb2⟩
    have ha2 : Grew w3 ((w3.alloc (.cells #[.slice v.ao v.n v.c] 24))) := (Grew.refl w3).alloc (.cells #[.slice v.ao v.n v.c] 24)
    have hg2' := (Grew.call (Grew.refl _) hb2).trans ha2
    replace ha := ha.grew hg2'
    replace hb := hb.grew hg2'
    replace hx := hx.grew hg2'
    replace hy := hy.grew hg2'
    replace hEa := ent_grew hg2' hEa
    replace hEb := ent_grew hg2' hEb
    replace hEx := ent_grew hg2' hEx
    replace hEy := ent_grew hg2' hEy
    replace hEu := ent_grew hg2' hEu
    have hEv := ent_new w3 (.cells #[.slice v.ao v.n v.c] 24)
    replace hg1 := hg1.trans hg2'
    clear hg2' ha2 hb2 chEa chEb chEx chEy chEu
    have chEa := box_cell hEa
    have chEb := box_cell hEb
    have chEx := box_cell hEx
    have chEy := box_cell hEy
    have chEu := box_cell hEu
    have chEv := box_cell hEv
    go_wp2_with fail
    generalize (w3.alloc (.cells #[.slice v.ao v.n v.c] 24)) = W3 at *
    refine (known_spec _).mono ?_
    rintro e w4 ⟨rfl, hb3⟩
    have ha3 : Grew w4 (w4) := Grew.refl w4
    have hg3' := (Grew.call (Grew.refl _) hb3).trans ha3
    replace ha := ha.grew hg3'
    replace hb := hb.grew hg3'
    replace hx := hx.grew hg3'
    replace hy := hy.grew hg3'
    replace hEa := ent_grew hg3' hEa
    replace hEb := ent_grew hg3' hEb
    replace hEx := ent_grew hg3' hEx
    replace hEy := ent_grew hg3' hEy
    replace hEu := ent_grew hg3' hEu
    replace hEv := ent_grew hg3' hEv
    replace hg1 := hg1.trans hg3'
    clear hg3' ha3 hb3 chEa chEb chEx chEy chEu chEv
    have chEa := box_cell hEa
    have chEb := box_cell hEb
    have chEx := box_cell hEx
    have chEy := box_cell hEy
    have chEu := box_cell hEu
    have chEv := box_cell hEv
    go_wp2_with fail
    refine (known_spec _).mono ?_
    rintro e w5 ⟨rfl, hb4⟩
    have ha4 : Grew w5 (w5) := Grew.refl w5
    have hg4' := (Grew.call (Grew.refl _) hb4).trans ha4
    replace ha := ha.grew hg4'
    replace hb := hb.grew hg4'
    replace hx := hx.grew hg4'
    replace hy := hy.grew hg4'
    replace hEa := ent_grew hg4' hEa
    replace hEb := ent_grew hg4' hEb
    replace hEx := ent_grew hg4' hEx
    replace hEy := ent_grew hg4' hEy
    replace hEu := ent_grew hg4' hEu
    replace hEv := ent_grew hg4' hEv
    replace hg1 := hg1.trans hg4'
    clear hg4' ha4 hb4 chEa chEb chEx chEy chEu chEv
    have chEa := box_cell hEa
    have chEb := box_cell hEb
    have chEx := box_cell hEx
    have chEy := box_cell hEy
    have chEu := box_cell hEu
    have chEv := box_cell hEv
    go_wp2_with fail
    refine (odd_spec s ⟨#[48]⟩ _ hs (by decide)).mono ?_
    rintro e w6 ⟨rfl, hb5⟩
    have ha5 : Grew w6 (w6) := Grew.refl w6
    have hg5' := (Grew.call (Grew.refl _) hb5).trans ha5
    replace ha := ha.grew hg5'
    replace hb := hb.grew hg5'
    replace hx := hx.grew hg5'
    replace hy := hy.grew hg5'
    replace hEa := ent_grew hg5' hEa
    replace hEb := ent_grew hg5' hEb
    replace hEx := ent_grew hg5' hEx
    replace hEy := ent_grew hg5' hEy
    replace hEu := ent_grew hg5' hEu
    replace hEv := ent_grew hg5' hEv
    replace hg1 := hg1.trans hg5'
    clear hg5' ha5 hb5 chEa chEb chEx chEy chEu chEv
    have chEa := box_cell hEa
    have chEb := box_cell hEb
    have chEx := box_cell hEx
    have chEy := box_cell hEy
    have chEu := box_cell hEu
    have chEv := box_cell hEv
    go_wp2
    go_ret
    exact ⟨rfl, hg1⟩
  | true =>
    by_cases hneg : k < 0
    · have hk0 : k < 0 := hneg
      go_enter Try.func7, Try.ntmps7
      go_wp2_with fail
      refine (two_spec s ⟨#[48]⟩ _ hs (by decide)).mono ?_
      rintro e w1 ⟨a, b, x, y, rfl, ha, hb, hx, hy, han, hbn, hxn, hyn, hb1⟩
      have hg1 := (Grew.call (Grew.refl _) hb1).trans (two4 w1 a b x y).1
      obtain ⟨hgA, hEa, hEb, hEx, hEy⟩ := two4 w1 a b x y
      have ha := ha.grew hgA
      have hb := hb.grew hgA
      have hx := hx.grew hgA
      have hy := hy.grew hgA
      go_wp2_with fail
      change Calls _ _ _ (Two4 w1 a b x y) _
      generalize Two4 w1 a b x y = W1 at *
      clear hgA hb1
      clear hk1
      refine (up_err a.ao a.n a.c _ k (Or.inl hneg)).mono ?_
      rintro e w2 ⟨rfl, hb1⟩
      have ha1 : Grew w2 ((w2.alloc (.cells #[.slice none 0 0] 24))) := (Grew.refl w2).alloc (.cells #[.slice none 0 0] 24)
      have hg1' := (Grew.call (Grew.refl _) hb1).trans ha1
      replace ha := ha.grew hg1'
      replace hb := hb.grew hg1'
      replace hx := hx.grew hg1'
      replace hy := hy.grew hg1'
      replace hEa := ent_grew hg1' hEa
      replace hEb := ent_grew hg1' hEb
      replace hEx := ent_grew hg1' hEx
      replace hEy := ent_grew hg1' hEy
      have hEu := ent_new w2 (.cells #[.slice none 0 0] 24)
      replace hg1 := hg1.trans hg1'
      clear hg1' ha1 hb1
      have chEa := box_cell hEa
      have chEb := box_cell hEb
      have chEx := box_cell hEx
      have chEy := box_cell hEy
      have chEu := box_cell hEu
      go_wp2_with fail
      generalize (w2.alloc (.cells #[.slice none 0 0] 24)) = W2 at *
      refine (down_err a.ao a.n a.c _ k (Or.inl hneg)).mono ?_
      rintro e w3 ⟨rfl, hb2⟩
      have ha2 : Grew w3 ((w3.alloc (.cells #[.slice none 0 0] 24))) := (Grew.refl w3).alloc (.cells #[.slice none 0 0] 24)
      have hg2' := (Grew.call (Grew.refl _) hb2).trans ha2
      replace ha := ha.grew hg2'
      replace hb := hb.grew hg2'
      replace hx := hx.grew hg2'
      replace hy := hy.grew hg2'
      replace hEa := ent_grew hg2' hEa
      replace hEb := ent_grew hg2' hEb
      replace hEx := ent_grew hg2' hEx
      replace hEy := ent_grew hg2' hEy
      replace hEu := ent_grew hg2' hEu
      have hEv := ent_new w3 (.cells #[.slice none 0 0] 24)
      replace hg1 := hg1.trans hg2'
      clear hg2' ha2 hb2 chEa chEb chEx chEy chEu
      have chEa := box_cell hEa
      have chEb := box_cell hEb
      have chEx := box_cell hEx
      have chEy := box_cell hEy
      have chEu := box_cell hEu
      have chEv := box_cell hEv
      go_wp2_with fail
      generalize (w3.alloc (.cells #[.slice none 0 0] 24)) = W3 at *
      refine (known_spec _).mono ?_
      rintro e w4 ⟨rfl, hb3⟩
      have ha3 : Grew w4 (w4) := Grew.refl w4
      have hg3' := (Grew.call (Grew.refl _) hb3).trans ha3
      replace ha := ha.grew hg3'
      replace hb := hb.grew hg3'
      replace hx := hx.grew hg3'
      replace hy := hy.grew hg3'
      replace hEa := ent_grew hg3' hEa
      replace hEb := ent_grew hg3' hEb
      replace hEx := ent_grew hg3' hEx
      replace hEy := ent_grew hg3' hEy
      replace hEu := ent_grew hg3' hEu
      replace hEv := ent_grew hg3' hEv
      replace hg1 := hg1.trans hg3'
      clear hg3' ha3 hb3 chEa chEb chEx chEy chEu chEv
      have chEa := box_cell hEa
      have chEb := box_cell hEb
      have chEx := box_cell hEx
      have chEy := box_cell hEy
      have chEu := box_cell hEu
      have chEv := box_cell hEv
      go_wp2_with fail
      refine (known_t (c := ⟨#[48]⟩) (NatS.nil w4 none 0 (by omega)) (Nat.zero_le _) (by decide +kernel) (by decide +kernel)).mono ?_
      rintro e w5 ⟨rfl, hb4⟩
      have ha4 : Grew w5 (w5) := Grew.refl w5
      have hg4' := (Grew.call (Grew.refl _) hb4).trans ha4
      replace ha := ha.grew hg4'
      replace hb := hb.grew hg4'
      replace hx := hx.grew hg4'
      replace hy := hy.grew hg4'
      replace hEa := ent_grew hg4' hEa
      replace hEb := ent_grew hg4' hEb
      replace hEx := ent_grew hg4' hEx
      replace hEy := ent_grew hg4' hEy
      replace hEu := ent_grew hg4' hEu
      replace hEv := ent_grew hg4' hEv
      replace hg1 := hg1.trans hg4'
      clear hg4' ha4 hb4 chEa chEb chEx chEy chEu chEv
      have chEa := box_cell hEa
      have chEb := box_cell hEb
      have chEx := box_cell hEx
      have chEy := box_cell hEy
      have chEu := box_cell hEu
      have chEv := box_cell hEv
      go_wp2_with fail
      refine (known_t (c := ⟨#[48]⟩) (NatS.nil w5 none 0 (by omega)) (Nat.zero_le _) (by decide +kernel) (by decide +kernel)).mono ?_
      rintro e w6 ⟨rfl, hb5⟩
      have ha5 : Grew w6 (w6) := Grew.refl w6
      have hg5' := (Grew.call (Grew.refl _) hb5).trans ha5
      replace ha := ha.grew hg5'
      replace hb := hb.grew hg5'
      replace hx := hx.grew hg5'
      replace hy := hy.grew hg5'
      replace hEa := ent_grew hg5' hEa
      replace hEb := ent_grew hg5' hEb
      replace hEx := ent_grew hg5' hEx
      replace hEy := ent_grew hg5' hEy
      replace hEu := ent_grew hg5' hEu
      replace hEv := ent_grew hg5' hEv
      replace hg1 := hg1.trans hg5'
      clear hg5' ha5 hb5 chEa chEb chEx chEy chEu chEv
      have chEa := box_cell hEa
      have chEb := box_cell hEb
      have chEx := box_cell hEx
      have chEy := box_cell hEy
      have chEu := box_cell hEu
      have chEv := box_cell hEv
      go_wp2
      go_ret
      exact ⟨rfl, hg1⟩
    · by_cases hbig : 65536 < k
      · have hk0 : decide (k < 0) = false := by simp; omega
        go_enter Try.func7, Try.ntmps7
        go_wp2_with fail
        refine (two_spec s ⟨#[48]⟩ _ hs (by decide)).mono ?_
        rintro e w1 ⟨a, b, x, y, rfl, ha, hb, hx, hy, han, hbn, hxn, hyn, hb1⟩
        have hg1 := (Grew.call (Grew.refl _) hb1).trans (two4 w1 a b x y).1
        obtain ⟨hgA, hEa, hEb, hEx, hEy⟩ := two4 w1 a b x y
        have ha := ha.grew hgA
        have hb := hb.grew hgA
        have hx := hx.grew hgA
        have hy := hy.grew hgA
        go_wp2_with fail
        change Calls _ _ _ (Two4 w1 a b x y) _
        generalize Two4 w1 a b x y = W1 at *
        clear hgA hb1
        clear hk1
        refine (up_err a.ao a.n a.c _ k (Or.inr hbig)).mono ?_
        rintro e w2 ⟨rfl, hb1⟩
        have ha1 : Grew w2 ((w2.alloc (.cells #[.slice none 0 0] 24))) := (Grew.refl w2).alloc (.cells #[.slice none 0 0] 24)
        have hg1' := (Grew.call (Grew.refl _) hb1).trans ha1
        replace ha := ha.grew hg1'
        replace hb := hb.grew hg1'
        replace hx := hx.grew hg1'
        replace hy := hy.grew hg1'
        replace hEa := ent_grew hg1' hEa
        replace hEb := ent_grew hg1' hEb
        replace hEx := ent_grew hg1' hEx
        replace hEy := ent_grew hg1' hEy
        have hEu := ent_new w2 (.cells #[.slice none 0 0] 24)
        replace hg1 := hg1.trans hg1'
        clear hg1' ha1 hb1
        have chEa := box_cell hEa
        have chEb := box_cell hEb
        have chEx := box_cell hEx
        have chEy := box_cell hEy
        have chEu := box_cell hEu
        go_wp2_with fail
        generalize (w2.alloc (.cells #[.slice none 0 0] 24)) = W2 at *
        refine (down_err a.ao a.n a.c _ k (Or.inr hbig)).mono ?_
        rintro e w3 ⟨rfl, hb2⟩
        have ha2 : Grew w3 ((w3.alloc (.cells #[.slice none 0 0] 24))) := (Grew.refl w3).alloc (.cells #[.slice none 0 0] 24)
        have hg2' := (Grew.call (Grew.refl _) hb2).trans ha2
        replace ha := ha.grew hg2'
        replace hb := hb.grew hg2'
        replace hx := hx.grew hg2'
        replace hy := hy.grew hg2'
        replace hEa := ent_grew hg2' hEa
        replace hEb := ent_grew hg2' hEb
        replace hEx := ent_grew hg2' hEx
        replace hEy := ent_grew hg2' hEy
        replace hEu := ent_grew hg2' hEu
        have hEv := ent_new w3 (.cells #[.slice none 0 0] 24)
        replace hg1 := hg1.trans hg2'
        clear hg2' ha2 hb2 chEa chEb chEx chEy chEu
        have chEa := box_cell hEa
        have chEb := box_cell hEb
        have chEx := box_cell hEx
        have chEy := box_cell hEy
        have chEu := box_cell hEu
        have chEv := box_cell hEv
        go_wp2_with fail
        generalize (w3.alloc (.cells #[.slice none 0 0] 24)) = W3 at *
        refine (known_spec _).mono ?_
        rintro e w4 ⟨rfl, hb3⟩
        have ha3 : Grew w4 (w4) := Grew.refl w4
        have hg3' := (Grew.call (Grew.refl _) hb3).trans ha3
        replace ha := ha.grew hg3'
        replace hb := hb.grew hg3'
        replace hx := hx.grew hg3'
        replace hy := hy.grew hg3'
        replace hEa := ent_grew hg3' hEa
        replace hEb := ent_grew hg3' hEb
        replace hEx := ent_grew hg3' hEx
        replace hEy := ent_grew hg3' hEy
        replace hEu := ent_grew hg3' hEu
        replace hEv := ent_grew hg3' hEv
        replace hg1 := hg1.trans hg3'
        clear hg3' ha3 hb3 chEa chEb chEx chEy chEu chEv
        have chEa := box_cell hEa
        have chEb := box_cell hEb
        have chEx := box_cell hEx
        have chEy := box_cell hEy
        have chEu := box_cell hEu
        have chEv := box_cell hEv
        go_wp2_with fail
        refine (known_t (c := ⟨#[48]⟩) (NatS.nil w4 none 0 (by omega)) (Nat.zero_le _) (by decide +kernel) (by decide +kernel)).mono ?_
        rintro e w5 ⟨rfl, hb4⟩
        have ha4 : Grew w5 (w5) := Grew.refl w5
        have hg4' := (Grew.call (Grew.refl _) hb4).trans ha4
        replace ha := ha.grew hg4'
        replace hb := hb.grew hg4'
        replace hx := hx.grew hg4'
        replace hy := hy.grew hg4'
        replace hEa := ent_grew hg4' hEa
        replace hEb := ent_grew hg4' hEb
        replace hEx := ent_grew hg4' hEx
        replace hEy := ent_grew hg4' hEy
        replace hEu := ent_grew hg4' hEu
        replace hEv := ent_grew hg4' hEv
        replace hg1 := hg1.trans hg4'
        clear hg4' ha4 hb4 chEa chEb chEx chEy chEu chEv
        have chEa := box_cell hEa
        have chEb := box_cell hEb
        have chEx := box_cell hEx
        have chEy := box_cell hEy
        have chEu := box_cell hEu
        have chEv := box_cell hEv
        go_wp2_with fail
        refine (known_t (c := ⟨#[48]⟩) (NatS.nil w5 none 0 (by omega)) (Nat.zero_le _) (by decide +kernel) (by decide +kernel)).mono ?_
        rintro e w6 ⟨rfl, hb5⟩
        have ha5 : Grew w6 (w6) := Grew.refl w6
        have hg5' := (Grew.call (Grew.refl _) hb5).trans ha5
        replace ha := ha.grew hg5'
        replace hb := hb.grew hg5'
        replace hx := hx.grew hg5'
        replace hy := hy.grew hg5'
        replace hEa := ent_grew hg5' hEa
        replace hEb := ent_grew hg5' hEb
        replace hEx := ent_grew hg5' hEx
        replace hEy := ent_grew hg5' hEy
        replace hEu := ent_grew hg5' hEu
        replace hEv := ent_grew hg5' hEv
        replace hg1 := hg1.trans hg5'
        clear hg5' ha5 hb5 chEa chEb chEx chEy chEu chEv
        have chEa := box_cell hEa
        have chEb := box_cell hEb
        have chEx := box_cell hEx
        have chEy := box_cell hEy
        have chEu := box_cell hEu
        have chEv := box_cell hEv
        go_wp2
        go_ret
        exact ⟨rfl, hg1⟩
      · obtain ⟨K, rfl⟩ : ∃ K : Nat, k = K := ⟨k.toNat, by omega⟩
        have hK : K ≤ 65536 := by omega
        clear hneg hbig
        by_cases hmid : 2000 < K
        · have hk0 : decide ((K : Int) < 0) = false := by simp
          have hk2 : decide ((65536 : Int) < (K : Int)) = false := by simp; omega
          have hk3 : (2000 : Int) < (K : Int) := by omega
          have hA : pval (fewS s 200) / 2 ^ K = 0 := few_down (fewS_le s 200) (by omega)
          go_enter Try.func7, Try.ntmps7
          go_wp2_with fail
          refine (two_spec s ⟨#[48]⟩ _ hs (by decide)).mono ?_
          rintro e w1 ⟨a, b, x, y, rfl, ha, hb, hx, hy, han, hbn, hxn, hyn, hb1⟩
          have hg1 := (Grew.call (Grew.refl _) hb1).trans (two4 w1 a b x y).1
          obtain ⟨hgA, hEa, hEb, hEx, hEy⟩ := two4 w1 a b x y
          have ha := ha.grew hgA
          have hb := hb.grew hgA
          have hx := hx.grew hgA
          have hy := hy.grew hgA
          go_wp2_with fail
          change Calls _ _ _ (Two4 w1 a b x y) _
          generalize Two4 w1 a b x y = W1 at *
          clear hgA hb1
          clear hk1
          generalize pval (fewS s 200) = A at *
          generalize pval (fewS ⟨#[48]⟩ 200) = B at *
          have HA := Lib.hid hA
          clear hA
          refine (up_spec K ha (by omega) (by omega)).mono ?_
          rintro e w2 ⟨u, rfl, hu, hun, hb1⟩
          have ha1 : Grew w2 ((w2.alloc (.cells #[.slice u.ao u.n u.c] 24))) := (Grew.refl w2).alloc (.cells #[.slice u.ao u.n u.c] 24)
          have hg1' := (Grew.call (Grew.refl _) hb1).trans ha1
          replace ha := ha.grew hg1'
          replace hb := hb.grew hg1'
          replace hx := hx.grew hg1'
          replace hy := hy.grew hg1'
          replace hEa := ent_grew hg1' hEa
          replace hEb := ent_grew hg1' hEb
          replace hEx := ent_grew hg1' hEx
          replace hEy := ent_grew hg1' hEy
          replace hu := hu.grew ha1
          have hEu := ent_new w2 (.cells #[.slice u.ao u.n u.c] 24)
          replace hg1 := hg1.trans hg1'
          clear hg1' ha1 hb1
          have chEa := box_cell hEa
          have chEb := box_cell hEb
          have chEx := box_cell hEx
          have chEy := box_cell hEy
          have chEu := box_cell hEu
          go_wp2_with fail
          generalize (w2.alloc (.cells #[.slice u.ao u.n u.c] 24)) = W2 at *
          refine (down_spec K ha (by omega) (by omega)).mono ?_
          rintro e w3 ⟨v, rfl, hv, hvn, hb2⟩
          rw [HA.out] at hv
          have ha2 : Grew w3 ((w3.alloc (.cells #[.slice v.ao v.n v.c] 24))) := (Grew.refl w3).alloc (.cells #[.slice v.ao v.n v.c] 24)
          have hg2' := (Grew.call (Grew.refl _) hb2).trans ha2
          replace ha := ha.grew hg2'
          replace hb := hb.grew hg2'
          replace hx := hx.grew hg2'
          replace hy := hy.grew hg2'
          replace hu := hu.grew hg2'
          replace hEa := ent_grew hg2' hEa
          replace hEb := ent_grew hg2' hEb
          replace hEx := ent_grew hg2' hEx
          replace hEy := ent_grew hg2' hEy
          replace hEu := ent_grew hg2' hEu
          replace hv := hv.grew ha2
          have hEv := ent_new w3 (.cells #[.slice v.ao v.n v.c] 24)
          replace hg1 := hg1.trans hg2'
          clear hg2' ha2 hb2 chEa chEb chEx chEy chEu
          have chEa := box_cell hEa
          have chEb := box_cell hEb
          have chEx := box_cell hEx
          have chEy := box_cell hEy
          have chEu := box_cell hEu
          have chEv := box_cell hEv
          go_wp2_with fail
          generalize (w3.alloc (.cells #[.slice v.ao v.n v.c] 24)) = W3 at *
          refine (known_spec _).mono ?_
          rintro e w4 ⟨rfl, hb3⟩
          have ha3 : Grew w4 (w4) := Grew.refl w4
          have hg3' := (Grew.call (Grew.refl _) hb3).trans ha3
          replace ha := ha.grew hg3'
          replace hb := hb.grew hg3'
          replace hx := hx.grew hg3'
          replace hy := hy.grew hg3'
          replace hu := hu.grew hg3'
          replace hv := hv.grew hg3'
          replace hEa := ent_grew hg3' hEa
          replace hEb := ent_grew hg3' hEb
          replace hEx := ent_grew hg3' hEx
          replace hEy := ent_grew hg3' hEy
          replace hEu := ent_grew hg3' hEu
          replace hEv := ent_grew hg3' hEv
          replace hg1 := hg1.trans hg3'
          clear hg3' ha3 hb3 chEa chEb chEx chEy chEu chEv
          have chEa := box_cell hEa
          have chEb := box_cell hEb
          have chEx := box_cell hEx
          have chEy := box_cell hEy
          have chEu := box_cell hEu
          have chEv := box_cell hEv
          go_wp2_with fail
          refine (down_spec K hu (by omega) (by omega)).mono ?_
          rintro e w5 ⟨z, rfl, hz, hzn, hb4⟩
          rw [up_down] at hz
          have ha4 : Grew w5 ((w5.alloc (.cells #[.slice z.ao z.n z.c] 24))) := (Grew.refl w5).alloc (.cells #[.slice z.ao z.n z.c] 24)
          have hg4' := (Grew.call (Grew.refl _) hb4).trans ha4
          replace ha := ha.grew hg4'
          replace hb := hb.grew hg4'
          replace hx := hx.grew hg4'
          replace hy := hy.grew hg4'
          replace hu := hu.grew hg4'
          replace hv := hv.grew hg4'
          replace hEa := ent_grew hg4' hEa
          replace hEb := ent_grew hg4' hEb
          replace hEx := ent_grew hg4' hEx
          replace hEy := ent_grew hg4' hEy
          replace hEu := ent_grew hg4' hEu
          replace hEv := ent_grew hg4' hEv
          replace hz := hz.grew ha4
          have hEz := ent_new w5 (.cells #[.slice z.ao z.n z.c] 24)
          replace hg1 := hg1.trans hg4'
          clear hg4' ha4 hb4 chEa chEb chEx chEy chEu chEv
          have chEa := box_cell hEa
          have chEb := box_cell hEb
          have chEx := box_cell hEx
          have chEy := box_cell hEy
          have chEu := box_cell hEu
          have chEv := box_cell hEv
          have chEz := box_cell hEz
          go_wp2_with fail
          generalize (w5.alloc (.cells #[.slice z.ao z.n z.c] 24)) = W5 at *
          refine (cmp_same hz ha (by omega) (by omega) rfl).mono ?_
          rintro e w6 ⟨rfl, hb5⟩
          have ha5 : Grew w6 (w6) := Grew.refl w6
          have hg5' := (Grew.call (Grew.refl _) hb5).trans ha5
          replace ha := ha.grew hg5'
          replace hb := hb.grew hg5'
          replace hx := hx.grew hg5'
          replace hy := hy.grew hg5'
          replace hu := hu.grew hg5'
          replace hv := hv.grew hg5'
          replace hz := hz.grew hg5'
          replace hEa := ent_grew hg5' hEa
          replace hEb := ent_grew hg5' hEb
          replace hEx := ent_grew hg5' hEx
          replace hEy := ent_grew hg5' hEy
          replace hEu := ent_grew hg5' hEu
          replace hEv := ent_grew hg5' hEv
          replace hEz := ent_grew hg5' hEz
          replace hg1 := hg1.trans hg5'
          clear hg5' ha5 hb5 chEa chEb chEx chEy chEu chEv chEz
          have chEa := box_cell hEa
          have chEb := box_cell hEb
          have chEx := box_cell hEx
          have chEy := box_cell hEy
          have chEu := box_cell hEu
          have chEv := box_cell hEv
          have chEz := box_cell hEz
          go_wp2_with fail
          refine (known_t (c := ⟨#[48]⟩) hv (by omega) (by decide +kernel) (by decide +kernel)).mono ?_
          rintro e w7 ⟨rfl, hb6⟩
          have ha6 : Grew w7 (w7) := Grew.refl w7
          have hg6' := (Grew.call (Grew.refl _) hb6).trans ha6
          replace ha := ha.grew hg6'
          replace hb := hb.grew hg6'
          replace hx := hx.grew hg6'
          replace hy := hy.grew hg6'
          replace hu := hu.grew hg6'
          replace hv := hv.grew hg6'
          replace hz := hz.grew hg6'
          replace hEa := ent_grew hg6' hEa
          replace hEb := ent_grew hg6' hEb
          replace hEx := ent_grew hg6' hEx
          replace hEy := ent_grew hg6' hEy
          replace hEu := ent_grew hg6' hEu
          replace hEv := ent_grew hg6' hEv
          replace hEz := ent_grew hg6' hEz
          replace hg1 := hg1.trans hg6'
          clear hg6' ha6 hb6 chEa chEb chEx chEy chEu chEv chEz
          have chEa := box_cell hEa
          have chEb := box_cell hEb
          have chEx := box_cell hEx
          have chEy := box_cell hEy
          have chEu := box_cell hEu
          have chEv := box_cell hEv
          have chEz := box_cell hEz
          go_wp2
          go_ret
          exact ⟨rfl, hg1⟩
        · have hk0 : decide ((K : Int) < 0) = false := by simp
          have hk2 : decide ((65536 : Int) < (K : Int)) = false := by simp; omega
          have hk3 : decide ((2000 : Int) < (K : Int)) = false := by simp; omega
          go_enter Try.func7, Try.ntmps7
          go_wp2_with fail
          refine (two_spec s ⟨#[48]⟩ _ hs (by decide)).mono ?_
          rintro e w1 ⟨a, b, x, y, rfl, ha, hb, hx, hy, han, hbn, hxn, hyn, hb1⟩
          have hg1 := (Grew.call (Grew.refl _) hb1).trans (two4 w1 a b x y).1
          obtain ⟨hgA, hEa, hEb, hEx, hEy⟩ := two4 w1 a b x y
          have ha := ha.grew hgA
          have hb := hb.grew hgA
          have hx := hx.grew hgA
          have hy := hy.grew hgA
          go_wp2_with fail
          change Calls _ _ _ (Two4 w1 a b x y) _
          generalize Two4 w1 a b x y = W1 at *
          clear hgA hb1
          clear hk1
          generalize pval (fewS s 200) = A at *
          generalize pval (fewS ⟨#[48]⟩ 200) = B at *
          refine (up_spec K ha (by omega) (by omega)).mono ?_
          rintro e w2 ⟨u, rfl, hu, hun, hb1⟩
          have ha1 : Grew w2 ((w2.alloc (.cells #[.slice u.ao u.n u.c] 24))) := (Grew.refl w2).alloc (.cells #[.slice u.ao u.n u.c] 24)
          have hg1' := (Grew.call (Grew.refl _) hb1).trans ha1
          replace ha := ha.grew hg1'
          replace hb := hb.grew hg1'
          replace hx := hx.grew hg1'
          replace hy := hy.grew hg1'
          replace hEa := ent_grew hg1' hEa
          replace hEb := ent_grew hg1' hEb
          replace hEx := ent_grew hg1' hEx
          replace hEy := ent_grew hg1' hEy
          replace hu := hu.grew ha1
          have hEu := ent_new w2 (.cells #[.slice u.ao u.n u.c] 24)
          replace hg1 := hg1.trans hg1'
          clear hg1' ha1 hb1
          have chEa := box_cell hEa
          have chEb := box_cell hEb
          have chEx := box_cell hEx
          have chEy := box_cell hEy
          have chEu := box_cell hEu
          go_wp2_with fail
          generalize (w2.alloc (.cells #[.slice u.ao u.n u.c] 24)) = W2 at *
          refine (down_spec K ha (by omega) (by omega)).mono ?_
          rintro e w3 ⟨v, rfl, hv, hvn, hb2⟩
          have ha2 : Grew w3 ((w3.alloc (.cells #[.slice v.ao v.n v.c] 24))) := (Grew.refl w3).alloc (.cells #[.slice v.ao v.n v.c] 24)
          have hg2' := (Grew.call (Grew.refl _) hb2).trans ha2
          replace ha := ha.grew hg2'
          replace hb := hb.grew hg2'
          replace hx := hx.grew hg2'
          replace hy := hy.grew hg2'
          replace hu := hu.grew hg2'
          replace hEa := ent_grew hg2' hEa
          replace hEb := ent_grew hg2' hEb
          replace hEx := ent_grew hg2' hEx
          replace hEy := ent_grew hg2' hEy
          replace hEu := ent_grew hg2' hEu
          replace hv := hv.grew ha2
          have hEv := ent_new w3 (.cells #[.slice v.ao v.n v.c] 24)
          replace hg1 := hg1.trans hg2'
          clear hg2' ha2 hb2 chEa chEb chEx chEy chEu
          have chEa := box_cell hEa
          have chEb := box_cell hEb
          have chEx := box_cell hEx
          have chEy := box_cell hEy
          have chEu := box_cell hEu
          have chEv := box_cell hEv
          go_wp2_with fail
          generalize (w3.alloc (.cells #[.slice v.ao v.n v.c] 24)) = W3 at *
          refine (known_spec _).mono ?_
          rintro e w4 ⟨rfl, hb3⟩
          have ha3 : Grew w4 (w4) := Grew.refl w4
          have hg3' := (Grew.call (Grew.refl _) hb3).trans ha3
          replace ha := ha.grew hg3'
          replace hb := hb.grew hg3'
          replace hx := hx.grew hg3'
          replace hy := hy.grew hg3'
          replace hu := hu.grew hg3'
          replace hv := hv.grew hg3'
          replace hEa := ent_grew hg3' hEa
          replace hEb := ent_grew hg3' hEb
          replace hEx := ent_grew hg3' hEx
          replace hEy := ent_grew hg3' hEy
          replace hEu := ent_grew hg3' hEu
          replace hEv := ent_grew hg3' hEv
          replace hg1 := hg1.trans hg3'
          clear hg3' ha3 hb3 chEa chEb chEx chEy chEu chEv
          have chEa := box_cell hEa
          have chEb := box_cell hEb
          have chEx := box_cell hEx
          have chEy := box_cell hEy
          have chEu := box_cell hEu
          have chEv := box_cell hEv
          go_upto_region 11 with fail
          clear chEa chEb chEx chEy chEu chEv
          go_cut [16] (fun s16 wx => DivBox w4 (A / 2 ^ K) s16 wx)
          case first =>
            clear hEa hEb hEy hEu hEv hu hv ha hb hy hg1
            have mk : Hid (∀ w', Grew w4 w' → w'.cell? ⟨w1.heap.size + 1 + 1, 0, none⟩ = some (.slice x.ao x.n x.c) ∧ Grew w4 w') := fun w' hg => ⟨cell_grew hg hEx, hg⟩
            clear hEx
            go_region_held3 (fun w' => w'.cell? ⟨w1.heap.size + 1 + 1, 0, none⟩ = some (.slice x.ao x.n x.c) ∧ Grew w4 w')
              (first | (refine mk.out _ ?_; repeat' first | assumption | with_reducible exact Grew.refl _ | with_reducible refine Grew.alloc ?_ _ | with_reducible refine Grew.drew ?_ | refine Grew.set ?_ (by (try dsimp only); omega) _))
              (first
                | (go_at_call 20; refine (rtwo_spec K _ (by omega)).mono ?_; rintro e wt ⟨t, rfl, ht, htn, hbt⟩; (have hgt : Grew w4 wt := Grew.call (‹_ ∧ Grew w4 _›.2) hbt); (have hst : w4.heap.size ≤ wt.heap.size := Below.size hgt); (first | (have he1 : wt.heap[w4.heap.size]? = some (.cells #[.slice none 0 0] 30 (0, 0)) := (by with_reducible first | exact ent_up (below_undrew hbt) (ent_new w4 _) | exact ent_up (below_undrew hbt) (ent_old (ent_new w4 _) _)); have hc1 : wt.cell? ⟨w4.heap.size, 0, none⟩ = some (.slice none 0 0) := box_cell he1; have hf1 : wt.frozen? ⟨w4.heap.size, 0, none⟩ = false := ent_frozen he1 0; have hl1 : w4.heap.size < wt.heap.size := ent_lt he1; have hm1 : ¬ (w4.heap.size = wt.heap.size) := Nat.ne_of_lt (ent_lt he1)) | skip); (first | (have he2 : wt.heap[w4.heap.size + 1]? = some (.cells #[.slice none 0 0] 30 (0, 0)) := (by with_reducible first | exact ent_up (below_undrew hbt) (ents2 w4 _ _).2.1); have hc2 : wt.cell? ⟨w4.heap.size + 1, 0, none⟩ = some (.slice none 0 0) := box_cell he2; have hf2 : wt.frozen? ⟨w4.heap.size + 1, 0, none⟩ = false := ent_frozen he2 0; have hl2 : w4.heap.size + 1 < wt.heap.size := ent_lt he2; have hm2 : ¬ (w4.heap.size + 1 = wt.heap.size) := Nat.ne_of_lt (ent_lt he2)) | skip))
                | (go_at_call 32; refine (rdiv_spec (hx.grew (‹_ ∧ Grew w4 _›.2)) (by with_reducible first | exact ht | exact ht.alloc _ | exact (ht.alloc _).alloc _) (by omega) (by omega) (Nat.two_pow_pos K)).mono ?_; rintro e wd ⟨q, r, rfl, hq, hr, hqn, hrn, -, hbd⟩; (have hgd : Grew w4 wd := Grew.call (‹_ ∧ Grew w4 _›.2) hbd); (have hsd : w4.heap.size ≤ wd.heap.size := Below.size hgd); (first | (have he3 : wd.heap[w4.heap.size]? = some (.cells #[.slice none 0 0] 30 (0, 0)) := (by with_reducible first | exact ent_up hbd he1 | exact ent_up hbd (ent_old he1 _)); have hc3 : wd.cell? ⟨w4.heap.size, 0, none⟩ = some (.slice none 0 0) := box_cell he3; have hf3 : wd.frozen? ⟨w4.heap.size, 0, none⟩ = false := ent_frozen he3 0; have hl3 : w4.heap.size < wd.heap.size := ent_lt he3; have hm3 : ¬ (w4.heap.size = wd.heap.size) := Nat.ne_of_lt (ent_lt he3)) | skip); (first | (have he4 : wd.heap[w4.heap.size + 1]? = some (.cells #[.slice none 0 0] 30 (0, 0)) := (by with_reducible first | exact ent_up hbd he2); have hc4 : wd.cell? ⟨w4.heap.size + 1, 0, none⟩ = some (.slice none 0 0) := box_cell he4; have hf4 : wd.frozen? ⟨w4.heap.size + 1, 0, none⟩ = false := ent_frozen he4 0; have hl4 : w4.heap.size + 1 < wd.heap.size := ent_lt he4; have hm4 : ¬ (w4.heap.size + 1 = wd.heap.size) := Nat.ne_of_lt (ent_lt he4)) | skip); (first | (have he5 : wd.heap[wt.heap.size]? = some (.cells #[.slice none 0 0] 30 (0, 0)) := (by with_reducible first | exact ent_up hbd (ent_new wt _) | exact ent_up hbd (ent_old (ent_new wt _) _)); have hc5 : wd.cell? ⟨wt.heap.size, 0, none⟩ = some (.slice none 0 0) := box_cell he5; have hf5 : wd.frozen? ⟨wt.heap.size, 0, none⟩ = false := ent_frozen he5 0; have hl5 : wt.heap.size < wd.heap.size := ent_lt he5; have hm5 : ¬ (wt.heap.size = wd.heap.size) := Nat.ne_of_lt (ent_lt he5)) | skip); (first | (have he6 : wd.heap[wt.heap.size + 1]? = some (.cells #[.slice none 0 0] 30 (0, 0)) := (by with_reducible first | exact ent_up hbd (ents2 wt _ _).2.1); have hc6 : wd.cell? ⟨wt.heap.size + 1, 0, none⟩ = some (.slice none 0 0) := box_cell he6; have hf6 : wd.frozen? ⟨wt.heap.size + 1, 0, none⟩ = false := ent_frozen he6 0; have hl6 : wt.heap.size + 1 < wd.heap.size := ent_lt he6; have hm6 : ¬ (wt.heap.size + 1 = wd.heap.size) := Nat.ne_of_lt (ent_lt he6)) | skip)))
            all_goals go_wp2
            all_goals go_meet
            all_goals have hqn2 : q.n ≤ 200 := Nat.le_trans hqn hxn
            all_goals clear hk0 hk2 hk3 mk hbd hbt hmid hK
            all_goals (first | with_reducible exact DivBox.e1 hq hqn2 hgd _ | with_reducible exact DivBox.e2 hq hqn2 hgd _ | (with_reducible refine DivBox.e3 hq hqn2 hgd (by assumption) ?_ _; omega) | (with_reducible refine DivBox.e4 hq hqn2 hgd (by assumption) ?_ _; omega) | (with_reducible refine DivBox.e5 hq hqn2 hgd (by assumption) (by assumption) ?_ ?_ ?_ _ <;> omega))
          case rest =>
            clear hEa hEb hEy ha hb hy
            obtain ⟨g, q, rfl, hEq, hq, hqn, hgw⟩ := hcut
            replace hEu := ent_grew hgw hEu
            replace hEx := ent_grew hgw hEx
            replace hEv := ent_grew hgw hEv
            replace hu := hu.grew hgw
            replace hv := hv.grew hgw
            replace hx := hx.grew hgw
            have hgl := hg1.trans hgw
            clear hg1 hgw
            have mk : Hid (∀ w', Grew wc w' → w'.cell? ⟨w2.heap.size, 0, none⟩ = some (.slice u.ao u.n u.c) ∧ w'.cell? ⟨w1.heap.size + 1 + 1, 0, none⟩ = some (.slice x.ao x.n x.c) ∧ w'.cell? ⟨w3.heap.size, 0, none⟩ = some (.slice v.ao v.n v.c) ∧ w'.cell? ⟨g, 0, none⟩ = some (.slice q.ao q.n q.c) ∧ Grew wc w') :=
              fun w' hg => ⟨cell_grew hg hEu, cell_grew hg hEx, cell_grew hg hEv, cell_grew hg hEq, hg⟩
            clear hEu hEx hEv hEq
            go_wp2
            go_region_held3 (fun w' => w'.cell? ⟨w2.heap.size, 0, none⟩ = some (.slice u.ao u.n u.c) ∧ w'.cell? ⟨w1.heap.size + 1 + 1, 0, none⟩ = some (.slice x.ao x.n x.c) ∧ w'.cell? ⟨w3.heap.size, 0, none⟩ = some (.slice v.ao v.n v.c) ∧ w'.cell? ⟨g, 0, none⟩ = some (.slice q.ao q.n q.c) ∧ Grew wc w')
              (first
                | exact mk.out _ (Grew.refl _).drew
                | exact mk.out _ (Grew.call (‹_ ∧ _ ∧ _ ∧ _ ∧ Grew wc _›.2.2.2.2) ‹Below _ _ _›))
              (first
                | (go_at_call 20; refine (rtwo_spec K _ (by omega)).mono ?_; rintro e w9 ⟨t, rfl, ht, htn, hbw⟩)
                | (go_at_call 30; refine (rmul_spec (by with_reducible first | exact hx.grew (‹_ ∧ _ ∧ _ ∧ _ ∧ Grew wc _›.2.2.2.2) | exact hq.grew (‹_ ∧ _ ∧ _ ∧ _ ∧ Grew wc _›.2.2.2.2) | exact ‹RefS _ _ _› | exact (RefS.up ‹RefS _ _ _› ‹Below _ _ _›) | exact (RefS.up (RefS.up ‹RefS _ _ _› ‹Below _ _ _›) ‹Below _ _ _›) | exact (RefS.up (RefS.up (RefS.up ‹RefS _ _ _› ‹Below _ _ _›) ‹Below _ _ _›) ‹Below _ _ _›) | exact (RefS.up (RefS.up (RefS.up (RefS.up ‹RefS _ _ _› ‹Below _ _ _›) ‹Below _ _ _›) ‹Below _ _ _›) ‹Below _ _ _›)) (by with_reducible first | exact hx.grew (‹_ ∧ _ ∧ _ ∧ _ ∧ Grew wc _›.2.2.2.2) | exact hq.grew (‹_ ∧ _ ∧ _ ∧ _ ∧ Grew wc _›.2.2.2.2) | exact ‹RefS _ _ _› | exact (RefS.up ‹RefS _ _ _› ‹Below _ _ _›) | exact (RefS.up (RefS.up ‹RefS _ _ _› ‹Below _ _ _›) ‹Below _ _ _›) | exact (RefS.up (RefS.up (RefS.up ‹RefS _ _ _› ‹Below _ _ _›) ‹Below _ _ _›) ‹Below _ _ _›) | exact (RefS.up (RefS.up (RefS.up (RefS.up ‹RefS _ _ _› ‹Below _ _ _›) ‹Below _ _ _›) ‹Below _ _ _›) ‹Below _ _ _›)) (by omega) (by omega)).mono ?_; rintro e w9 ⟨p, rfl, hp, hpn, hbw⟩)
                | (go_at_call 21; refine (same_spec (by with_reducible first | exact hu.grew (‹_ ∧ _ ∧ _ ∧ _ ∧ Grew wc _›.2.2.2.2) | exact hv.grew (‹_ ∧ _ ∧ _ ∧ _ ∧ Grew wc _›.2.2.2.2) | exact ‹NatS _ _ _› | exact (NatS.up ‹NatS _ _ _› ‹Below _ _ _›) | exact (NatS.up (NatS.up ‹NatS _ _ _› ‹Below _ _ _›) ‹Below _ _ _›) | exact (NatS.up (NatS.up (NatS.up ‹NatS _ _ _› ‹Below _ _ _›) ‹Below _ _ _›) ‹Below _ _ _›) | exact (NatS.up (NatS.up (NatS.up (NatS.up ‹NatS _ _ _› ‹Below _ _ _›) ‹Below _ _ _›) ‹Below _ _ _›) ‹Below _ _ _›)) (by with_reducible first | exact hx.grew (‹_ ∧ _ ∧ _ ∧ _ ∧ Grew wc _›.2.2.2.2) | exact hq.grew (‹_ ∧ _ ∧ _ ∧ _ ∧ Grew wc _›.2.2.2.2) | exact ‹RefS _ _ _› | exact (RefS.up ‹RefS _ _ _› ‹Below _ _ _›) | exact (RefS.up (RefS.up ‹RefS _ _ _› ‹Below _ _ _›) ‹Below _ _ _›) | exact (RefS.up (RefS.up (RefS.up ‹RefS _ _ _› ‹Below _ _ _›) ‹Below _ _ _›) ‹Below _ _ _›) | exact (RefS.up (RefS.up (RefS.up (RefS.up ‹RefS _ _ _› ‹Below _ _ _›) ‹Below _ _ _›) ‹Below _ _ _›) ‹Below _ _ _›)) (by omega) (by omega)).mono ?_; rintro e w9 ⟨rfl, hbw⟩))
            have hg9 := hgl.trans (‹_ ∧ _ ∧ _ ∧ _ ∧ Grew wc _›.2.2.2.2)
            go_wp2
            go_ret
            exact ⟨rfl, hg9⟩

end Go.Proofs.Ytahfnbbdhhehhaa
