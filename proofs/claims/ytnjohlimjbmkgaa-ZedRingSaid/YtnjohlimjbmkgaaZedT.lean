/- ref 02: Parse, joined. -/
import Derived.Test.YtnjohlimjbmkgaaProg
import Derived.Test.YtnjohlimjbmkgaaZedR
namespace Go.Proofs.Ytnjohlimjbmkgaa
open Go.RowKit

theorem good_digs {l : List Nat} (h : Good l) : Digs l := h.2.2.1
theorem one_zero {D : ByteArray} (h : D.size = 1) (hz : (D[0]'(by omega)).toNat = 48) : Good (bs D) ∧ dval (bs D) = 0 := by
  have e : bs D = [48] := by
    apply List.ext_getElem
    · rw [bs_size, h]; rfl
    · intro i h1 h2
      have hi : i = 0 := by simp at h2; omega
      subst hi
      have := bs_dg D 0 (by omega)
      rw [dg_of h1] at this
      rw [this, hz]; rfl
  rw [e]
  exact ⟨⟨by decide, by decide, by intro d hd; simp at hd; omega, by intro h; simp at h⟩, by decide⟩
theorem head_pos {D : ByteArray} (hg : Good (bs D)) (hd : 0 < D.size) (hz : (D[0]'hd).toNat ≠ 48) : 0 < dval (bs D) := by
  refine Nat.pos_of_ne_zero fun e => ?_
  have h := dec_dval hg
  rw [e] at h
  have h1 := bs_dg D 0 hd
  rw [← h] at h1
  exact hz (by rw [← h1]; rfl)

theorem rzparse_spec (s : ByteArray) (w : World) (h : s.size ≤ 4096) :
    Calls Try.prog 37 #[.string s] w fun e w' => ∃ (u : Sl) (d : Int), e = .returned (.tuple #[.agg #[.int .i64 d, .slice u.ao u.n u.c], .int .i64 (zperr s)]) ∧ RS w' u d (zval s) ∧ u.n ≤ 4096 ∧ Below w.heap.size w w' := by
  have hD := sdig_size s
  have nil3 : ∀ (e : Ending) (w' : World), zperr s = 3 ∧ zval s = 0 → e = .returned (.tuple #[.agg #[.int .i64 0, .slice none 0 0], .int .i64 3]) ∧ Below w.heap.size w w' → ∃ (u : Sl) (d : Int), e = .returned (.tuple #[.agg #[.int .i64 d, .slice u.ao u.n u.c], .int .i64 (zperr s)]) ∧ RS w' u d (zval s) ∧ u.n ≤ 4096 ∧ Below w.heap.size w w' := fun e w' he H => by
    rw [he.1, he.2]
    exact ⟨⟨none, 0, 0⟩, 0, H.1, ⟨RefS.nil _ _ _ (by omega), rfl⟩, Nat.zero_le _, H.2⟩
  cases hs : sneg s with
  | true =>
    have h0 : 0 < s.size := Nat.pos_of_ne_zero fun e => by rw [sneg_empty e] at hs; exact absurd hs (by decide)
    have h45 : (s[0]'h0).toNat = 45 := by rw [sneg_head h0] at hs; exact beq_iff_eq.1 hs
    have hx : s.extract 1 s.size = sdig s := by unfold sdig; rw [if_pos hs]
    rcases parse_cases (sdig s) with h1 | ⟨h1, h2⟩ | ⟨h1, h2, h3, h4⟩ | ⟨h1, h2, h3, h4⟩
    · omega
    · exact (rzparse_empty_n s (sdig s) h h0 h45 hx h1).mono fun e w' H => nil3 e w' (zperr_bad (perr_bad (by omega) h2).1) H
    · exact (rzparse_zero_n s (sdig s) h h0 h45 hx (by omega) h3).mono fun e w' H => nil3 e w' (zperr_bad (perr_bad (by omega) h4).1) H
    · by_cases hz : ((sdig s)[0]'h1).toNat = 48
      · have h5 : (sdig s).size = 1 := h3.resolve_right (fun H => H hz)
        obtain ⟨hg, hv⟩ := one_zero h5 hz
        exact (rzparse_zero_n s (sdig s) h h0 h45 hx h1 hz).mono fun e w' H => nil3 e w' (zperr_m0 hs ((perr_ok hg).2.trans hv)) H
      · refine (rzparse_48_n s (sdig s) h h0 h45 hx h1 h4 hz).mono ?_
        rintro e w' (⟨hd, u, d, rfl, hu, hun, hb⟩ | ⟨hd, H⟩)
        · have hg := h4 hd
          obtain ⟨e1, e2⟩ := zperr_m (perr_ok hg).1 hs (by rw [(perr_ok hg).2]; exact head_pos hg h1 hz)
          rw [e1, e2]
          exact ⟨u, d, rfl, by rw [show -(pval (sdig s) : Int) = -1 * (pval (sdig s) : Int) by omega]; exact hu, hun, hb⟩
        · exact nil3 e w' (zperr_bad (perr_bad (by omega) (fun hg => hd (good_digs hg))).1) H
  | false =>
    have hx : sdig s = s := by unfold sdig; rw [hs, if_neg (by decide)]
    have h45 : ∀ h0 : 0 < s.size, (s[0]'h0).toNat ≠ 45 := fun h0 e => by rw [sneg_head h0, e] at hs; exact absurd hs (by decide)
    have bad3 : ¬ Good (bs s) → zperr s = 3 ∧ zval s = 0 := fun hg => zperr_bad (by rw [hx]; exact (perr_bad (by omega) hg).1)
    have fin : ∀ (e : Ending) (w' : World), (Digs (bs s) → Good (bs s)) → RZPost w s 1 e w' → ∃ (u : Sl) (d : Int), e = .returned (.tuple #[.agg #[.int .i64 d, .slice u.ao u.n u.c], .int .i64 (zperr s)]) ∧ RS w' u d (zval s) ∧ u.n ≤ 4096 ∧ Below w.heap.size w w' := by
      rintro e w' h4 (⟨hd, u, d, rfl, hu, hun, hb⟩ | ⟨hd, H⟩)
      · obtain ⟨e1, e2⟩ := zperr_p (show perr (sdig s) = 0 by rw [hx]; exact (perr_ok (h4 hd)).1) hs
        rw [e1, e2, hx]
        exact ⟨u, d, rfl, by rw [Int.one_mul] at hu; exact hu, hun, hb⟩
      · exact nil3 e w' (bad3 (fun hg => hd (good_digs hg))) H
    rcases parse_cases s with h1 | ⟨h1, h2⟩ | ⟨h1, h2, h3, h4⟩ | ⟨h1, h2, h3, h4⟩
    · omega
    · exact (rzparse_empty_p s h h1).mono fun e w' H => nil3 e w' (bad3 h2) H
    · exact (rzparse_zero_p s h (by omega) (h45 _) h1 (by omega) h3).mono fun e w' H => nil3 e w' (bad3 h4) H
    · by_cases hz : (s[0]'h1).toNat = 48
      · exact (rzparse_one_p s h h1 (h45 _) h1 h4 hz (h3.resolve_right (fun H => H hz))).mono fun e w' H => fin e w' h4 H
      · exact (rzparse_48_p s h h1 (h45 _) h1 h4 hz).mono fun e w' H => fin e w' h4 H

end Go.Proofs.Ytnjohlimjbmkgaa
