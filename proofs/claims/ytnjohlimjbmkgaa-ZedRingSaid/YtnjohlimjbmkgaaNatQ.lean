/- slices: Reverse of bytes. -/
import Derived.Test.YtnjohlimjbmkgaaProg
import Derived.Test.YtnjohlimjbmkgaaOwn
import Derived.Test.YtnjohlimjbmkgaaMath
import Derived.Deep.DeepCutAuto
import Derived.Lib.Hide
namespace Go.Proofs.Ytnjohlimjbmkgaa
open Go.RowKit

/-- After k swaps. -/
def RevAt (l p : List Nat) (k : Nat) : Prop := p.length = l.length ∧ 2 * k ≤ l.length + 1 ∧ ∀ i, i < l.length → dg p i = if i < k ∨ l.length ≤ i + k then dg l (l.length - 1 - i) else dg l i

theorem RevAt.done {l p : List Nat} {k : Nat} (h : RevAt l p k) (hk : l.length ≤ 2 * k + 1) : p = l.reverse := by
  obtain ⟨h1, h2, h3⟩ := h
  apply List.ext_getElem (by simp [h1])
  intro i hi _
  have hi' : i < l.length := by omega
  have := h3 i hi'
  rw [dg_of hi] at this
  rw [this, List.getElem_reverse]
  split
  · rw [dg_of (by omega)]
  · rename_i hn
    rw [dg_of hi']
    congr 1
    omega

theorem RevAt.step {l p : List Nat} {k : Nat} (h : RevAt l p k) (hk : 2 * k + 1 < l.length) : RevAt l ((p.set k (dg p (l.length - 1 - k))).set (l.length - 1 - k) (dg p k)) (k + 1) := by
  obtain ⟨h1, h2, h3⟩ := h
  refine ⟨by simp [h1], by omega, fun i hi => ?_⟩
  by_cases hj : i = l.length - 1 - k
  · subst hj
    rw [dg_of (by simp; omega), List.getElem_set_self, if_pos (by omega), h3 k (by omega), if_neg (by omega)]
    congr 1
    omega
  · rw [dg_set_ne (by omega)]
    by_cases hik : i = k
    · subst hik
      rw [dg_of (by simp; omega), List.getElem_set_self, if_pos (by omega), h3 _ (by omega), if_neg (by omega)]
    · rw [dg_set_ne (by omega), h3 i hi]
      by_cases hc : i < k ∨ l.length ≤ i + k
      · rw [if_pos hc, if_pos (by omega)]
      · rw [if_neg hc, if_neg (by omega)]

theorem reverse_spec {w : World} {base g n c : Nat} {l : List Nat} (h : Own w base 5 .u8 (.slice (some ⟨g, 0, none⟩) n c) l) (hn : n = l.length) (hl : l.length ≤ 1000000000000000) :
    Calls Try.prog 82 #[.slice (some ⟨g, 0, none⟩) n c] w fun e w' =>
      (∃ v, e = .returned v) ∧ Own w' base 5 .u8 (.slice (some ⟨g, 0, none⟩) n c) l.reverse ∧ Below base w w' := by
  subst hn
  have hinit : RevAt l l 0 := ⟨rfl, by omega, fun i hi => by rw [if_neg (by omega)]⟩
  go_enter Try.func82, Try.ntmps82
  go_wp2
  go_loopw [2, 3] (fun i j wr => ∃ (k : Nat) (p : List Nat), i = .int .i64 k ∧ j = .int .i64 ((l.length : Int) - 1 - k) ∧ RevAt l p k ∧ Own wr base 5 .u8 (.slice (some ⟨g, 0, none⟩) l.length c) p ∧ Below base w wr) (fun i _ _ => l.length - (intOf i).toNat)
  case atStart => exact ⟨0, l, rfl, by simp, hinit, h, Below.refl _ _⟩
  case round =>
    obtain ⟨k, p, rfl, rfl, hp, hown, hbl⟩ := hrel
    by_cases hlt : 2 * k + 1 < l.length
    · have hkj : (k : Int) < (l.length : Int) - 1 - k := by omega
      obtain ⟨J, hJ⟩ : ∃ J : Nat, J = l.length - 1 - k := ⟨_, rfl⟩
      have hJI : (l.length : Int) - 1 - k = (J : Int) := by omega
      rw [hJI] at hkj ⊢
      have hJl : (J : Int) < (l.length : Int) := by omega
      have hkl : (k : Int) < (l.length : Int) := by omega
      obtain ⟨hc1, hf1, _, _⟩ := hown.slot k (by have := hp.1; omega)
      obtain ⟨hc2, hf2, _, _⟩ := hown.slot J (by have := hp.1; omega)
      have hstep := hp.step hlt
      rw [← hJ] at hstep
      have hs1 := hown.store k (dg p J)
      have hs2 := hs1.1.store J (dg p k)
      have hs3 := hown.store J (dg p k)
      have hs4 := hs3.1.store k (dg p J)
      have hne : k ≠ J := by omega
      have hcomm : (p.set J (dg p k)).set k (dg p J) = (p.set k (dg p J)).set J (dg p k) := List.set_comm _ _ (by omega)
      rw [hcomm] at hs4
      generalize dg p k = y at *
      generalize dg p J = z at *
      have HJ := Lib.hid (And.intro hJ hJI)
      have HC := Lib.hid hcomm
      clear hJ hJI hcomm
      go_wp2
      go_region
      all_goals (
        go_wp2
        go_roundw
        case rel =>
          first
            | exact ⟨k + 1, _, by simp, congrArg (Value.int IntKind.i64) (by have := HJ.out.2; push_cast; omega), hstep, hs2.1, (hbl.trans (hs1.2.trans hs2.2)).drew⟩
            | exact ⟨k + 1, _, by simp, congrArg (Value.int IntKind.i64) (by have := HJ.out.2; push_cast; omega), hstep, hs4.1, (hbl.trans (hs3.2.trans hs4.2)).drew⟩
        case measure => simp [intOf]; omega)
    · have hkj : decide ((k : Int) < (l.length : Int) - 1 - k) = false := by simp; omega
      have hpe := hp.done (by omega)
      subst hpe
      go_wp2

      exact bodyPost_end (v := .tuple #[]) (by simp [results, Try.results82, go_sem]) rfl ⟨⟨_, rfl⟩, hown, hbl⟩

end Go.Proofs.Ytnjohlimjbmkgaa
