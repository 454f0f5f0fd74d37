/- slices.Clone. -/
import Derived.Test.YtnjohlimjbmkgaaProg
import Derived.Test.YtnjohlimjbmkgaaOwn
namespace Go.Proofs.Ytnjohlimjbmkgaa
open Go.RowKit

set_option maxHeartbeats 400000 in
theorem clone_walk {w : World} {s : Sl} {l : List Nat} (h : IntsAt w 113 .u32 s l) (hp : 0 < s.n) (hn : s.n ≤ 1000000000000) :
    Calls Try.prog 97 #[.slice s.ao s.n s.c] w fun e w' => ∃ v, e = .returned v ∧ Own w' w.heap.size 113 .u32 v l ∧ Below w.heap.size w w' := by
  obtain ⟨b, off, ha, hb, hc⟩ := h.open hp
  obtain ⟨ao, n, c⟩ := s
  simp only at ha hp hn hc
  subst ha
  have hlen := Lib.hid h.1
  have hmade : Own (w.alloc (.cells #[] 113)) w.heap.size 113 .u32 (.slice (some ⟨w.heap.size, 0, none⟩) 0 0) [] := World.ownsRow_made w #[] 0 (Nat.le_refl _) (by unfold maxLen; omega) (by simp)
  have hi : IntsAt (w.alloc (.cells #[] 113)) 113 .u32 ⟨some ⟨b, off, none⟩, n, c⟩ l := h.up ((Below.refl _ _).alloc (Nat.le_refl _) _)
  have hbx : Below w.heap.size w (w.alloc (.cells #[] 113)) := (Below.refl _ _).alloc (Nat.le_refl _) _
  clear hc
  have hnil := fun w => Lib.run_eql_slice_nil (P := Try.prog) w 29 113 (some ⟨b, off, none⟩) n c 0 0 Try.underlying29
  go_enter Try.func97, Try.ntmps97
  go_wp2_with (at_builtin; refine wpList_pushAll rowU32 _ rfl _ _ rfl w.heap.size (.slice (some ⟨w.heap.size, 0, none⟩) 0 0) [] l ⟨some ⟨b, off, none⟩, n, c⟩ rfl rfl hmade hi hp ?hl ?hm (by simp) ?_)
  case hl => have := hlen.out; simp at *; omega
  case hm => have := hlen.out; unfold maxLen; simp at *; omega
  intro v' w' hown hb'
  go_wp2
  go_ret
  exact ⟨_, rfl, by simpa using hown, hbx.trans hb'⟩

end Go.Proofs.Ytnjohlimjbmkgaa
