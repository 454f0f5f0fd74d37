/- The reference: Of, Cmp. The reference: Add, Less. The reference: Mul, Small. The reference: Small, Div. The reference: Div. The reference: Gcd, Two. A text's length. -/
import Derived.Test.YtaafmafdnnjmdaaProg
import Derived.Test.YtaafmafdnnjmdaaBase
import Derived.Deep.QuietTactic
import Derived.BigQuiet
import Derived.Test.YtaafmafdnnjmdaaRefU
import Derived.Deep.DeepCutAuto
import Derived.IntWalk
import Derived.Deep.RegionWith
import Derived.Deep.RegionLaw
import Derived.Deep.LoopGhost
import Derived.Deep.RegionHeld3
import Derived.Deep.CutBlock
import Derived.Test.YtaafmafdnnjmdaaNatX
set_option linter.unusedSimpArgs false
set_option linter.unusedVariables false
namespace Go.Proofs.Ytaafmafdnnjmdaa
open Go.RowKit

end Go.Proofs.Ytaafmafdnnjmdaa

namespace Go.Proofs.Ytaafmafdnnjmdaa
open Go.RowKit

end Go.Proofs.Ytaafmafdnnjmdaa

namespace Go.Proofs.Ytaafmafdnnjmdaa
open Go.RowKit

end Go.Proofs.Ytaafmafdnnjmdaa

namespace Go.Proofs.Ytaafmafdnnjmdaa
open Go.RowKit

end Go.Proofs.Ytaafmafdnnjmdaa

namespace Go.Proofs.Ytaafmafdnnjmdaa
open Go.RowKit

/-- Div's memory. -/
def RDivSt (w : World) (s t : Sl) (R g : Nat) (o : List Nat) (sr : Sl) (P : Nat) (wr : World) : Prop :=
  wr.heap[w.heap.size]? = some (.cells #[.slice s.ao s.n s.c] 94 (0, 0)) ∧ wr.heap[w.heap.size + 1]? = some (.cells #[.slice t.ao t.n t.c] 94 (0, 0)) ∧
  wr.heap[w.heap.size + 1 + 1]? = some (.cells #[.slice none 0 0] 94 (0, 0)) ∧ wr.heap[w.heap.size + 1 + 1 + 1]? = some (.cells #[.slice none 0 0] 94 (0, 0)) ∧
  wr.heap[R]? = some (.cells #[.slice sr.ao sr.n sr.c] 94 (0, 0)) ∧ RefS wr sr P ∧ Own wr (w.heap.size + 4) 3 .i64 (.slice (some ⟨g, 0, none⟩) s.n s.n) o ∧ Below w.heap.size w wr

theorem RDivSt.up {w : World} {s t : Sl} {R g : Nat} {o : List Nat} {sr : Sl} {P : Nat} {wr w' : World} (h : RDivSt w s t R g o sr P wr) (hb : Below wr.heap.size wr w') : RDivSt w s t R g o sr P w' :=
  ⟨ent_up hb h.1, ent_up hb h.2.1, ent_up hb h.2.2.1, ent_up hb h.2.2.2.1, ent_up hb h.2.2.2.2.1, h.2.2.2.2.2.1.up hb, h.2.2.2.2.2.2.1.below hb (Nat.le_refl _), h.2.2.2.2.2.2.2.trans (hb.mono h.2.2.2.2.2.2.2.size)⟩
theorem RDivSt.drewN {w : World} {s t : Sl} {R g : Nat} {o : List Nat} {sr : Sl} {P : Nat} {wr : World} (h : RDivSt w s t R g o sr P wr) : RDivSt w s t R g o sr P wr.drew :=
  ⟨h.1, h.2.1, h.2.2.1, h.2.2.2.1, h.2.2.2.2.1, h.2.2.2.2.2.1, h.2.2.2.2.2.2.1, h.2.2.2.2.2.2.2.drew⟩
/-- Another rest. -/
theorem RDivSt.rest {w : World} {s t : Sl} {R g : Nat} {o : List Nat} {sr sr' : Sl} {P P' : Nat} {wr : World} (h : RDivSt w s t R g o sr P wr) (h' : RefS wr sr' P') (hR : w.heap.size + 1 + 1 + 1 < R) (hg : g ≠ R) : RDivSt w s t R g o sr' P' (wr.setCell ⟨R, 0, none⟩ (.slice sr'.ao sr'.n sr'.c)) :=
  ⟨ent_set_other h.1 (by simp; omega) _, ent_set_other h.2.1 (by simp; omega) _, ent_set_other h.2.2.1 (by simp; omega) _, ent_set_other h.2.2.2.1 (by simp; omega) _, ent_set h.2.2.2.2.1 _,
    h'.kp ((Kp.refl _).setCell (a := ⟨R, 0, none⟩) h.2.2.2.2.1 (by decide) _), h.2.2.2.2.2.2.1.set_ne (by simpa using hg) _, h.2.2.2.2.2.2.2.setCell (by simp; omega) _⟩
end Go.Proofs.Ytaafmafdnnjmdaa

namespace Go.Proofs.Ytaafmafdnnjmdaa
open Go.RowKit

/-- Two's memory. -/
def RTwoSt (w : World) (b3 b4 : Nat) (sa sb : Sl) (a b : Nat) (wr : World) : Prop :=
  wr.heap[w.heap.size]? = some (.cells #[.slice none 0 0] 94 (0, 0)) ∧ wr.heap[b3]? = some (.cells #[.slice sa.ao sa.n sa.c] 94 (0, 0)) ∧ wr.heap[b4]? = some (.cells #[.slice sb.ao sb.n sb.c] 94 (0, 0)) ∧
  RefS wr sa a ∧ RefS wr sb b ∧ Below w.heap.size w wr
theorem RTwoSt.up {w : World} {b3 b4 : Nat} {sa sb : Sl} {a b : Nat} {wr w' : World} (h : RTwoSt w b3 b4 sa sb a b wr) (hb : Below wr.heap.size wr w') : RTwoSt w b3 b4 sa sb a b w' :=
  ⟨ent_up hb h.1, ent_up hb h.2.1, ent_up hb h.2.2.1, h.2.2.2.1.up hb, h.2.2.2.2.1.up hb, h.2.2.2.2.2.trans (hb.mono h.2.2.2.2.2.size)⟩
theorem RTwoSt.setB {w : World} {b3 b4 : Nat} {sa sb u : Sl} {a b x : Nat} {wr : World} (h : RTwoSt w b3 b4 sa sb a b wr) (hu : RefS wr u x) (h3 : w.heap.size < b3) (h34 : b3 < b4) : RTwoSt w b3 b4 sa u a x (wr.setCell ⟨b4, 0, none⟩ (.slice u.ao u.n u.c)) :=
  ⟨ent_set_other h.1 (by simp; omega) _, ent_set_other h.2.1 (by simp; omega) _, ent_set h.2.2.1 _, h.2.2.2.1.kp ((Kp.refl _).setCell (a := ⟨b4, 0, none⟩) h.2.2.1 (by decide) _), hu.kp ((Kp.refl _).setCell (a := ⟨b4, 0, none⟩) h.2.2.1 (by decide) _), h.2.2.2.2.2.setCell (by simp; omega) _⟩

/-- The powers' numbers. -/
def TwoN (K k a b : Nat) : Prop := a * b ^ k = 2 ^ K ∧ 0 < b ∧ b ≤ 2 * 2 ^ K ∧ K ≤ 2000

theorem TwoN.one {K a b : Nat} (h : TwoN K 1 a b) : TwoN K 0 (a * b) b := by
  obtain ⟨h1, h2, h3, h4⟩ := h
  exact ⟨by simpa using h1, h2, h3, h4⟩
end Go.Proofs.Ytaafmafdnnjmdaa

namespace Go.Proofs.Ytaafmafdnnjmdaa
open Go.RowKit

end Go.Proofs.Ytaafmafdnnjmdaa
