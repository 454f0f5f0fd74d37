/- Two structures that are the same. -/
import Derived.Test.YtlpfkbkpnljieaaGreatVm
import Derived.DeepKeys
set_option linter.unusedSimpArgs false
set_option linter.unusedVariables false
namespace Go.Proofs.YtlpfkbkpnljieaaGreat
open Go.RowKit

def readEq (e : Ev) : Option (TypeId × Value × Value) :=
  match e with
  | .read o c => match o.op with
    | .binOp .eql t x y _ => match c.s.ev x, c.s.ev y with
      | .val a, .val b => some (t, a, b)
      | _, _ => none
    | _ => none
  | _ => none

section
variable {T : Tb} {P : Program} {fin : VS → List Fact → Prop} {c : Cfg} {Γ : List Fact}
theorem W.eqv (D : List Nat) (t : TypeId) (cs : Array Value) (m : Nat) (h : readEq (vstep T (Go.Proofs.YtlpfkbkpnljieaaGreat.runs T D 999 c)) = some (t, .agg cs, .agg cs)) (hm : m ≤ 10000) (hg : P.eqGuardType P.depth t = false) (hkt : P.keyTypeAt m t = true)
    (hwide : (match P.underlying t with | some (.array _ _) | some (.struct _) => true | _ => false) = true) (hx : (keyOf P t (.agg cs)).isSome = true)
    (hk : W T P fin (resume (vstep T (Go.Proofs.YtlpfkbkpnljieaaGreat.runs T D 999 c)) (.bool true)) Γ) : W T P fin c Γ := by
  obtain ⟨l, hx⟩ := Option.isSome_iff_exists.1 hx
  refine W.runs D 999 ?_
  generalize Go.Proofs.YtlpfkbkpnljieaaGreat.runs T D 999 c = c1 at *
  unfold readEq at h
  split at h
  · rename_i o c' he
    rw [he] at hk
    split at h
    · rename_i ty u v yt hop
      split at h
      · rename_i a b ha hb
        simp only [Option.some.injEq, Prod.mk.injEq] at h
        obtain ⟨rfl, rfl, rfl⟩ := h
        refine W.read _ he (.any ?_) hk
        intro w
        obtain ⟨r, hr, hiff⟩ := run_equal_deep (P := P) w hm hkt hwide hx hx
        have hr1 : r = true := hiff.2 rfl
        subst hr1
        simp [execOp, hop, rho_val ha, rho_val hb, eqGuard, binOp, hr, hg]
      · simp at h
    · simp at h
  · simp at h
/-- The rest of a division by what isn't 0. -/
theorem W.rem (D : List Nat) (a b r : Int) (h : readBin (vstep T (Go.Proofs.YtlpfkbkpnljieaaGreat.runs T D 999 c)) = some (.rem, .int .i64 a, .int .i64 b)) (hb : b ≠ 0) (hr : a.tmod b = r)
    (hk : W T P fin (resume (vstep T (Go.Proofs.YtlpfkbkpnljieaaGreat.runs T D 999 c)) (.int .i64 r)) Γ) : W T P fin c Γ := by
  subst hr
  refine W.runs D 999 ?_
  generalize Go.Proofs.YtlpfkbkpnljieaaGreat.runs T D 999 c = c1 at *
  unfold readBin at h
  split at h
  · rename_i o c' he
    rw [he] at hk
    split at h
    · rename_i op ty u v yt hop
      split at h
      · rename_i x y hx hy
        simp only [Option.some.injEq, Prod.mk.injEq] at h
        obtain ⟨rfl, rfl, rfl⟩ := h
        refine W.read _ he (.any ?_) hk
        intro w
        simp [execOp, hop, rho_val hx, rho_val hy, eqGuard, binOp, Op.intDiv, hb]
      · simp at h
    · simp at h
  · simp at h
end
end Go.Proofs.YtlpfkbkpnljieaaGreat
