/- The walk: shifts, the greater and the lesser, made slices, stores into blocks of the call's own, bytes as texts, slices as arrays, append to an empty literal. -/
import Derived.Test.YtaafmafdnnjmdaaVz
import Derived.Laws.MakeOwn
import Derived.Laws.BytesArg
set_option linter.unusedSimpArgs false
set_option linter.unusedVariables false
namespace Go.Proofs.Ytaafmafdnnjmdaa
open Go.RowKit

def readMx (e : Ev) : Option (Bool × Value × Value) :=
  match e with
  | .read o c => match o.op with
    | .call cl => match cl.callee, cl.args.toList with
      | .builtin .max, [x, y] => match c.s.ev x, c.s.ev y with
        | .val a, .val b => some (true, a, b)
        | _, _ => none
      | .builtin .min, [x, y] => match c.s.ev x, c.s.ev y with
        | .val a, .val b => some (false, a, b)
        | _, _ => none
      | _, _ => none
    | _ => none
  | _ => none
def readSls (T : Tb) (e : Ev) : Option (Nat × Value × Option Value × Option Value) :=
  match e with
  | .read o c => match o.op with
    | .slice ty x lo hi none => match T.get ty, c.s.ev x, evo c.s lo, evo c.s hi with
      | some t, .val a, some l, some h => bif (Nat.beq t.kind 3 && (!Nat.beq t.esize 0 && Nat.beq t.ezero.length t.esize)) then some (t.esize, a, l, h) else none
      | _, _, _, _ => none
    | _ => none
  | _ => none
def readBs0 (T : Tb) (e : Ev) : Bool :=
  match e with
  | .ask o c => match o.op with
    | .buildSlice ty n ps => match T.get ty, ps.toList with
      | some t, [] => Nat.beq t.kind 3 && (!Nat.beq t.esize 0 && (Nat.beq n 0 && Nat.beq t.ezero.length t.esize))
      | _, _ => false
    | _ => false
  | _ => false

section
variable {T : Tb} {P : Program} {fin : VS → List Fact → Prop} {c : Cfg} {Γ : List Fact}

/-- The rest of a division by what isn't 0, of any kind. -/
theorem W.remk (D : List Nat) (k : IntKind) (a b r : Int) (h : readBin (vstep T (Go.Proofs.Ytaafmafdnnjmdaa.runs T D 999 c)) = some (.rem, .int k a, .int k b)) (hb : b ≠ 0) (hr : a.tmod b = r)
    (hk : W T P fin (resume (vstep T (Go.Proofs.Ytaafmafdnnjmdaa.runs T D 999 c)) (.int k r)) Γ) : W T P fin c Γ := by
  subst hr
  refine W.runs D 999 ?_
  generalize Go.Proofs.Ytaafmafdnnjmdaa.runs T D 999 c = c1 at *
  unfold readBin at h
  split at h
  · rename_i o c' he
    rw [he] at hk
    split at h
    · rename_i op ty u v yt hop
      split at h
      · rename_i x y hx hy
        simp only [Option.some.injEq, Prod.mk.injEq] at h
        obtain ⟨rfl, rfl, rfl⟩ := h
        refine W.read _ he (.any ?_) hk
        intro w
        simp [execOp, hop, rho_val hx, rho_val hy, eqGuard, binOp, Op.intDiv, hb]
      · simp at h
    · simp at h
  · simp at h
/-- A quotient by what isn't 0. -/
theorem W.quo (D : List Nat) (a b r : Int) (h : readBin (vstep T (Go.Proofs.Ytaafmafdnnjmdaa.runs T D 999 c)) = some (.quo, .int .i64 a, .int .i64 b)) (hb : b ≠ 0) (hr : IntKind.i64.wrap (a.tdiv b) = r)
    (hk : W T P fin (resume (vstep T (Go.Proofs.Ytaafmafdnnjmdaa.runs T D 999 c)) (.int .i64 r)) Γ) : W T P fin c Γ := by
  subst hr
  refine W.runs D 999 ?_
  generalize Go.Proofs.Ytaafmafdnnjmdaa.runs T D 999 c = c1 at *
  unfold readBin at h
  split at h
  · rename_i o c' he
    rw [he] at hk
    split at h
    · rename_i op ty u v yt hop
      split at h
      · rename_i x y hx hy
        simp only [Option.some.injEq, Prod.mk.injEq] at h
        obtain ⟨rfl, rfl, rfl⟩ := h
        refine W.read _ he (.any ?_) hk
        intro w
        simp [execOp, hop, rho_val hx, rho_val hy, eqGuard, binOp, Op.intDiv, hb]
      · simp at h
    · simp at h
  · simp at h

theorem imax_if (a b : Int) : (if b > a then b else a) = max a b := by
  rw [Int.max_def]
  by_cases h : b > a
  · rw [if_pos h, if_pos (by omega)]
  · rw [if_neg h]
    by_cases h2 : a ≤ b
    · rw [if_pos h2]; omega
    · rw [if_neg h2]
/-- The greater of two. -/
theorem W.mx (D : List Nat) (k : IntKind) (a b r : Int) (h : readMx (vstep T (Go.Proofs.Ytaafmafdnnjmdaa.runs T D 999 c)) = some (true, .int k a, .int k b)) (hr : max a b = r)
    (hk : W T P fin (resume (vstep T (Go.Proofs.Ytaafmafdnnjmdaa.runs T D 999 c)) (.int k r)) Γ) : W T P fin c Γ := by
  subst hr
  refine W.runs D 999 ?_
  generalize Go.Proofs.Ytaafmafdnnjmdaa.runs T D 999 c = c1 at *
  unfold readMx at h
  split at h
  · rename_i o c' he
    rw [he] at hk
    split at h
    · rename_i cl hop
      split at h
      · rename_i sx xx hcal hargs
        split at h
        · rename_i u v hu hv
          simp only [Option.some.injEq, Prod.mk.injEq, true_and] at h
          obtain ⟨rfl, rfl⟩ := h
          have hcargs : cl.args = #[sx, xx] := by rw [← Array.toList_inj]; exact hargs
          refine W.read _ he (.any fun w => ?_) hk
          simp [execOp, hop, resolve, invoke, builtin, hcal, hcargs, rho_val hu, rho_val hv, Builtin.max_, Builtin.max2, imax_if]
        · simp at h
      · split at h <;> simp at h
      · simp at h
    · simp at h
  · simp at h
/-- A part of a slice. -/
theorem W.sls (D : List Nat) (z b off len cap : Nat) (lo hi : Option Value) (l r : Nat) (hT : T.Ok P) (h : readSls T (vstep T (Go.Proofs.Ytaafmafdnnjmdaa.runs T D 999 c)) = some (z, .slice (some ⟨b, off, none⟩) len cap, lo, hi))
    (hl : lo = some (.int .i64 (l : Int)) ∨ (lo = none ∧ l = 0)) (hr : hi = some (.int .i64 (r : Int)) ∨ (hi = none ∧ r = len)) (hlr : l ≤ r) (hrs : r ≤ cap) (hla : l < cap)
    (hk : W T P fin (resume (vstep T (Go.Proofs.Ytaafmafdnnjmdaa.runs T D 999 c)) (.slice (some ⟨b, off + l * z, none⟩) (r - l) (cap - l))) Γ) : W T P fin c Γ := by
  refine W.runs D 999 ?_
  generalize Go.Proofs.Ytaafmafdnnjmdaa.runs T D 999 c = c1 at *
  unfold readSls at h
  split at h
  · rename_i o c' he
    rw [he] at hk
    split at h
    · rename_i ty x lo' hi' hop
      split at h
      · rename_i t a l' h' ht ha hlo hhi
        cases hkd : (Nat.beq t.kind 3 && (!Nat.beq t.esize 0 && Nat.beq t.ezero.length t.esize)) with
        | false => simp [hkd] at h
        | true =>
          simp only [hkd, cond_true, Option.some.injEq, Prod.mk.injEq] at h
          obtain ⟨rfl, rfl, rfl, rfl⟩ := h
          simp only [Bool.and_eq_true, Bool.not_eq_true'] at hkd
          obtain ⟨c2, c3, c4⟩ := hkd
          have hne0 : t.esize ≠ 0 := by
            intro e0
            rw [e0] at c3
            simp at c3
          obtain ⟨ie, zz, hd, hie, hzz, hin, hby, hzs, hze⟩ := kind_elem hT ht (Nat.eq_of_beq_eq_true c2) hne0 (Nat.eq_of_beq_eq_true c4)
          refine W.read _ he (.any ?_) hk
          intro w
          have hrho : ∀ (q : Option Operand) (z : Option Value), evo c'.s q = some z → q.map c'.s.rho = z := by
            intro q z hq
            cases q with
            | none => simp [evo] at hq; exact hq
            | some x =>
              simp only [evo] at hq
              split at hq
              · rename_i v hv
                injection hq with hq
                subst hq
                simp [rho_val hv]
              · simp at hq
          have hm1 := hrho _ _ hlo
          have hm2 := hrho _ _ hhi
          have hne : ¬ cap = l := by omega
          have hla' : l ≤ cap := by omega
          simp only [execOp, hop, Instr.sliceAt, Sem.run_bind, run_underlying hd, Result.andThen_ok, rho_val ha, hm1, hm2]
          rcases hl with rfl | ⟨rfl, rfl⟩ <;> rcases hr with rfl | ⟨rfl, rfl⟩ <;> simp [Instr.slice, Instr.sliceBounds, Instr.sliceBound, asIntOf, run_underlying hd, hlr, hrs, hla', hne, run_size hie, hin, add_spot]
      · simp at h
    · simp at h
  · simp at h

/-- A slice literal of no elements. -/
theorem W.bs0 (D : List Nat) (hT : T.Ok P) (h : readBs0 T (vstep T (Go.Proofs.Ytaafmafdnnjmdaa.runs T D 999 c)) = true)
    (hk : ∀ b, W T P fin (resume (vstep T (Go.Proofs.Ytaafmafdnnjmdaa.runs T D 999 c)) (.slice (some ⟨b, 0, none⟩) 0 0)) Γ) : W T P fin c Γ := by
  refine W.runs D 999 ?_
  generalize Go.Proofs.Ytaafmafdnnjmdaa.runs T D 999 c = c1 at *
  unfold readBs0 at h
  split at h
  · rename_i o c' he
    rw [he] at hk
    split at h
    · rename_i ty m ps hop
      split at h
      · rename_i t ht hps
        simp only [Bool.and_eq_true, Bool.not_eq_true'] at h
        obtain ⟨c2, c3, c4, c5⟩ := h
        have hm := Nat.eq_of_beq_eq_true c4
        subst hm
        have hne : t.esize ≠ 0 := by
          intro e0
          rw [e0] at c3
          simp at c3
        obtain ⟨ie, zz, hd, hie, hzz, hsz, hby, hzs, hze⟩ := kind_elem hT ht (Nat.eq_of_beq_eq_true c2) hne (Nat.eq_of_beq_eq_true c5)
        refine W.ask (fun v Δ => ∃ b, v = .slice (some ⟨b, 0, none⟩) 0 0 ∧ Δ = []) he (fun I w hdo hh => ?_) ?_
        · have hps' : ps = #[] := by rw [← Array.toList_inj]; simpa using hps
          refine ⟨_, _, _, ?_, ⟨w.heap.size, rfl, rfl⟩, (Below.refl _ _).alloc (Nat.le_refl _) (.cells #[] t.elem), Holds.nil _ _⟩
          simp [execOp, hop, hps', Instr.buildSlice, run_underlying hd, run_size hie, Instr.fill, newRow, show Array.range 0 = #[] from by decide]
        · rintro v Δ ⟨b, rfl, rfl⟩
          exact hk b
      · simp at h
    · simp at h
  · simp at h

/-- A block of the call's own is given away, where no operation is under way. -/
theorem W.pubr (O1 O2 : List (Nat × List Value)) (b : Nat) (cs : List Value) (ho : (runCode T 999 c).s.own = O1 ++ (b, cs) :: O2) (hm : midOps (runCode T 999 c).k = false)
    (hk : W T P fin ⟨(runCode T 999 c).s.setOwn (O1 ++ O2), (runCode T 999 c).k⟩ (RowF b cs :: Γ)) : W T P fin c Γ :=
  W.code 999 (W.pub (s := (runCode T 999 c).s) (k := (runCode T 999 c).k) hm ho hk)
/-- A row as it begins. -/
theorem entRA {b : Nat} {cs xs : List Value} [h : Has (RowF b) cs Γ] (hx : ∀ (i : Nat) (v : Value), xs[i]? = some v → cs[i]? = some v) : ∀ I w, DataOK T I w → Holds Γ I w → Holds [RA (some ⟨b, 0, none⟩) xs] I w := fun I w _ hh =>
  Holds.cons (RA.of_row (h.p hh) hx) (Holds.nil _ _)

end
end Go.Proofs.Ytaafmafdnnjmdaa
