
/- The walk over slots and boxes: loops with blocks of the call's own, loops round by round, rows that are known from their start, append to a row that is full. -/
import Derived.Test.YtaafmafdnnjmdaaVm
import Derived.Test.YtaafmafdnnjmdaaLawZ
import Derived.SliceStrings
import Derived.WideKeyArgs
set_option linter.unusedSimpArgs false
set_option linter.unusedVariables false
namespace Go.Proofs.Ytaafmafdnnjmdaa
open Go.RowKit

/-- A row that begins with these cells. -/
def RA (ao : Option Addr) (xs : List Value) : Fact where
  p I w := xs ≠ [] → ∃ b off, ao = some ⟨b, off, none⟩ ∧ I b ∧ ∀ (i : Nat) (v : Value), xs[i]? = some v → w.cell? ⟨b, off + i, none⟩ = some v
  up := by
    intro I I' w w' hb h1 h2 h3 hne
    obtain ⟨b, off, ha, hI, hr⟩ := hb hne
    have hlt : b < w.heap.size := by
      obtain ⟨v, r, rfl⟩ := List.exists_cons_of_ne_nil hne
      have h0 := hr 0 v rfl
      unfold World.cell? at h0
      split at h0
      · rename_i cs e f hc
        exact lt_of_some hc
      · simp at h0
    refine ⟨b, off, ha, h1 b hlt hI, fun i v hv => ?_⟩
    have := hr i v hv
    unfold World.cell? at this ⊢
    simp only at this ⊢
    rw [h2 b hlt hI]
    exact this

theorem RA.nil (ao : Option Addr) (I : Blk) (w : World) : (RA ao []).p I w := fun h => absurd rfl h

theorem RA.of_row {b : Nat} {cs xs : List Value} {I : Blk} {w : World} (h : (RowF b cs).p I w) (hx : ∀ (i : Nat) (v : Value), xs[i]? = some v → cs[i]? = some v) : (RA (some ⟨b, 0, none⟩) xs).p I w := by
  obtain ⟨hI, e, hc⟩ := h
  exact fun _ => ⟨b, 0, rfl, hI, fun i v hv => by rw [cell_box hc, Nat.zero_add]; exact hx i v hv⟩

theorem RA.cell {b off : Nat} {xs : List Value} {I : Blk} {w : World} (h : (RA (some ⟨b, off, none⟩) xs).p I w) {i : Nat} {v : Value} (hv : xs[i]? = some v) : w.cell? ⟨b, off + i, none⟩ = some v := by
  obtain ⟨b', off', ha, _, hr⟩ := h (by rintro rfl; simp at hv)
  injection ha with ha
  injection ha with e1 e2 _
  subst e1
  subst e2
  exact hr i v hv

def VS.setOwn (s : VS) (O : List (Nat × List Value)) : VS := ⟨s.tmps, s.boxes, O⟩

section
variable {T : Tb} {P : Program} {fin : VS → List Fact → Prop} {c : Cfg} {Γ : List Fact}

/-- A loop, whose blocks of the call's own change, too. -/
theorem W.lpo (D : List Nat) {α : Type} (N : List Nat) (V : α → List (Nat × Value)) (X : α → List (Nat × List Value)) (O : α → List (Nat × List Value)) (G : α → List Fact) (inv : α → Prop) (μ : α → Nat) (a0 : α)
    (h : isLoop (vstep T (Go.Proofs.Ytaafmafdnnjmdaa.runs T D 999 c)) = true)
    (h0 : headS (vstep T (Go.Proofs.Ytaafmafdnnjmdaa.runs T D 999 c)) N (loopS (vstep T (Go.Proofs.Ytaafmafdnnjmdaa.runs T D 999 c))) = (((headS (vstep T (Go.Proofs.Ytaafmafdnnjmdaa.runs T D 999 c)) N (loopS (vstep T (Go.Proofs.Ytaafmafdnnjmdaa.runs T D 999 c)))).puts (V a0)).boxs (X a0)).setOwn (O a0))
    (i0 : inv a0) (f0 : ∀ I w, DataOK T I w → Holds Γ I w → Holds (G a0) I w)
    (hr : ∀ (a : α) (R : VS → List Fact → Prop), inv a →
      (∀ (D' : List Nat) (c' : Cfg) (Γ' : List Fact) (a' : α), againR (vstep T (Go.Proofs.Ytaafmafdnnjmdaa.runs T D' 999 c')) = some R →
        (againS (vstep T (Go.Proofs.Ytaafmafdnnjmdaa.runs T D' 999 c'))).map (headS (vstep T (Go.Proofs.Ytaafmafdnnjmdaa.runs T D 999 c)) N) = some ((((headS (vstep T (Go.Proofs.Ytaafmafdnnjmdaa.runs T D 999 c)) N (loopS (vstep T (Go.Proofs.Ytaafmafdnnjmdaa.runs T D 999 c)))).puts (V a')).boxs (X a')).setOwn (O a')) →
        inv a' → μ a' < μ a → (∀ I w, DataOK T I w → Holds Γ' I w → Holds (G a') I w) → W T P fin c' Γ') →
      W T P fin ⟨(((headS (vstep T (Go.Proofs.Ytaafmafdnnjmdaa.runs T D 999 c)) N (loopS (vstep T (Go.Proofs.Ytaafmafdnnjmdaa.runs T D 999 c)))).puts (V a)).boxs (X a)).setOwn (O a), .code (loopOf (vstep T (Go.Proofs.Ytaafmafdnnjmdaa.runs T D 999 c))) :: .again R :: loopK (vstep T (Go.Proofs.Ytaafmafdnnjmdaa.runs T D 999 c))⟩ (G a)) : W T P fin c Γ := by
  refine W.runs D 999 ?_
  generalize Go.Proofs.Ytaafmafdnnjmdaa.runs T D 999 c = c1 at *
  generalize he : vstep T c1 = e at *
  cases e with
  | loop b c' =>
    generalize hst : headS (Ev.loop b c') N (loopS (Ev.loop b c')) = S at *
    have key : ∀ (m : Nat) (s : VS) (Γ' : List Fact), (∃ a, headS (Ev.loop b c') N s = ((S.puts (V a)).boxs (X a)).setOwn (O a) ∧ inv a ∧ μ a = m ∧ ∀ I w, DataOK T I w → Holds Γ' I w → Holds (G a) I w) →
        W T P fin ⟨s, .code b :: .again (fun s' Γ' => ∃ m', m' < m ∧ ∃ a, headS (Ev.loop b c') N s' = ((S.puts (V a)).boxs (X a)).setOwn (O a) ∧ inv a ∧ μ a = m' ∧ ∀ I w, DataOK T I w → Holds Γ' I w → Holds (G a) I w) :: c'.k⟩ Γ' := by
      rintro m s Γ' ⟨a, hs, hi, rfl, hf⟩
      refine W.forget (without N (codeDst b)) (codeNew b) rfl ?_
      rw [show s.forget (without N (codeDst b)) (codeNew b) = ((S.puts (V a)).boxs (X a)).setOwn (O a) from hs]
      refine W.sub rfl hf ?_
      refine hr a _ hi (fun D' c' Γ' a' hR hS hi' hl' hf' => ?_)
      refine W.runs D' 999 ?_
      generalize Go.Proofs.Ytaafmafdnnjmdaa.runs T D' 999 c' = c2 at *
      cases hv : vstep T c2 <;> rw [hv] at hR hS <;> simp [againR, againS] at hR hS
      subst hR
      exact W.again hv ⟨μ a', hl', a', hS, hi', rfl, hf'⟩
    refine W.loop (fun m s Γ' => ∃ a, headS (Ev.loop b c') N s = ((S.puts (V a)).boxs (X a)).setOwn (O a) ∧ inv a ∧ μ a = m ∧ ∀ I w, DataOK T I w → Holds Γ' I w → Holds (G a) I w) (μ a0) he ⟨a0, ?_, i0, rfl, f0⟩ key
    rw [← h0]
    exact hst
  | _ => simp [isLoop] at h

/-- A loop of at most n rounds, walked round by round. -/
theorem W.unr (D : List Nat) (n : Nat) (h : isLoop (vstep T (Go.Proofs.Ytaafmafdnnjmdaa.runs T D 999 c)) = true)
    (hk : W T P fin ⟨loopS (vstep T (Go.Proofs.Ytaafmafdnnjmdaa.runs T D 999 c)), .rnd n (loopOf (vstep T (Go.Proofs.Ytaafmafdnnjmdaa.runs T D 999 c))) :: loopK (vstep T (Go.Proofs.Ytaafmafdnnjmdaa.runs T D 999 c))⟩ Γ) : W T P fin c Γ := by
  refine W.runs D 999 ?_
  generalize Go.Proofs.Ytaafmafdnnjmdaa.runs T D 999 c = c1 at *
  generalize he : vstep T c1 = e at *
  cases e with
  | loop b c' => exact W.un n he hk
  | _ => simp [isLoop] at h

/-- append to a row that is full. -/
theorem W.apf (D : List Nat) (own : List (Nat × List Value)) (z bytes n m : Nat) (ao : Option Addr) (x : Value) (xs news : List Value) (hT : T.Ok P)
    (h : readApp T (vstep T (Go.Proofs.Ytaafmafdnnjmdaa.runs T D 999 c)) = some (own, z, bytes, .slice ao n n, x)) [hrp : Has (RA ao) xs Γ] (hxl : xs.length = n * z) (hn0 : 0 < n) (hx : Reads T Γ own x m z news)
    (hn : n + m ≤ 1000000) (hb : bytes ≤ 100000000)
    (hk : ∀ ao' c', W T P fin (resumeO (vstep T (Go.Proofs.Ytaafmafdnnjmdaa.runs T D 999 c)) own (.slice ao' (n + m) c')) (RA ao' (xs ++ news) :: Γ)) : W T P fin c Γ := by
  refine W.runs D 999 ?_
  generalize Go.Proofs.Ytaafmafdnnjmdaa.runs T D 999 c = c1 at *
  unfold readApp at h
  split at h
  · rename_i o c' he
    rw [he] at hk
    split at h
    · rename_i cl hop
      split at h
      · rename_i sx xx t1 t2 hcal hargs htys
        split at h
        · rename_i a b y1 ha hbv hy
          cases hc : (Nat.beq t1 t2 && (Nat.beq y1.kind 3 && (!Nat.beq y1.esize 0 && (Nat.beq y1.ezero.length y1.esize && !T.dat y1.elem)))) with
          | false => simp [hc] at h
          | true =>
            simp only [hc, cond_true, Option.some.injEq, Prod.mk.injEq] at h
            obtain ⟨hown, rfl, rfl, rfl, rfl⟩ := h
            simp only [Bool.and_eq_true, Bool.not_eq_true'] at hc
            obtain ⟨c1', c2, c3, c4, c5⟩ := hc
            have ht12 := Nat.eq_of_beq_eq_true c1'
            subst ht12
            have hne : y1.esize ≠ 0 := by
              intro e0
              rw [e0] at c3
              simp at c3
            obtain ⟨ie, zz, hd, hie, hzz, hsz, hby, hzs, hze⟩ := kind_elem hT hy (Nat.eq_of_beq_eq_true c2) hne (Nat.eq_of_beq_eq_true c4)
            have hcargs : cl.args = #[sx, xx] := by rw [← Array.toList_inj]; exact hargs
            have hctys : cl.argTypes = #[t1, t1] := by rw [← Array.toList_inj]; exact htys
            obtain ⟨ax, cc, rfl, hnl, hrd⟩ := hx
            have hnb : (n + m) * y1.ebytes ≤ 140737488355328 := by
              have := Nat.mul_le_mul hn hb
              omega
            have hxne : xs ≠ [] := by
              rintro rfl
              have : 0 < n * y1.esize := Nat.mul_pos hn0 (by omega)
              simp at hxl
              omega
            refine W.own (fun v' Own Δ => ∃ ao' c'', v' = .slice ao' (n + m) c'' ∧ Own = own ∧ Δ = [RA ao' (xs ++ news)]) he (fun I w hdo hh hoa hnod hno => ?_) ?_
            · rw [hown] at hoa hnod
              have hexec : ∀ v' w', (Builtin.append_ #[t1, t1] o.type #[.slice ao n n, .slice ax m cc]).run P w = .ok v' w' → (execOp c'.s.rho o).run P w = .ok (.value v') w' := by
                intro v' w' hr
                simp [execOp, hop, resolve, invoke, builtin, hcal, hcargs, hctys, rho_val ha, rho_val hbv, hr]
              have hrow := hrp.p hh
              by_cases hm : m = 0
              · subst hm
                obtain rfl : news = [] := List.eq_nil_of_length_eq_zero (by simpa using hnl)
                have hr := append_none (P := P) w t1 o.type y1.elem ie hd hie ao ax n n cc (Nat.le_refl _)
                refine ⟨_, own, _, w, _, hexec _ _ hr, .inl rfl, ⟨ao, n, rfl, rfl, rfl⟩, fun q _ _ => Below.refl _ _, Nat.le_refl _, fun _ _ _ => rfl, hoa, fun b cs hb => .inl ⟨cs, by rw [hown]; exact hb⟩, hnod, Holds.cons ?_ (Holds.nil _ _)⟩
                intro _
                obtain ⟨b0, off0, h1, h2, h3⟩ := hrow hxne
                rw [List.append_nil]
                exact ⟨b0, off0, h1, ⟨fun _ => .inl h2, fun cs hcs => hno b0 cs (by rw [hown]; exact hcs) h2⟩, h3⟩
              · obtain ⟨ad, rfl, hrd2⟩ := hrd (by omega)
                have hnews := hrd2 I w hdo hh hoa
                obtain ⟨b0, off0, rfl, h2, h3⟩ := hrow hxne
                obtain ⟨v', w', hrun, hw, hgb⟩ := run_append_arg_grows (P := P) w t1 o.type y1.elem ie zz y1.esize y1.ebytes hd hie hzz hsz hby hzs (by omega) ⟨b0, off0, none⟩ n n xs hxl (fun j u hj => by
                  rw [add_spot]
                  exact h3 j u hj) ad m cc news hnl hnews (by omega) (by unfold maxLen; omega) hnb
                obtain ⟨_, hw⟩ := hw
                rcases hw with ⟨_, h0⟩ | ⟨g, cap, cur, rfl, hge, hgh, hnc, hcm, hcs, htk⟩
                · omega
                · have hltO : ∀ b cs, (b, cs) ∈ own → b < w.heap.size := fun b cs hb => by
                    obtain ⟨_, _, hc⟩ := hoa b cs hb
                    exact lt_of_some hc
                  refine ⟨_, own, _, w', _, hexec _ _ hrun, .inl rfl, ⟨some ⟨g, 0, none⟩, cap, rfl, rfl, rfl⟩, fun q _ hq' => ⟨hgb.os, hgb.tape, hgb.output, hgb.size, fun k hk => hgb.block k (by omega) (by simp)⟩, hgb.size, fun k hk _ => hgb.block k hk (by simp), fun b cs hb => ?_, fun b cs hb => .inl ⟨cs, by rw [hown]; exact hb⟩, hnod, Holds.cons ?_ (Holds.nil _ _)⟩
                  · obtain ⟨e, he', hc⟩ := hoa b cs hb
                    exact ⟨e, he', by rw [hgb.block b (hltO b cs hb) (by simp)]; exact hc⟩
                  · intro _
                    refine ⟨g, 0, rfl, ⟨fun hlt => absurd hge (by omega), fun cs hcs => ?_⟩, fun i v hv => ?_⟩
                    · have := hltO g cs hcs
                      omega
                    · rw [← htk, List.getElem?_take] at hv
                      split at hv
                      · simp only [World.cell?, hgh, Nat.zero_add]
                        simpa using hv
                      · simp at hv
            · rintro v' Own Δ ⟨ao', c'', rfl, rfl, rfl⟩
              exact hk ao' c''
        · simp at h
      · simp at h
    · simp at h
  · simp at h
end

/-- A law's contract as the row wants it, of a law whose arguments lie in memory. -/
theorem law_calls' {T : Tb} {P : Program} {f : FuncId} {args : List Value} {Γ : List Fact} (h : PCalls T P f args Γ (fun v Δ => v = .bool true ∧ Δ = [])) (w : World) (hh : Holds Γ (fun _ => True) w) : Calls P f args.toArray w fun e w' => e = .returned (.bool true) ∧ Below w.heap.size w w' := by
  refine (h.2 (fun _ => True) w (fun _ _ _ _ _ _ => trivial) hh).mono ?_
  rintro e w' ⟨v, Δ, rfl, ⟨rfl, rfl⟩, hb, _⟩
  exact ⟨rfl, hb⟩

section
open Go.ChangeShapes Go.WideShapes
/-- All arguments read as they did. -/
theorem trodAll_stays {H : Type} {enc : TypeId × Value → H} {P : Program} (hl : laidOutB P = true) {W W' : World} (hb : Below W.heap.size W W') {sp : Nat → Bool} :
    ∀ {ts : List TypeId} {vs : List Value} {ds : List (DataW H)} {ps : List MemPlace}, (ts.all fun t => P.readableRec t && decide (t < P.types.size)) = true → DataW.TrodAll enc P W 0 (fun _ => true) true ts vs ds ps →
      (∀ x ∈ ps, x.block < W.heap.size) → (∀ x ∈ ps, sp x.block = true) → DataW.TrodAll enc P W' 0 sp true ts vs ds ps
  | [], [], [], ps, _, h, _, _ => h
  | t :: ts, v :: vs, d :: ds, ps, hr, h, hlt, hsp => by
    obtain ⟨p, q, h1, h2, rfl⟩ := h
    simp only [List.all_cons, Bool.and_eq_true, decide_eq_true_eq] at hr
    refine ⟨p, q, ?_, trodAll_stays hl hb hr.2 h2 (fun x hx => hlt x (List.mem_append_right _ hx)) (fun x hx => hsp x (List.mem_append_right _ hx)), rfl⟩
    exact WideElems.Trod_stays hl hr.1.1 hr.1.2 h1 (fun x hx => hb.same (hlt x (List.mem_append_left _ hx))) (fun x hx => hsp x (List.mem_append_left _ hx))
  | [], [], _ :: _, _, _, h, _, _ => h.elim
  | [], _ :: _, _, _, _, h, _, _ => by cases ‹List (DataW H)› <;> exact h.elim
  | _ :: _, [], _, _, _, h, _, _ => by cases ‹List (DataW H)› <;> exact h.elim
  | _ :: _, _ :: _, [], _, _, h, _, _ => h.elim

/-- A row of strings that came in. -/
theorem row_strs {H : Type} {enc : TypeId × Value → H} {P : Program} {w : World} {t e : TypeId} {v : Value} {d : DataW H} {ps : List MemPlace} (ht : P.underlying t = some (.slice e)) (he : P.underlying e = some .string) (hc : P.cellsOf e = 1)
    {ao : Option Addr} {n c : Nat} (hv : v = .slice ao n c) (h : DataW.Trod enc P w 0 (fun _ => true) true t v d ps) :
    ∃ ss : List ByteArray, n = ss.length ∧ (∀ s ∈ ss, s.size ≤ 9223372036854775807) ∧ (RA ao (ss.map Value.string)).p (fun _ => True) w := by
  subst hv
  obtain ⟨fuel, hf⟩ := h
  rcases open_strings ht he hc hf with ⟨hcs, _⟩ | ⟨a, len, cap, ss, hcs, _, hl, hm, hz, hx, hcell, hsz⟩
  · simp [Value.cells] at hcs
    obtain ⟨rfl, rfl, rfl⟩ := hcs
    exact ⟨[], rfl, by simp, RA.nil _ _ _⟩
  · simp [Value.cells] at hcs
    obtain ⟨rfl, rfl, rfl⟩ := hcs
    simp only [if_true] at hz
    refine ⟨ss.take n, by simp; omega, fun s hs => by have := hsz s (List.mem_of_mem_take hs); unfold maxLen at this; omega, fun hne => ?_⟩
    have hpos : 0 < ss.length := by
      rcases ss with _ | ⟨s, r⟩
      · simp at hne
      · simp
    have h0 := hcell 0 hpos
    obtain ⟨b, off, sp⟩ := a
    have hsp : sp = none := by
      simp only [Addr.add, if_true] at h0
      unfold World.cell? at h0
      split at h0
      · cases sp with
        | none => rfl
        | some x => simp at h0
      · simp at h0
    subst hsp
    refine ⟨b, off, rfl, trivial, fun i v hv => ?_⟩
    simp only [List.getElem?_map, Option.map_eq_some_iff] at hv
    obtain ⟨s, hs, rfl⟩ := hv
    rw [List.getElem?_take] at hs
    split at hs
    · have hi := (List.getElem?_eq_some_iff.1 hs).1
      have := hcell i hi
      rw [add_spot] at this
      rw [this]
      simp [List.getD, hs]
    · simp at hs

/-- A row of numbers that came in. -/
theorem row_ints {H : Type} {enc : TypeId × Value → H} {P : Program} {w : World} {t e : TypeId} {k : IntKind} {v : Value} {d : DataW H} {ps : List MemPlace} (ht : P.underlying t = some (.slice e)) (he : P.underlying e = some (.int k)) (hc : P.cellsOf e = 1)
    {ao : Option Addr} {n c : Nat} (hv : v = .slice ao n c) (h : DataW.Trod enc P w 0 (fun _ => true) true t v d ps) :
    ∃ zs : List Int, n = zs.length ∧ (∀ z ∈ zs, (Lit.int k z).wf = true) ∧ n ≤ c ∧ (RA ao (zs.map (Value.int k))).p (fun _ => True) w := by
  subst hv
  obtain ⟨fuel, hf⟩ := h
  rcases open_ints ht he hc hf with ⟨hcs, _⟩ | ⟨a, len, cap, ss, hcs, _, hl, hm, hz, hx, hcell, hsz⟩
  · simp [Value.cells] at hcs
    obtain ⟨rfl, rfl, rfl⟩ := hcs
    exact ⟨[], rfl, by simp, Nat.le_refl _, RA.nil _ _ _⟩
  · simp [Value.cells] at hcs
    obtain ⟨rfl, rfl, rfl⟩ := hcs
    simp only [if_true] at hz
    refine ⟨ss.take n, by simp; omega, fun s hs => hsz s (List.mem_of_mem_take hs), hl, fun hne => ?_⟩
    have hpos : 0 < ss.length := by
      rcases ss with _ | ⟨s, r⟩
      · simp at hne
      · simp
    have h0 := hcell 0 hpos
    obtain ⟨b, off, sp⟩ := a
    have hsp : sp = none := by
      simp only [Addr.add, if_true] at h0
      unfold World.cell? at h0
      split at h0
      · cases sp with
        | none => rfl
        | some x => simp at h0
      · simp at h0
    subst hsp
    refine ⟨b, off, rfl, trivial, fun i v hv => ?_⟩
    simp only [List.getElem?_map, Option.map_eq_some_iff] at hv
    obtain ⟨s, hs, rfl⟩ := hv
    rw [List.getElem?_take] at hs
    split at hs
    · have hi := (List.getElem?_eq_some_iff.1 hs).1
      have := hcell i hi
      rw [add_spot] at this
      rw [this]
      simp [List.getD, hs]
    · simp at hs
end

end Go.Proofs.Ytaafmafdnnjmdaa
