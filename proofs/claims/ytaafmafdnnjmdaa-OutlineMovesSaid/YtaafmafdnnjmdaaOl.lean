/- law09: what its laws have in common. -/
import Derived.Test.YtaafmafdnnjmdaaPo
import Derived.Test.YtaafmafdnnjmdaaKp
set_option linter.unusedSimpArgs false
set_option linter.unusedVariables false
namespace Go.Proofs.Ytaafmafdnnjmdaa
open Go.RowKit Go.IntWalk

section
variable {T : Tb} {P : Program} {fin : VS → List Fact → Prop} {c : Cfg} {Γ : List Fact}
/-- append to a slice of no elements and no room: the row is nobody's. -/
theorem W.apt0 (D : List Nat) (own : List (Nat × List Value)) (z bytes m b0 off0 : Nat) (x : Value) (news : List Value) (hT : T.Ok P)
    (h : readApp T (vstep T (Go.Proofs.Ytaafmafdnnjmdaa.runs T D 999 c)) = some (own, z, bytes, .slice (some ⟨b0, off0, none⟩) 0 0, x)) (hx : Reads T Γ own x m z news)
    (hn : m ≤ 1000000) (hb : bytes ≤ 100000000)
    (hk : ∀ ao' c', m ≤ c' → W T P fin (resumeO (vstep T (Go.Proofs.Ytaafmafdnnjmdaa.runs T D 999 c)) own (.slice ao' m c')) (RA ao' news :: Γ)) : W T P fin c Γ := by
  refine W.runs D 999 ?_
  generalize Go.Proofs.Ytaafmafdnnjmdaa.runs T D 999 c = c1 at *
  unfold readApp at h
  split at h
  · rename_i o c' he
    rw [he] at hk
    split at h
    · rename_i cl hop
      split at h
      · rename_i sx xx t1 t2 hcal hargs htys
        split at h
        · rename_i a b y1 ha hbv hy
          cases hc : (Nat.beq t1 t2 && (Nat.beq y1.kind 3 && (!Nat.beq y1.esize 0 && (Nat.beq y1.ezero.length y1.esize && !T.dat y1.elem)))) with
          | false => simp [hc] at h
          | true =>
            simp only [hc, cond_true, Option.some.injEq, Prod.mk.injEq] at h
            obtain ⟨hown, rfl, rfl, rfl, rfl⟩ := h
            simp only [Bool.and_eq_true, Bool.not_eq_true'] at hc
            obtain ⟨c1', c2, c3, c4, c5⟩ := hc
            have ht12 := Nat.eq_of_beq_eq_true c1'
            subst ht12
            have hne : y1.esize ≠ 0 := by
              intro e0
              rw [e0] at c3
              simp at c3
            obtain ⟨ie, zz, hd, hie, hzz, hsz, hby, hzs, hze⟩ := kind_elem hT hy (Nat.eq_of_beq_eq_true c2) hne (Nat.eq_of_beq_eq_true c4)
            have hcargs : cl.args = #[sx, xx] := by rw [← Array.toList_inj]; exact hargs
            have hctys : cl.argTypes = #[t1, t1] := by rw [← Array.toList_inj]; exact htys
            obtain ⟨ax, cc, rfl, hnl, hrd⟩ := hx
            have hnb : (0 + m) * y1.ebytes ≤ 140737488355328 := by
              rw [Nat.zero_add]
              have := Nat.mul_le_mul hn hb
              omega
            refine W.own (fun v' Own Δ => ∃ ao' c'', m ≤ c'' ∧ v' = .slice ao' m c'' ∧ Own = own ∧ Δ = [RA ao' news]) he (fun I w hdo hh hoa hnod hno => ?_) ?_
            · rw [hown] at hoa hnod
              have hexec : ∀ v' w', (Builtin.append_ #[t1, t1] o.type #[.slice (some ⟨b0, off0, none⟩) 0 0, .slice ax m cc]).run P w = .ok v' w' → (execOp c'.s.rho o).run P w = .ok (.value v') w' := by
                intro v' w' hr
                simp [execOp, hop, resolve, invoke, builtin, hcal, hcargs, hctys, rho_val ha, rho_val hbv, hr]
              by_cases hm : m = 0
              · subst hm
                obtain rfl : news = [] := List.eq_nil_of_length_eq_zero (by simpa using hnl)
                have hr := append_none (P := P) w t1 o.type y1.elem ie hd hie (some ⟨b0, off0, none⟩) ax 0 0 cc (Nat.le_refl _)
                exact ⟨_, own, _, w, _, hexec _ _ hr, .inl rfl, ⟨some ⟨b0, off0, none⟩, 0, Nat.le_refl _, rfl, rfl, rfl⟩, fun q _ _ => Below.refl _ _, Nat.le_refl _, fun _ _ _ => rfl, hoa, fun b cs hb => .inl ⟨cs, by rw [hown]; exact hb⟩, hnod, Holds.cons (RA.nil _ _ _) (Holds.nil _ _)⟩
              · obtain ⟨ad, rfl, hrd2⟩ := hrd (by omega)
                have hnews := hrd2 I w hdo hh hoa
                obtain ⟨v', w', hrun, hw, hgb⟩ := run_append_arg_grows (P := P) w t1 o.type y1.elem ie zz y1.esize y1.ebytes hd hie hzz hsz hby hzs (by omega) ⟨b0, off0, none⟩ 0 0 [] (by simp) (fun j u hj => by simp at hj) ad m cc news hnl hnews (by omega) (by unfold maxLen; omega) hnb
                obtain ⟨_, hw⟩ := hw
                rcases hw with ⟨_, h0⟩ | ⟨g, cap, cur, rfl, hge, hgh, hnc, hcm, hcs, htk⟩
                · omega
                · have hltO : ∀ b cs, (b, cs) ∈ own → b < w.heap.size := fun b cs hb => by
                    obtain ⟨_, _, hc⟩ := hoa b cs hb
                    exact lt_of_some hc
                  rw [Nat.zero_add] at hrun hnc htk
                  refine ⟨_, own, _, w', _, hexec _ _ hrun, .inl rfl, ⟨some ⟨g, 0, none⟩, cap, hnc, rfl, rfl, rfl⟩, fun q _ hq' => ⟨hgb.os, hgb.tape, hgb.output, hgb.size, fun k hk => hgb.block k (by omega) (by simp)⟩, hgb.size, fun k hk _ => hgb.block k hk (by simp), fun b cs hb => ?_, fun b cs hb => .inl ⟨cs, by rw [hown]; exact hb⟩, hnod, Holds.cons ?_ (Holds.nil _ _)⟩
                  · obtain ⟨e, he', hc⟩ := hoa b cs hb
                    exact ⟨e, he', by rw [hgb.block b (hltO b cs hb) (by simp)]; exact hc⟩
                  · intro _
                    refine ⟨g, 0, rfl, ⟨fun hlt => absurd hge (by omega), fun cs hcs => ?_⟩, fun i v hv => ?_⟩
                    · have := hltO g cs hcs
                      omega
                    · have htk' : cur.toList.take (m * y1.esize) = news := by simpa using htk
                      rw [← htk', List.getElem?_take] at hv
                      split at hv
                      · simp only [World.cell?, hgh, Nat.zero_add]
                        simpa using hv
                      · simp at hv
            · rintro v' Own Δ ⟨ao', c'', h1, rfl, rfl, rfl⟩
              exact hk ao' c'' h1
        · simp at h
      · simp at h
    · simp at h
  · simp at h
/-- A place of a row: where the row lies, its two numbers. -/
theorem W.elp (ao : Option Addr) {L : Nat} {l : List PlE} [h : Has (OL PlR ao) (L, l) Γ] {k : Nat} {e : PlE} (he : l[k]? = some e) (hm : midOps c.k = false)
    (hc : ∀ b off, ao = some ⟨b, off, none⟩ → W T P fin c (SF e.x (L, e.X) :: SF e.y (L, e.Y) :: Γ)) : W T P fin c Γ :=
  W.elim (α := Nat × Nat) (fun b => ao = some ⟨b.1, b.2, none⟩) (fun b => [SF e.x (L, e.X), SF e.y (L, e.Y)]) hm (fun I w _ hh => by
    obtain ⟨g1, g2⟩ := h.p hh
    have hk := (List.getElem?_eq_some_iff.1 he).1
    obtain ⟨b, off, ha, _⟩ := g2 (by
      intro e
      have := row_len PlR l
      simp only at e
      rw [e] at this
      simp [PlR] at this
      omega)
    obtain ⟨f1, f2⟩ := g1 e (by obtain ⟨_, rfl⟩ := List.getElem?_eq_some_iff.1 he; exact List.getElem_mem _)
    exact ⟨(b, off), ha, Holds.cons f1 (Holds.cons f2 (Holds.nil _ _))⟩) (fun b hb => hc b.1 b.2 hb)
theorem OL.toldx {b off L : Nat} {l : List PlE} [h : Has (OL PlR (some ⟨b, off, none⟩)) (L, l) Γ] {k : Nat} {e : PlE} (he : l[k]? = some e) : ∀ I w, DataOK T I w → Holds Γ I w → ∀ j v, (svc e.x)[j]? = some v → w.cell? ⟨b, off + k * 40 + 0 + j, none⟩ = some v := fun I w hd hh j v hv =>
  OL.toldq (T := T) (Γ := Γ) (b := b) (off := off) he I w hd hh j v (by
    simp only [PlR]
    rw [List.getElem?_append_left (List.getElem?_eq_some_iff.1 hv).1]
    exact hv)
theorem OL.toldy {b off L : Nat} {l : List PlE} [h : Has (OL PlR (some ⟨b, off, none⟩)) (L, l) Γ] {k : Nat} {e : PlE} (he : l[k]? = some e) : ∀ I w, DataOK T I w → Holds Γ I w → ∀ j v, (svc e.y)[j]? = some v → w.cell? ⟨b, off + k * 40 + 20 + j, none⟩ = some v := fun I w hd hh j v hv => by
  rw [Nat.add_assoc (off + k * 40)]
  exact OL.toldq (T := T) (Γ := Γ) (b := b) (off := off) he I w hd hh (20 + j) v (by
    simp only [PlR]
    rw [List.getElem?_append_right (by simp), show 20 + j - (svc e.x).length = j by simp]
    exact hv)
end
/-- Are a point's parts small? -/
def smallD (k : Int) (p : Dp) : Bool := !(decide (p.x < -k) || decide (p.x > k) || decide (p.y < -k) || decide (p.y > k))
theorem smallD_spec {k : Int} {p : Dp} (h : smallD k p = true) : inD k p := by
  simp only [smallD, Bool.not_eq_true', Bool.or_eq_false_iff, decide_eq_false_iff_not] at h
  unfold inD
  omega
/-- Two numbers that Cmp finds alike. -/
def Alike (S T : Sn) : Prop := S.m = T.m ∧ S.n = T.n ∧ (S.sub T).sg = 0
theorem Alike.rfl' {S T : Sn} (h : S = T) : Alike S T := by
  subst h
  exact ⟨rfl, rfl, Sn.sg_sub rfl rfl rfl rfl⟩
theorem all_take {α : Type} {p : α → Bool} : ∀ {l : List α}, (∀ i (h : i < l.length), p (l[i]'h) = true) → l.all p = true
  | [], _ => rfl
  | a :: r, h => by
    rw [List.all_cons, all_take (fun i hi => h (i + 1) (by simpa using hi)), Bool.and_true]
    exact h 0 (by simp)
theorem not_all {α : Type} {p : α → Bool} {l : List α} {a : α} (h : a ∈ l) (hp : p a = false) : l.all p = false := by
  cases hl : l.all p with
  | false => rfl
  | true => rw [List.all_eq_true] at hl; rw [hl a h] at hp; simp at hp
def OfPostQ (pts : List Dp) (width kind bg en : Int) (v : Value) (Δ : List Fact) : Prop :=
  (oerr pts width kind bg en ≠ 0 ∧ v = .tuple #[.slice none 0 0, .int .i64 (oerr pts width kind bg en)] ∧ Δ = []) ∨
  (oerr pts width kind bg en = 0 ∧ ∃ (b off c : Nat) (l : List PlE), v = .tuple #[.slice (some ⟨b, off, none⟩) l.length c, .int .i64 0] ∧ l.length ≤ c ∧ l.map PlE.num = places (corn pts).1.reverse (corn pts).2.reverse width kind bg en ∧ Δ = [OL PlR (some ⟨b, off, none⟩) (130, l)])
theorem places_pos (cs ws : List Dp) (width kind bg en : Int) : 0 < (places cs ws width kind bg en).length := by
  unfold places
  simp only [List.length_append, List.length_drop]
  have := tip_len (cs.getD 0 ⟨0, 0⟩) (negD (ws.getD 0 ⟨0, 0⟩)) (Rat.divInt width 2) (endsOf kind bg en (Rat.divInt width 2)).1 (kind == 1)
  omega
section
variable {Γ : List Fact} {L M : Nat}
theorem p_outOfQ (ao : Option Addr) (n c : Nat) (pts : List Dp) (width kind bg en : Int) [Has (RA ao) (pts.flatMap dpc) Γ] (hn : n = pts.length) :
    PCalls tb Try.prog 7 [.slice ao n c, .int .i64 width, .int .i64 kind, .int .i64 bg, .int .i64 en] Γ (OfPostQ pts width kind bg en) := by
  refine (PCalls.info (OfPostQ pts width kind bg en) (p_outOf ao n c pts width kind bg en hn) ?_).post (fun _ _ h => h.2)
  rintro v Δ (h | ⟨h0, ao, c, l, rfl, hlc, hl, rfl⟩) I w hh
  · exact .inl h
  · have hln := num_len hl
    have := places_pos (corn pts).1.reverse (corn pts).2.reverse width kind bg en
    obtain ⟨b0, off, rfl, _⟩ := hh.h0'.2 (by
      intro e
      have := row_len PlR l
      simp only at e
      rw [e] at this
      simp [PlR] at this
      omega)
    exact .inr ⟨h0, b0, off, c, l, rfl, hlc, hl, rfl⟩
theorem p_olfew (ao : Option Addr) (n c : Nat) (pts : List Dp) (width kind bg en : Int) [Has (RA ao) (pts.flatMap dpc) Γ] (hn : n = pts.length) (hc : n ≤ c) :
    PCalls tb Try.prog 10 [.agg #[.slice ao n c, .int .i64 width, .int .i64 kind, .int .i64 bg, .int .i64 en]] Γ (fun v Δ => ∃ n' c', v = .agg #[.slice ao n' c', .int .i64 width, .int .i64 kind, .int .i64 bg, .int .i64 en] ∧ n' = (pts.take 12).length ∧ n' ≤ c' ∧ Δ = [RA ao ((pts.take 12).flatMap dpc)]) := by
  refine PCalls.of_W tbOk Try.func10 rfl (by kernel_rfl) ?_
  by_cases hlt : n > 12
  · refine W.ra ao rfl (by intro e; have := dp_len pts; rw [e] at this; simp at this; omega) (fun ba of e => ?_)
    subst e
    refine W.dt [] 6 (decide ((n : Int) > 12)) (by kernel_rfl) (decide_eq_true (by omega)) ?_
    refine W.slp [6] 2 ba of 12 n c 12 rfl tbOk (by kernel_rfl) (by omega) (by omega) ?_
    refine W.r [] (.agg #[.slice (some ⟨ba, of, none⟩) 12 c, .int .i64 width, .int .i64 kind, .int .i64 bg, .int .i64 en]) (by kernel_rfl) ⟨12, c, rfl, by rw [List.length_take]; omega, by omega, rfl⟩ (fun I w _ hh => holds1 (fun hne => ?_))
    obtain ⟨b, off, h1, h2, h3⟩ := (Has.p (k := RA (some ⟨ba, of, none⟩)) (a := pts.flatMap dpc) inferInstance hh) (by intro e; have := dp_len pts; rw [e] at this; simp at this; omega)
    refine ⟨b, off, h1, h2, fun i v hv => h3 i v ?_⟩
    rw [← List.take_append_drop 12 pts, List.flatMap_append, List.getElem?_append_left (List.getElem?_eq_some_iff.1 hv).1]
    exact hv
  · refine W.df [] 6 (decide ((n : Int) > 12)) (by kernel_rfl) (decide_eq_false (by omega)) ?_
    have ht : pts.take 12 = pts := List.take_of_length_le (by omega)
    rw [ht]
    exact W.r [6] (.agg #[.slice ao n c, .int .i64 width, .int .i64 kind, .int .i64 bg, .int .i64 en]) (by kernel_rfl) ⟨n, c, rfl, hn, hc, rfl⟩ entRA'
theorem p_olof (ao : Option Addr) (n c : Nat) (pts : List Dp) (width kind bg en : Int) [Has (RA ao) (pts.flatMap dpc) Γ] (hn : n = pts.length) (hn2 : n ≤ 1000000) (ha : 0 < n → ∃ b off, ao = some ⟨b, off, none⟩) :
    PCalls tb Try.prog 11 [.agg #[.slice ao n c, .int .i64 width, .int .i64 kind, .int .i64 bg, .int .i64 en]] Γ (OfPostQ pts width kind bg en) := by
  refine PCalls.of_W tbOk Try.func11 rfl (by kernel_rfl) ?_
  refine W.bs0 [] tbOk (by kernel_rfl) (fun b1 => ?_)
  refine W.apt0 [] [] 2 16 n b1 0 (.slice ao n c) (pts.flatMap dpc) tbOk (by kernel_rfl) (reads_ra ao [] n 2 c (by rw [dp_len, hn]) ha) hn2 (by decide) (fun ao' c' hc' => ?_)
  refine W.cl [] (by kernel_rfl) (p_outOfQ ao' n c' pts width kind bg en hn) ?_
  rintro _ _ (⟨h0, rfl, rfl⟩ | ⟨h0, b2, o2, c2, l, rfl, hlc, hl, rfl⟩)
  · exact W.r [] (.tuple #[.slice none 0 0, .int .i64 (oerr pts width kind bg en)]) (by kernel_rfl) (.inl ⟨h0, rfl, rfl⟩) ent0
  · exact W.r [] (.tuple #[.slice (some ⟨b2, o2, none⟩) l.length c2, .int .i64 0]) (by kernel_rfl) (.inr ⟨h0, b2, o2, c2, l, rfl, hlc, hl, rfl⟩) (entC entK entE)
theorem p_olsmall (ao : Option Addr) (n c : Nat) (pts : List Dp) (width kind bg en k : Int) [Has (RA ao) (pts.flatMap dpc) Γ] (hn : n = pts.length) (hn2 : n ≤ 1000000) (hk : 0 ≤ k ∧ k ≤ 2147483648) :
    PCalls tb Try.prog 12 [.agg #[.slice ao n c, .int .i64 width, .int .i64 kind, .int .i64 bg, .int .i64 en], .int .i64 k] Γ (IsV (.bool (pts.all (smallD k)))) := by
  have hkw : IntKind.i64.wrap (0 - k) = -k := by rw [IntKind.wrap_i64]; omega
  refine PCalls.of_W tbOk Try.func12 rfl (by kernel_rfl) ?_
  refine W.lp [] [5] (fun a : Nat × Int => [(5, .int .i64 a.2)]) (fun _ => []) (fun _ => [RA ao (pts.flatMap dpc)]) (fun a => a.2 = a.1 ∧ a.1 ≤ n ∧ ∀ i (h : i < pts.length), i < a.1 → smallD k (pts[i]'h) = true) (fun a => n - a.1) (0, 0) (by kernel_rfl) (by kernel_rfl) ⟨rfl, Nat.zero_le _, fun i _ h => by omega⟩ entRA' ?_
  rintro ⟨i, z⟩ K ⟨hz, hi, hall⟩ close
  simp only at hz hi hall
  by_cases hlt : i < n
  rotate_left
  · refine W.df [] 10 (decide (z < (n : Int))) (by kernel_rfl) (decide_eq_false (by omega)) ?_
    exact W.r [10] (.bool true) (by kernel_rfl) ⟨by rw [all_take (fun j hj => hall j hj (by omega))], rfl⟩ ent0
  have hil : i < pts.length := by omega
  have hg : pts[i]? = some (pts[i]'hil) := List.getElem?_eq_getElem hil
  have hmem := List.getElem_mem hil
  have hnext : smallD k (pts[i]'hil) = true → ∀ j (h : j < pts.length), j < i + 1 → smallD k (pts[j]'h) = true := fun ho j h hj => by
    by_cases hji : j < i
    · exact hall j h hji
    · obtain rfl : j = i := by omega
      exact ho
  generalize hp : pts[i]'hil = p at *
  have hsm : smallD k p = !(decide (p.x < IntKind.i64.wrap (0 - k)) || decide (p.x > k) || decide (p.y < IntKind.i64.wrap (0 - k)) || decide (p.y > k)) := by rw [hkw]; rfl
  refine W.ra ao rfl (by intro e; have := dp_len pts; rw [e] at this; simp at this; omega) (fun ba of e => ?_)
  subst e
  refine W.dt [] 10 (decide (z < (n : Int))) (by kernel_rfl) (decide_eq_true (by omega)) ?_
  refine W.ia [10] 2 ba of n c .i64 i z hz tbOk (by kernel_rfl) hlt ?_
  refine W.fa [] 0 ba (of + i * 2) tbOk (by kernel_rfl) ?_
  refine W.ld [] 1 ba (of + i * 2 + 0) (.int .i64 p.x) tbOk (by kernel_rfl) (fun I w hI hh => RA.rdn ba of (i * 2) (dp_atq hg) I w hI hh 0 _ rfl) ?_
  refine W.d [] 22 (decide (p.x < IntKind.i64.wrap (0 - k))) (by kernel_rfl) (fun h0 => ?_) (fun h0 => ?_)
  · refine W.r [52, 43, 32, 22] (.bool false) (by kernel_rfl) ⟨?_, rfl⟩ ent0
    rw [not_all hmem (by rw [hsm, h0]; simp)]
  refine W.ia [22] 2 ba of n c .i64 i z hz tbOk (by kernel_rfl) hlt ?_
  refine W.fa [22] 0 ba (of + i * 2) tbOk (by kernel_rfl) ?_
  refine W.ld [22] 1 ba (of + i * 2 + 0) (.int .i64 p.x) tbOk (by kernel_rfl) (fun I w hI hh => RA.rdn ba of (i * 2) (dp_atq hg) I w hI hh 0 _ rfl) ?_
  refine W.d [22] 32 (decide (p.x > k)) (by kernel_rfl) (fun h1 => ?_) (fun h1 => ?_)
  · refine W.r [52, 43, 32] (.bool false) (by kernel_rfl) ⟨?_, rfl⟩ ent0
    rw [not_all hmem (by rw [hsm, h1]; simp)]
  refine W.ia [32] 2 ba of n c .i64 i z hz tbOk (by kernel_rfl) hlt ?_
  refine W.fa [32] 1 ba (of + i * 2) tbOk (by kernel_rfl) ?_
  refine W.ld [32] 1 ba (of + i * 2 + 1) (.int .i64 p.y) tbOk (by kernel_rfl) (fun I w hI hh => RA.rdn ba of (i * 2) (dp_atq hg) I w hI hh 1 _ rfl) ?_
  refine W.d [32] 43 (decide (p.y < IntKind.i64.wrap (0 - k))) (by kernel_rfl) (fun h2 => ?_) (fun h2 => ?_)
  · refine W.r [52, 43] (.bool false) (by kernel_rfl) ⟨?_, rfl⟩ ent0
    rw [not_all hmem (by rw [hsm, h2]; simp)]
  refine W.ia [43] 2 ba of n c .i64 i z hz tbOk (by kernel_rfl) hlt ?_
  refine W.fa [43] 1 ba (of + i * 2) tbOk (by kernel_rfl) ?_
  refine W.ld [43] 1 ba (of + i * 2 + 1) (.int .i64 p.y) tbOk (by kernel_rfl) (fun I w hI hh => RA.rdn ba of (i * 2) (dp_atq hg) I w hI hh 1 _ rfl) ?_
  refine W.d [43] 52 (decide (p.y > k)) (by kernel_rfl) (fun h3 => ?_) (fun h3 => ?_)
  · refine W.r [52] (.bool false) (by kernel_rfl) ⟨?_, rfl⟩ ent0
    rw [not_all hmem (by rw [hsm, h3]; simp)]
  exact close [52] _ _ (i + 1, IntKind.i64.wrap (z + 1)) (by kernel_rfl) (by kernel_rfl) ⟨by simp only [IntKind.wrap_i64]; omega, hlt, hnext (by rw [hsm, h0, h1, h2, h3]; rfl)⟩ (by simp only; omega) entRA'
theorem p_olsame (ao : Option Addr) (n c : Nat) (la : List PlE) (bo : Option Addr) (l d : Nat) (lb : List PlE) [Has (OL PlR ao) (L, la) Γ] [Has (OL PlR bo) (M, lb) Γ] (hn : n = la.length) (hl : l = lb.length) (hnl : n = l) (hn2 : n ≤ 1000000)
    (hall : ∀ (i : Nat) (x y : PlE), la[i]? = some x → lb[i]? = some y → Alike x.X y.X ∧ Alike x.Y y.Y) (hL : L ≤ 4000 ∧ M ≤ 4000 := by omega) :
    PCalls tb Try.prog 13 [.slice ao n c, .slice bo l d] Γ (IsV (.bool true)) := by
  refine PCalls.of_W tbOk Try.func13 rfl (by kernel_rfl) ?_
  refine W.df [] 14 ((n : Int) != (l : Int)) (by kernel_rfl) (by rw [hnl]; simp) ?_
  refine W.lp [14] [5] (fun a : Nat × Int => [(5, .int .i64 a.2)]) (fun _ => []) (fun _ => [OL PlR ao (L, la), OL PlR bo (M, lb)]) (fun a => a.2 = a.1 ∧ a.1 ≤ n) (fun a => n - a.1) (0, 0) (by kernel_rfl) (by kernel_rfl) ⟨rfl, Nat.zero_le _⟩ (entC entK (entC entK entE)) ?_
  rintro ⟨i, z⟩ K ⟨hz, hi⟩ close
  simp only at hz hi
  by_cases hlt : i < n
  rotate_left
  · refine W.df [] 18 (decide (z < (n : Int))) (by kernel_rfl) (decide_eq_false (by omega)) ?_
    exact W.r [18] (.bool true) (by kernel_rfl) ⟨rfl, rfl⟩ ent0
  obtain ⟨x, hx⟩ : ∃ x, la[i]? = some x := ⟨_, List.getElem?_eq_getElem (by omega)⟩
  obtain ⟨y, hy⟩ : ∃ y, lb[i]? = some y := ⟨_, List.getElem?_eq_getElem (by omega)⟩
  obtain ⟨⟨k1, k2, k3⟩, k4, k5, k6⟩ := hall i x y hx hy
  refine W.elp ao hx rfl (fun ba oa e => ?_)
  subst e
  refine W.elp bo hy rfl (fun bb ob e => ?_)
  subst e
  refine W.dt [] 18 (decide (z < (n : Int))) (by kernel_rfl) (decide_eq_true (by omega)) ?_
  refine W.ia [18] 40 ba oa n c .i64 i z hz tbOk (by kernel_rfl) hlt ?_
  refine W.fa [] 0 ba (oa + i * 40) tbOk (by kernel_rfl) ?_
  refine W.lds [] ba (oa + i * 40 + 0) (svc x.x) tbOk (by kernel_rfl) (OL.toldx hx) ?_
  refine W.ia [] 40 bb ob l d .i64 i z hz tbOk (by kernel_rfl) (by omega) ?_
  refine W.fa [] 0 bb (ob + i * 40) tbOk (by kernel_rfl) ?_
  refine W.lds [] bb (ob + i * 40 + 0) (svc y.x) tbOk (by kernel_rfl) (OL.toldx hy) ?_
  refine W.cl [] (by kernel_rfl) (p_xcmp x.x (S := x.X) y.x (T := y.X) k1 k2) ?_
  rintro _ _ ⟨rfl, rfl⟩
  refine W.ia [] 40 ba oa n c .i64 i z hz tbOk (by kernel_rfl) hlt ?_
  refine W.fa [] 20 ba (oa + i * 40) tbOk (by kernel_rfl) ?_
  refine W.lds [] ba (oa + i * 40 + 20) (svc x.y) tbOk (by kernel_rfl) (OL.toldy hx) ?_
  refine W.ia [] 40 bb ob l d .i64 i z hz tbOk (by kernel_rfl) (by omega) ?_
  refine W.fa [] 20 bb (ob + i * 40) tbOk (by kernel_rfl) ?_
  refine W.lds [] bb (ob + i * 40 + 20) (svc y.y) tbOk (by kernel_rfl) (OL.toldy hy) ?_
  refine W.cl [] (by kernel_rfl) (p_xcmp x.y (S := x.Y) y.y (T := y.Y) k4 k5) ?_
  rintro _ _ ⟨rfl, rfl⟩
  refine W.df [51, 55] 59 ((x.X.sub y.X).sg != 0) (by kernel_rfl) (by rw [k3]; rfl) ?_
  refine W.df [59] 62 ((x.Y.sub y.Y).sg != 0) (by kernel_rfl) (by rw [k6]; rfl) ?_
  exact close [62] _ _ (i + 1, IntKind.i64.wrap (z + 1)) (by kernel_rfl) (by kernel_rfl) ⟨by simp only [IntKind.wrap_i64]; omega, hlt⟩ (by simp only; omega) (entC entK (entC entK entE))
/-- Grid of a row's place. -/
theorem p_ogridL (ao : Option Addr) (k : Nat) {l : List PlE} {e : PlE} (he : l[k]? = some e) [h : Has (OL PlR ao) (L, l) Γ] {X Y : Sn} (eX : e.X = X) (eY : e.Y = Y) (hX : X.half.floors = true) (hY : Y.half.floors = true) (a b : Int) (ha : X.near = a) (hb : Y.near = b) (sa : small a = true) (sb : small b = true) (ba : -1000 ≤ a ∧ a ≤ 1000) (bb : -1000 ≤ b ∧ b ≤ 1000) (hL : L ≤ 280 := by omega) :
    PCalls tb Try.prog 18 [plv e.x e.y] Γ (IsV (.tuple #[.agg #[.int .i64 a, .int .i64 b], .int .i64 0])) := by
  subst eX eY
  refine (p_ogrid (Γ := SF e.x (L, e.X) :: SF e.y (L, e.Y) :: Γ) e.x e.y hX hY a b ha hb sa sb ba bb hL hL).weak (fun I w _ hh => ?_) (fun _ _ h => h)
  obtain ⟨f1, f2⟩ := (h.p hh).1 e (by obtain ⟨_, rfl⟩ := List.getElem?_eq_some_iff.1 he; exact List.getElem_mem _)
  exact Holds.cons f1 (Holds.cons f2 hh)
--<olk
def kp1 : List Dp := [⟨0, 0⟩, ⟨10, 0⟩, ⟨10, 10⟩]
def kp2 : List Dp := [⟨0, 0⟩, ⟨10, 0⟩, ⟨0, 0⟩]
def kl1 : List (Sn × Sn) := places (corn kp1).1.reverse (corn kp1).2.reverse 4 0 0 0
def kz : Sn × Sn := (⟨0, 0, 0, 0, 0, 0⟩, ⟨0, 0, 0, 0, 0, 0⟩)
theorem kl1_at {l : List PlE} (h : l.map PlE.num = kl1) (k : Nat) (e : PlE) (he : l[k]? = some e) : e.X = (kl1.getD k kz).1 ∧ e.Y = (kl1.getD k kz).2 := by
  have : kl1[k]? = some e.num := by rw [← h, List.getElem?_map, he]; rfl
  rw [List.getD_eq_getElem?_getD, this]
  exact ⟨rfl, rfl⟩
set_option maxHeartbeats 4000000 in
theorem p_olknown : PCalls tb Try.prog 9 [] Γ (IsV (.bool true)) := by
  refine PCalls.of_W tbOk Try.func9 rfl (by kernel_rfl) ?_
  refine W.bs [] 3 (kp1.flatMap dpc) tbOk (by kernel_rfl) (fun b1 => ?_)
  refine W.cx [] (by kernel_rfl) (entC (F := RA (some ⟨b1, 0, none⟩) (kp1.flatMap dpc)) entKR entE) (p_olof (some ⟨b1, 0, none⟩) 3 3 kp1 4 0 0 0 rfl (by decide) (fun _ => ⟨b1, 0, rfl⟩)) ?_
  rintro _ _ (⟨h0, rfl, rfl⟩ | ⟨h0, ba, oa, c2, l, rfl, hlc, hl, rfl⟩)
  · exact absurd (show oerr kp1 4 0 0 0 = 0 by decide +kernel) h0
  have hl' : l.map PlE.num = kl1 := hl
  have hlen : l.length = 6 := by rw [num_len hl']; decide +kernel
  have hget : ∀ k, k < 6 → ∃ e, l[k]? = some e := fun k hk => ⟨_, List.getElem?_eq_getElem (by omega)⟩
  obtain ⟨e0, g0⟩ := hget 0 (by decide)
  obtain ⟨e1, g1⟩ := hget 1 (by decide)
  obtain ⟨e2, g2⟩ := hget 2 (by decide)
  obtain ⟨e3, g3⟩ := hget 3 (by decide)
  obtain ⟨e4, g4⟩ := hget 4 (by decide)
  obtain ⟨e5, g5⟩ := hget 5 (by decide)
  clear hl hget
  rw [hlen]
  refine W.bs [] 6 ([(⟨0, 2⟩ : Dp), ⟨8, 2⟩, ⟨8, 10⟩, ⟨12, 10⟩, ⟨12, -2⟩, ⟨0, -2⟩].flatMap dpc) tbOk (by kernel_rfl) (fun b3 => ?_)
  refine W.df [27] 31 (((6 : Nat) : Int) != 6) (by kernel_rfl) (by decide) ?_
  refine W.unr [31] 7 (by kernel_rfl) ?_
  refine W.ia [33] 40 ba oa 6 c2 .i64 0 0 rfl tbOk (by kernel_rfl) (by decide) ?_
  refine W.lds [] ba (oa + 0 * 40) (svc e0.x ++ svc e0.y) tbOk (by kernel_rfl) (OL.toldq g0) ?_
  refine W.cl [] (by kernel_rfl) (p_ogridL (some ⟨ba, oa, none⟩) 0 g0 (kl1_at hl' 0 e0 g0).1 (kl1_at hl' 0 e0 g0).2 (by decide +kernel) (by decide +kernel) 0 2 (by decide +kernel) (by decide +kernel) (by decide) (by decide) (by decide) (by decide)) ?_
  rintro _ _ ⟨rfl, rfl⟩
  refine W.ia [46] 2 b3 0 6 6 .i64 0 0 rfl tbOk (by kernel_rfl) (by decide) ?_
  refine W.ldr [46] b3 (0 + 0 * 2) (dpc ⟨0, 2⟩) tbOk (by kernel_rfl) rfl ?_
  refine W.nep [46] 25 ⟨0, 2⟩ ⟨0, 2⟩ (by kernel_rfl) (by kernel_rfl) (by kernel_rfl) ?_
  refine W.df [46] 53 (!decide ((⟨0, 2⟩ : Dp) = ⟨0, 2⟩)) (by kernel_rfl) (by decide) ?_
  refine W.ia [33, 53] 40 ba oa 6 c2 .i64 1 1 rfl tbOk (by kernel_rfl) (by decide) ?_
  refine W.lds [] ba (oa + 1 * 40) (svc e1.x ++ svc e1.y) tbOk (by kernel_rfl) (OL.toldq g1) ?_
  refine W.cl [] (by kernel_rfl) (p_ogridL (some ⟨ba, oa, none⟩) 1 g1 (kl1_at hl' 1 e1 g1).1 (kl1_at hl' 1 e1 g1).2 (by decide +kernel) (by decide +kernel) 8 2 (by decide +kernel) (by decide +kernel) (by decide) (by decide) (by decide) (by decide)) ?_
  rintro _ _ ⟨rfl, rfl⟩
  refine W.ia [46] 2 b3 0 6 6 .i64 1 1 rfl tbOk (by kernel_rfl) (by decide) ?_
  refine W.ldr [46] b3 (0 + 1 * 2) (dpc ⟨8, 2⟩) tbOk (by kernel_rfl) rfl ?_
  refine W.nep [46] 25 ⟨8, 2⟩ ⟨8, 2⟩ (by kernel_rfl) (by kernel_rfl) (by kernel_rfl) ?_
  refine W.df [46] 53 (!decide ((⟨8, 2⟩ : Dp) = ⟨8, 2⟩)) (by kernel_rfl) (by decide) ?_
  refine W.ia [33, 53] 40 ba oa 6 c2 .i64 2 2 rfl tbOk (by kernel_rfl) (by decide) ?_
  refine W.lds [] ba (oa + 2 * 40) (svc e2.x ++ svc e2.y) tbOk (by kernel_rfl) (OL.toldq g2) ?_
  refine W.cl [] (by kernel_rfl) (p_ogridL (some ⟨ba, oa, none⟩) 2 g2 (kl1_at hl' 2 e2 g2).1 (kl1_at hl' 2 e2 g2).2 (by decide +kernel) (by decide +kernel) 8 10 (by decide +kernel) (by decide +kernel) (by decide) (by decide) (by decide) (by decide)) ?_
  rintro _ _ ⟨rfl, rfl⟩
  refine W.ia [46] 2 b3 0 6 6 .i64 2 2 rfl tbOk (by kernel_rfl) (by decide) ?_
  refine W.ldr [46] b3 (0 + 2 * 2) (dpc ⟨8, 10⟩) tbOk (by kernel_rfl) rfl ?_
  refine W.nep [46] 25 ⟨8, 10⟩ ⟨8, 10⟩ (by kernel_rfl) (by kernel_rfl) (by kernel_rfl) ?_
  refine W.df [46] 53 (!decide ((⟨8, 10⟩ : Dp) = ⟨8, 10⟩)) (by kernel_rfl) (by decide) ?_
  refine W.ia [33, 53] 40 ba oa 6 c2 .i64 3 3 rfl tbOk (by kernel_rfl) (by decide) ?_
  refine W.lds [] ba (oa + 3 * 40) (svc e3.x ++ svc e3.y) tbOk (by kernel_rfl) (OL.toldq g3) ?_
  refine W.cl [] (by kernel_rfl) (p_ogridL (some ⟨ba, oa, none⟩) 3 g3 (kl1_at hl' 3 e3 g3).1 (kl1_at hl' 3 e3 g3).2 (by decide +kernel) (by decide +kernel) 12 10 (by decide +kernel) (by decide +kernel) (by decide) (by decide) (by decide) (by decide)) ?_
  rintro _ _ ⟨rfl, rfl⟩
  refine W.ia [46] 2 b3 0 6 6 .i64 3 3 rfl tbOk (by kernel_rfl) (by decide) ?_
  refine W.ldr [46] b3 (0 + 3 * 2) (dpc ⟨12, 10⟩) tbOk (by kernel_rfl) rfl ?_
  refine W.nep [46] 25 ⟨12, 10⟩ ⟨12, 10⟩ (by kernel_rfl) (by kernel_rfl) (by kernel_rfl) ?_
  refine W.df [46] 53 (!decide ((⟨12, 10⟩ : Dp) = ⟨12, 10⟩)) (by kernel_rfl) (by decide) ?_
  refine W.ia [33, 53] 40 ba oa 6 c2 .i64 4 4 rfl tbOk (by kernel_rfl) (by decide) ?_
  refine W.lds [] ba (oa + 4 * 40) (svc e4.x ++ svc e4.y) tbOk (by kernel_rfl) (OL.toldq g4) ?_
  refine W.cl [] (by kernel_rfl) (p_ogridL (some ⟨ba, oa, none⟩) 4 g4 (kl1_at hl' 4 e4 g4).1 (kl1_at hl' 4 e4 g4).2 (by decide +kernel) (by decide +kernel) 12 (-2) (by decide +kernel) (by decide +kernel) (by decide) (by decide) (by decide) (by decide)) ?_
  rintro _ _ ⟨rfl, rfl⟩
  refine W.ia [46] 2 b3 0 6 6 .i64 4 4 rfl tbOk (by kernel_rfl) (by decide) ?_
  refine W.ldr [46] b3 (0 + 4 * 2) (dpc ⟨12, -2⟩) tbOk (by kernel_rfl) rfl ?_
  refine W.nep [46] 25 ⟨12, -2⟩ ⟨12, -2⟩ (by kernel_rfl) (by kernel_rfl) (by kernel_rfl) ?_
  refine W.df [46] 53 (!decide ((⟨12, -2⟩ : Dp) = ⟨12, -2⟩)) (by kernel_rfl) (by decide) ?_
  refine W.ia [33, 53] 40 ba oa 6 c2 .i64 5 5 rfl tbOk (by kernel_rfl) (by decide) ?_
  refine W.lds [] ba (oa + 5 * 40) (svc e5.x ++ svc e5.y) tbOk (by kernel_rfl) (OL.toldq g5) ?_
  refine W.cl [] (by kernel_rfl) (p_ogridL (some ⟨ba, oa, none⟩) 5 g5 (kl1_at hl' 5 e5 g5).1 (kl1_at hl' 5 e5 g5).2 (by decide +kernel) (by decide +kernel) 0 (-2) (by decide +kernel) (by decide +kernel) (by decide) (by decide) (by decide) (by decide)) ?_
  rintro _ _ ⟨rfl, rfl⟩
  refine W.ia [46] 2 b3 0 6 6 .i64 5 5 rfl tbOk (by kernel_rfl) (by decide) ?_
  refine W.ldr [46] b3 (0 + 5 * 2) (dpc ⟨0, -2⟩) tbOk (by kernel_rfl) rfl ?_
  refine W.nep [46] 25 ⟨0, -2⟩ ⟨0, -2⟩ (by kernel_rfl) (by kernel_rfl) (by kernel_rfl) ?_
  refine W.df [46] 53 (!decide ((⟨0, -2⟩ : Dp) = ⟨0, -2⟩)) (by kernel_rfl) (by decide) ?_
  refine W.bs [33, 53] 3 (kp2.flatMap dpc) tbOk (by kernel_rfl) (fun b34 => ?_)
  refine W.cx [] (by kernel_rfl) (entC (F := RA (some ⟨b34, 0, none⟩) (kp2.flatMap dpc)) entKR entE) (p_olof (some ⟨b34, 0, none⟩) 3 3 kp2 4 0 0 0 rfl (by decide) (fun _ => ⟨b34, 0, rfl⟩)) ?_
  rintro _ _ (⟨h0', rfl, rfl⟩ | ⟨h0', ba', oa', c2', l', rfl, hlc', hl', rfl⟩)
  · exact W.r [] (.bool (oerr kp2 4 0 0 0 == 25)) (by kernel_rfl) ⟨congrArg _ (by decide +kernel), rfl⟩ ent0
  · exact absurd h0' (by decide +kernel)
-->olk
end
end Go.Proofs.Ytaafmafdnnjmdaa
