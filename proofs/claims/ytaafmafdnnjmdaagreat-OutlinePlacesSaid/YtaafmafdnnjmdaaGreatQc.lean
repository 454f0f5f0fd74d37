/- The reference of outline: its Of. -/
import Derived.Test.YtaafmafdnnjmdaaGreatQb
import Derived.Test.YtaafmafdnnjmdaaGreatPu
set_option linter.unusedSimpArgs false
set_option linter.unusedVariables false
namespace Go.Proofs.YtaafmafdnnjmdaaGreat
open Go.RowKit Go.IntWalk

/-- What the reference's Of answers. -/
def RfPost (pts : List Dp) (width kind bg en : Int) (v : Value) (Δ : List Fact) : Prop :=
  (oerr pts width kind bg en ≠ 0 ∧ v = .tuple #[.slice none 0 0, .int .i64 (oerr pts width kind bg en)] ∧ Δ = []) ∨
  (oerr pts width kind bg en = 0 ∧ ∃ (b off c : Nat) (l : List TwE), v = .tuple #[.slice (some ⟨b, off, none⟩) l.length c, .int .i64 0] ∧ l.length ≤ c ∧ l.map TwE.num = rplaces (corn pts).1.reverse (corn pts).2.reverse width kind bg en ∧ Δ = [OL TwR (some ⟨b, off, none⟩) (20, l)])
theorem rtip_len (p d : Dp) (h b : Rat) (r : Bool) : 2 ≤ (rtip p d h b r).length ∧ (rtip p d h b r).length ≤ 5 := by
  cases r <;> simp [rtip]
theorem twn_len {l : List TwE} {q : List TwV} (h : l.map TwE.num = q) : l.length = q.length := by rw [← h, List.length_map]
theorem rcorns_len (h : Rat) : ∀ (c w : List Dp), c.length = w.length → (rcorns h c w).length = w.length - 1
  | _, [], hl => by cases ‹List Dp› <;> simp [rcorns] at *
  | [], _ :: _, hl => by simp at hl
  | p :: c, [d], hl => by simp [rcorns]
  | p :: c, d :: e :: w, hl => by
    have := rcorns_len h c (e :: w) (by simp at hl ⊢; omega)
    simp only [rcorns, List.length_cons, this]
    omega
theorem rcorns_at (h : Rat) : ∀ (c w : List Dp) (j : Nat) (p d e : Dp), c[j]? = some p → w[j]? = some d → w[j + 1]? = some e → (rcorns h c w)[j]? = some (rcorn p d e h)
  | [], _, j, p, d, e, h1, h2, h3 => by simp at h1
  | _ :: _, [], j, p, d, e, h1, h2, h3 => by simp at h2
  | _ :: _, [a], j, p, d, e, h1, h2, h3 => by simp at h3
  | q :: c, a :: b :: w, j, p, d, e, h1, h2, h3 => by
    cases j with
    | zero =>
      simp at h1 h2 h3
      subst h1 h2 h3
      rfl
    | succ j =>
      simp only [rcorns, List.getElem?_cons_succ] at h1 h2 h3 ⊢
      exact rcorns_at h c (b :: w) j p d e h1 h2 h3
structure TSt where
  i : Nat
  z : Int
  v : Value
  O : List (Nat × List Value)
  l : List TwE
  ao : Option Addr
  ys : List Value
theorem negD_neg {d e : Dp} : d = negD e ↔ e = negD d := by
  simp only [Dp.eq_iff, negD]
  omega
section
variable {T : Tb} {Γ : List Fact}
theorem TL.toldq {b off L : Nat} {l : List TwE} [h : Has (OL TwR (some ⟨b, off, none⟩)) (L, l) Γ] {k : Nat} {e : TwE} (he : l[k]? = some e) : ∀ I w, DataOK T I w → Holds Γ I w → ∀ j v, (twc e)[j]? = some v → w.cell? ⟨b, off + k * 26 + j, none⟩ = some v := fun I w hd hh j v hv => by
  obtain ⟨hk, rfl⟩ := List.getElem?_eq_some_iff.1 he
  exact OL.told (T := T) (Γ := Γ) TwR b off k hk I w hd hh j v hv
theorem reads_tw (b off : Nat) {l : List TwE} {L : Nat} [h : Has (OL TwR (some ⟨b, off, none⟩)) (L, l) Γ] (own : List (Nat × List Value)) (r c : Nat) (hr : r ≤ l.length) : Reads T Γ own (.slice (some ⟨b, off, none⟩) r c) r 26 ((l.take r).flatMap TwR.cells) :=
  ⟨some ⟨b, off, none⟩, c, rfl, by rw [row_len TwR, List.length_take, Nat.min_eq_left hr]; rfl, fun _ => ⟨⟨b, off, none⟩, rfl, fun I w _ hh _ j u hu => by
    rw [add_spot]
    refine RA.cell (h.p hh).2 ?_
    simp only
    rw [← List.take_append_drop r l, List.flatMap_append, List.getElem?_append_left (List.getElem?_eq_some_iff.1 hu).1]
    exact hu⟩⟩
theorem tws_one {l : List TwE} : ∀ u ∈ l.flatMap TwR.cells, u.oneCell' = true := fun u hu => by
  obtain ⟨e, _, he⟩ := List.mem_flatMap.1 hu
  exact two_one e u he
theorem entT1 {ao : Option Addr} {k : Nat} {l : List TwE} {e : TwE} [h : Has (OL TwR ao) (20, l) Γ] (he : l[k]? = some e) : ∀ (I : Blk) (w : World), DataOK tb I w → Holds Γ I w → (OS TwR (20, [e])).p I w := fun I w _ hh x hx => by
  simp only [List.mem_cons, List.not_mem_nil, or_false] at hx
  subst hx
  obtain ⟨hk, rfl⟩ := List.getElem?_eq_some_iff.1 he
  exact (h.p hh).1 _ (List.getElem_mem hk)
theorem entTs {l : List TwE} (e : TwE) [h : Has (OS TwR) (20, l) Γ] [hx : Has (TwR.fact 20) e Γ] : ∀ (I : Blk) (w : World), DataOK tb I w → Holds Γ I w → (OS TwR (20, l ++ [e])).p I w := fun I w _ hh x hx' => by
  rcases List.mem_append.1 hx' with h1 | h1
  · exact h.p hh x h1
  · simp only [List.mem_cons, List.not_mem_nil, or_false] at h1
    subst h1
    exact hx.p hh
theorem entTa {l l2 : List TwE} {ao : Option Addr} [h : Has (OS TwR) (20, l) Γ] [hx : Has (OL TwR ao) (20, l2) Γ] : ∀ (I : Blk) (w : World), DataOK tb I w → Holds Γ I w → (OS TwR (20, l ++ l2)).p I w := fun I w _ hh x hx' => by
  rcases List.mem_append.1 hx' with h1 | h1
  · exact h.p hh x h1
  · exact (hx.p hh).1 x h1
theorem entTt {r : Nat} {l l2 : List TwE} {ao : Option Addr} [h : Has (OS TwR) (20, l) Γ] [hx : Has (OL TwR ao) (20, l2) Γ] : ∀ (I : Blk) (w : World), DataOK tb I w → Holds Γ I w → (OS TwR (20, l ++ l2.take r)).p I w := fun I w _ hh x hx' => by
  rcases List.mem_append.1 hx' with h1 | h1
  · exact h.p hh x h1
  · exact (hx.p hh).1 x (List.mem_of_mem_take h1)
end
section
variable {Γ : List Fact} {L M : Nat}
theorem s_frach (a b : Int) (h : Rat) (hh : h = Rat.divInt a b) (hb : 0 < b) (h1 : -9223372036854775808 ≤ a) (h2 : a < 9223372036854775808) (h3 : b < 9223372036854775808) :
    PCalls tb Tryz.prog 25 [.int .i64 a, .int .i64 b] Γ (PPost 6 h) := by
  subst hh
  exact s_frac a b hb h1 h2 h3
theorem r_tipB (p d : Dp) (S : Int) (s : Sl) (R : Int) (t : Sl) (S' : Int) (s' : Sl) (R' : Int) (t' : Sl) {h b : Rat} [Has (PF S s R t) (L, h) Γ] [Has (PF S' s' R' t') (M, b) Γ] (r : Bool) (hd : inD 4294967296 d) (hL : L ≤ 20 ∧ M ≤ 20 := by omega) :
    PCalls tb Tryz.prog 27 [dv p, dv d, pv S s R t, pv S' s' R' t', .bool r] Γ (TwsQ (rtip p d h b r)) := by
  cases r
  · exact r_tipF p d S s R t S' s' R' t' hd
  · exact r_tipT p d S s R t S' s' R' t' hd
theorem r_cornF (ao : Option Addr) (n c : Nat) (pts cs : List Dp) (hcs : cs = (corn pts).1.reverse) [Has (RA ao) (pts.flatMap dpc) Γ] (hn : n = pts.length) (hn2 : n ≤ 8191) (ha : 0 < n → ∃ b off, ao = some ⟨b, off, none⟩) (hb : ∀ p ∈ pts, inD 2147483648 p) :
    PCalls tb Tryz.prog 22 [.slice ao n c] Γ (fun v Δ => ∃ (a1 : Option Addr) (c1 : Nat), v = .slice a1 cs.length c1 ∧ Δ = [RA a1 (cs.flatMap dpc)]) := by
  subst hcs
  rw [List.length_reverse]
  exact r_corners ao n c pts hn hn2 ha hb
--<rof
set_option maxHeartbeats 4000000 in
theorem r_of0 (ao : Option Addr) (n c : Nat) (pts : List Dp) (width kind bg en : Int) [Has (RA ao) (pts.flatMap dpc) Γ] (hn : n = pts.length) (ha : 0 < n → ∃ b off, ao = some ⟨b, off, none⟩) (hlong : ¬ 8191 < pts.length) (hk : kind = 0) :
    PCalls tb Tryz.prog 6 [.slice ao n c, .int .i64 width, .int .i64 kind, .int .i64 bg, .int .i64 en] Γ (RfPost pts width kind bg en) := by
  obtain ⟨cs, hcs⟩ : ∃ cs, cs = (corn pts).1.reverse := ⟨_, rfl⟩
  obtain ⟨ws, hws⟩ : ∃ ws, ws = (corn pts).2.reverse := ⟨_, rfl⟩
  have hcl : (corn pts).1.length = cs.length := by rw [hcs, List.length_reverse]
  have hok : CornOk (corn pts).1 (corn pts).2 := corn_ok pts ([], []) rfl
  have hbad : argBad width kind bg en = true → RfPost pts width kind bg en (.tuple #[.slice none 0 0, .int .i64 1]) [] := fun h => .inl ⟨by rw [oerr_arg hlong h]; decide, by rw [oerr_arg hlong h], rfl⟩
  refine PCalls.of_W tbOk Tryz.func6 rfl (by kernel_rfl) ?_
  refine W.df [] 25 (decide ((n : Int) > 8191)) (by kernel_rfl) (decide_eq_false (by omega)) ?_
  refine W.df [25] 28 (kind != 0) (by kernel_rfl) (by rw [hk]; rfl) ?_
  refine W.d [40, 36, 32, 28] 44 (decide (width < 1)) (by kernel_rfl) (fun h1 => ?_) (fun h1 => ?_)
  · exact W.r [63, 60, 56, 52, 48, 44] (.tuple #[.slice none 0 0, .int .i64 1]) (by kernel_rfl) (hbad (by rw [argBad_eq, h1]; simp)) ent0
  refine W.d [44] 48 (decide (width > 2147483647)) (by kernel_rfl) (fun h2 => ?_) (fun h2 => ?_)
  · exact W.r [63, 60, 56, 52, 48] (.tuple #[.slice none 0 0, .int .i64 1]) (by kernel_rfl) (hbad (by rw [argBad_eq, h2]; simp)) ent0
  refine W.d [48] 52 (decide (bg < -2147483647)) (by kernel_rfl) (fun h3 => ?_) (fun h3 => ?_)
  · exact W.r [63, 60, 56, 52] (.tuple #[.slice none 0 0, .int .i64 1]) (by kernel_rfl) (hbad (by rw [argBad_eq, h3]; simp)) ent0
  refine W.d [52] 56 (decide (bg > 2147483647)) (by kernel_rfl) (fun h4 => ?_) (fun h4 => ?_)
  · exact W.r [63, 60, 56] (.tuple #[.slice none 0 0, .int .i64 1]) (by kernel_rfl) (hbad (by rw [argBad_eq, h4]; simp)) ent0
  refine W.d [56] 60 (decide (en < -2147483647)) (by kernel_rfl) (fun h5 => ?_) (fun h5 => ?_)
  · exact W.r [63, 60] (.tuple #[.slice none 0 0, .int .i64 1]) (by kernel_rfl) (hbad (by rw [argBad_eq, h5]; simp)) ent0
  refine W.d [60] 63 (decide (en > 2147483647)) (by kernel_rfl) (fun h6 => ?_) (fun h6 => ?_)
  · exact W.r [63] (.tuple #[.slice none 0 0, .int .i64 1]) (by kernel_rfl) (hbad (by rw [argBad_eq, h6]; simp)) ent0
  have k1 := of_decide_eq_false h1
  have k2 := of_decide_eq_false h2
  have k3 := of_decide_eq_false h3
  have k4 := of_decide_eq_false h4
  have k5 := of_decide_eq_false h5
  have k6 := of_decide_eq_false h6
  have hgd : argBad width kind bg en = false := argBad_good.2 (by omega)
  clear hbad
  have hga : ¬ argBad width kind bg en = true := by rw [hgd]; decide
  refine W.lp [63] [12] (fun a : Nat × Int => [(12, .int .i64 a.2)]) (fun _ => []) (fun _ => [RA ao (pts.flatMap dpc)]) (fun a => a.2 = a.1 ∧ a.1 ≤ n ∧ ∀ i (h : i < pts.length), i < a.1 → outP (pts[i]'h) = false) (fun a => n - a.1) (0, 0) (by kernel_rfl) (by kernel_rfl) ⟨rfl, Nat.zero_le _, fun i _ h => by omega⟩ entRA' ?_
  rintro ⟨i, z⟩ K ⟨hz, hi, hall⟩ close
  simp only at hz hi hall
  by_cases hlt : i < n
  · have hil : i < pts.length := by omega
    have hg : pts[i]? = some (pts[i]'hil) := List.getElem?_eq_getElem hil
    have hmem := List.getElem_mem hil
    have hnext : outP (pts[i]'hil) = false → ∀ j (h : j < pts.length), j < i + 1 → outP (pts[j]'h) = false := fun ho j h hj => by
      by_cases hji : j < i
      · exact hall j h hji
      · obtain rfl : j = i := by omega
        exact ho
    generalize hp : pts[i]'hil = p at *
    have hfar : outP p = true → RfPost pts width kind bg en (.tuple #[.slice none 0 0, .int .i64 26]) [] := fun h => by
      have h7 : pts.any outP = true := List.any_eq_true.2 ⟨p, hmem, h⟩
      have he : oerr pts width kind bg en = 26 := by unfold oerr; rw [if_neg hlong, if_neg hga, if_pos h7]
      exact .inl ⟨by rw [he]; decide, by rw [he], rfl⟩
    have hop : outP p = ((decide (p.x < -2147483648) || decide (p.x > 2147483647)) || (decide (p.y < -2147483648) || decide (p.y > 2147483647))) := rfl
    obtain ⟨ba, of, e⟩ := ha (by omega)
    subst e
    refine W.dt [] 67 (decide (z < (n : Int))) (by kernel_rfl) (decide_eq_true (by omega)) ?_
    refine W.ia [67] 2 ba of n c .i64 i z hz tbOk (by kernel_rfl) hlt ?_
    refine W.fa [] 0 ba (of + i * 2) tbOk (by kernel_rfl) ?_
    refine W.ld [] 1 ba (of + i * 2 + 0) (.int .i64 p.x) tbOk (by kernel_rfl) (fun I w hI hh => RA.rdn ba of (i * 2) (dp_atq hg) I w hI hh 0 _ rfl) ?_
    refine W.d [] 76 (decide (p.x < -2147483648)) (by kernel_rfl) (fun g0 => ?_) (fun g0 => ?_)
    · exact W.r [99, 92, 84, 76] (.tuple #[.slice none 0 0, .int .i64 26]) (by kernel_rfl) (hfar (by rw [hop, g0]; simp)) ent0
    refine W.ia [76] 2 ba of n c .i64 i z hz tbOk (by kernel_rfl) hlt ?_
    refine W.fa [76] 0 ba (of + i * 2) tbOk (by kernel_rfl) ?_
    refine W.ld [76] 1 ba (of + i * 2 + 0) (.int .i64 p.x) tbOk (by kernel_rfl) (fun I w hI hh => RA.rdn ba of (i * 2) (dp_atq hg) I w hI hh 0 _ rfl) ?_
    refine W.d [76] 84 (decide (p.x > 2147483647)) (by kernel_rfl) (fun g1 => ?_) (fun g1 => ?_)
    · exact W.r [99, 92, 84] (.tuple #[.slice none 0 0, .int .i64 26]) (by kernel_rfl) (hfar (by rw [hop, g1]; simp)) ent0
    refine W.ia [84] 2 ba of n c .i64 i z hz tbOk (by kernel_rfl) hlt ?_
    refine W.fa [84] 1 ba (of + i * 2) tbOk (by kernel_rfl) ?_
    refine W.ld [84] 1 ba (of + i * 2 + 1) (.int .i64 p.y) tbOk (by kernel_rfl) (fun I w hI hh => RA.rdn ba of (i * 2) (dp_atq hg) I w hI hh 1 _ rfl) ?_
    refine W.d [84] 92 (decide (p.y < -2147483648)) (by kernel_rfl) (fun g2 => ?_) (fun g2 => ?_)
    · exact W.r [99, 92] (.tuple #[.slice none 0 0, .int .i64 26]) (by kernel_rfl) (hfar (by rw [hop, g2]; simp)) ent0
    refine W.ia [92] 2 ba of n c .i64 i z hz tbOk (by kernel_rfl) hlt ?_
    refine W.fa [92] 1 ba (of + i * 2) tbOk (by kernel_rfl) ?_
    refine W.ld [92] 1 ba (of + i * 2 + 1) (.int .i64 p.y) tbOk (by kernel_rfl) (fun I w hI hh => RA.rdn ba of (i * 2) (dp_atq hg) I w hI hh 1 _ rfl) ?_
    refine W.d [92] 99 (decide (p.y > 2147483647)) (by kernel_rfl) (fun g3 => ?_) (fun g3 => ?_)
    · exact W.r [99] (.tuple #[.slice none 0 0, .int .i64 26]) (by kernel_rfl) (hfar (by rw [hop, g3]; simp)) ent0
    exact close [99] _ _ (i + 1, IntKind.i64.wrap (z + 1)) (by kernel_rfl) (by kernel_rfl) ⟨by simp only [IntKind.wrap_i64]; omega, hlt, hnext (by rw [hop, g0, g1, g2, g3]; rfl)⟩ (by simp only; omega) entRA'
  have h7 : pts.any outP = false := any_take (fun j hj => hall j hj (by omega))
  have hg7 : ¬ pts.any outP = true := by rw [h7]; decide
  have hin := in_of h7
  refine W.df [] 67 (decide (z < (n : Int))) (by kernel_rfl) (decide_eq_false (by omega)) ?_
  refine W.cl [67] (by kernel_rfl) (r_cornF ao n c pts cs hcs hn (by omega) ha hin) ?_
  rintro _ _ ⟨a1, c1, rfl, rfl⟩
  by_cases hfew : cs.length < 2
  · refine W.dt [] 104 (decide ((cs.length : Int) < 2)) (by kernel_rfl) (decide_eq_true (by omega)) ?_
    have he : oerr pts width kind bg en = 7 := by unfold oerr; rw [if_neg hlong, if_neg hga, if_neg hg7, hcl, if_pos hfew]
    exact W.r [104] (.tuple #[.slice none 0 0, .int .i64 7]) (by kernel_rfl) (.inl ⟨by rw [he]; decide, by rw [he], rfl⟩) ent0
  have hfew' : ¬ (corn pts).1.length < 2 := by omega
  have hfw : FwOk cs ws := by
    rw [hcs, hws]
    exact fw_ok hok (by intro e; rw [e] at hfew'; simp at hfew')
  have hmem : ∀ p ∈ cs, inD 2147483648 p := fun p hp => by
    have := corn_mem pts ([], []) (Q := fun _ => False) (fun q hq => absurd hq (by simp)) p (by rw [hcs] at hp; exact List.mem_reverse.1 hp)
    exact hin p (by simpa using this)
  have hlen := hfw.len
  have hcmax : cs.length ≤ 8191 := by
    have := corn_len pts ([], [])
    simp only [List.length_nil, Nat.zero_add] at this
    have h9 : (corn pts).1.length ≤ pts.length := this
    omega
  have hbk : backs (corn pts).2 = true ↔ ∃ (i : Nat) (d e : Dp), ws[i]? = some d ∧ ws[i + 1]? = some e ∧ e = negD d := by
    rw [hws]
    exact back_fw _
  have hwget : ∀ i, i < ws.length → ∃ d, ws[i]? = some d := fun i hi => ⟨_, List.getElem?_eq_getElem hi⟩
  have hcget : ∀ i, i < cs.length → ∃ d, cs[i]? = some d := fun i hi => ⟨_, List.getElem?_eq_getElem hi⟩
  have hcr : ∀ (i : Nat) (p : Dp), cs[i]? = some p → inD 2147483648 p := fun i p hp => by
    obtain ⟨_, rfl⟩ := List.getElem?_eq_some_iff.1 hp
    exact hmem _ (List.getElem_mem _)
  have hcn : cs.flatMap dpc ≠ [] := by intro e; have := dp_len cs; rw [e] at this; simp at this; omega
  refine W.df [] 104 (decide ((cs.length : Int) < 2)) (by kernel_rfl) (decide_eq_false (by omega)) ?_
  refine W.ra a1 (by kernel_rfl) hcn (fun bc oc e => ?_)
  subst e
  obtain ⟨nn, hnnd⟩ : ∃ nn, nn = IntKind.i64.wrap ((cs.length : Int) - 1) := ⟨_, rfl⟩
  have hnn : nn = (ws.length : Int) := by rw [hnnd, IntKind.wrap_i64]; omega
  refine W.lp [104] [15] (fun a : Nat × Int => [(15, .int .i64 a.2)]) (fun _ => []) (fun _ => [RA (some ⟨bc, oc, none⟩) (cs.flatMap dpc)]) (fun a => a.2 = a.1 ∧ 1 ≤ a.1 ∧ a.1 ≤ ws.length ∧ ∀ (j : Nat) (d e : Dp), j + 1 < a.1 → ws[j]? = some d → ws[j + 1]? = some e → e ≠ negD d) (fun a => ws.length - a.1) (1, 1) (by kernel_rfl) (by kernel_rfl) ⟨rfl, Nat.le_refl _, by simp only; omega, fun j d e h => by simp only at h; omega⟩ (entC entK entE) ?_
  rintro ⟨i, z⟩ K ⟨hz, hi1, hi, hall⟩ close
  simp only at hz hi1 hi hall
  by_cases hlt : i < ws.length
  · obtain ⟨q0, g0⟩ := hcget (i - 1) (by omega)
    obtain ⟨q1, g1⟩ := hcget i (by omega)
    obtain ⟨q2, g2⟩ := hcget (i + 1) (by omega)
    obtain ⟨d, hd⟩ := hwget (i - 1) (by omega)
    obtain ⟨e, he⟩ := hwget i hlt
    have hp1 : cs[i - 1 + 1]? = some q1 := by rw [Nat.sub_add_cancel hi1]; exact g1
    have he1 : ws[i - 1 + 1]? = some e := by rw [Nat.sub_add_cancel hi1]; exact he
    obtain ⟨n1, hdw⟩ := hfw.way _ _ _ _ g0 hp1 hd
    obtain ⟨n2, hew⟩ := hfw.way _ _ _ _ g1 g2 he
    refine W.dt [] 110 (decide (z < IntKind.i64.wrap ((cs.length : Int) - 1))) (by kernel_rfl) (decide_eq_true (by omega)) ?_
    refine W.ia [110] 2 bc oc cs.length c1 .i64 (i - 1) (IntKind.i64.wrap (z - 1)) (by rw [IntKind.wrap_i64]; omega) tbOk (by kernel_rfl) (by omega) ?_
    refine W.lds [] bc (oc + (i - 1) * 2) (dpc q0) tbOk (by kernel_rfl) (RA.rdn bc oc ((i - 1) * 2) (dp_atq g0)) ?_
    refine W.ia [] 2 bc oc cs.length c1 .i64 i z hz tbOk (by kernel_rfl) (by omega) ?_
    refine W.lds [] bc (oc + i * 2) (dpc q1) tbOk (by kernel_rfl) (RA.rdn bc oc (i * 2) (dp_atq g1)) ?_
    refine W.ia [] 2 bc oc cs.length c1 .i64 i z hz tbOk (by kernel_rfl) (by omega) ?_
    refine W.lds [] bc (oc + i * 2) (dpc q1) tbOk (by kernel_rfl) (RA.rdn bc oc (i * 2) (dp_atq g1)) ?_
    refine W.ia [] 2 bc oc cs.length c1 .i64 (i + 1) (IntKind.i64.wrap (z + 1)) (by rw [IntKind.wrap_i64]; omega) tbOk (by kernel_rfl) (by omega) ?_
    refine W.lds [] bc (oc + (i + 1) * 2) (dpc q2) tbOk (by kernel_rfl) (RA.rdn bc oc ((i + 1) * 2) (dp_atq g2)) ?_
    refine W.cl [] (by kernel_rfl) (r_way q0 q1 (hcr _ _ g0) (hcr _ _ g1) n1) ?_
    rintro _ _ ⟨rfl, rfl⟩
    refine W.cl [] (by kernel_rfl) (r_way q1 q2 (hcr _ _ g1) (hcr _ _ g2) n2) ?_
    rintro _ _ ⟨rfl, rfl⟩
    refine W.cl [] (by kernel_rfl) (r_dneg (wayv q1 q2) (way_in (hcr _ _ g1) (hcr _ _ g2) n2)) ?_
    rintro _ _ ⟨rfl, rfl⟩
    refine W.eqp [] 35 (wayv q0 q1) (negD (wayv q1 q2)) (by kernel_rfl) (by kernel_rfl) (by kernel_rfl) ?_
    by_cases hde : wayv q0 q1 = negD (wayv q1 q2)
    · refine W.dt [] 134 (decide (wayv q0 q1 = negD (wayv q1 q2))) (by kernel_rfl) (decide_eq_true hde) ?_
      have hb : backs (corn pts).2 = true := hbk.2 ⟨i - 1, d, e, hd, he1, by rw [hdw, hew]; exact negD_neg.1 hde⟩
      have he : oerr pts width kind bg en = 25 := by unfold oerr; rw [if_neg hlong, if_neg hga, if_neg hg7, if_neg hfew', if_pos hb]
      exact W.r [134] (.tuple #[.slice none 0 0, .int .i64 25]) (by kernel_rfl) (.inl ⟨by rw [he]; decide, by rw [he], rfl⟩) ent0
    · refine W.df [] 134 (decide (wayv q0 q1 = negD (wayv q1 q2))) (by kernel_rfl) (decide_eq_false hde) ?_
      refine close [134] _ _ (i + 1, IntKind.i64.wrap (z + 1)) (by kernel_rfl) (by kernel_rfl) ⟨by simp only [IntKind.wrap_i64]; omega, by simp only; omega, hlt, fun j d' e' hj hd' he' => ?_⟩ (by simp only; omega) (entC entK entE)
      by_cases hji : j + 1 < i
      · exact hall j d' e' hji hd' he'
      · obtain rfl : j = i - 1 := by simp only at hj; omega
        rw [hd] at hd'
        rw [he1] at he'
        injection hd' with hd'
        injection he' with he'
        subst hd' he'
        rw [hdw, hew]
        exact fun h => hde (negD_neg.2 h)
  obtain rfl : i = ws.length := by omega
  have hnb : ¬ backs (corn pts).2 = true := by
    rw [hbk]
    rintro ⟨j, d, e, hd, he, hn⟩
    exact hall j d e (List.getElem?_eq_some_iff.1 he).1 hd he hn
  have hoe : oerr pts width kind bg en = 0 := by unfold oerr; rw [if_neg hlong, if_neg hga, if_neg hg7, if_neg hfew', if_neg hnb]
  have htl : ∀ (i : Nat) (p : Dp), cs[i + 1]? = some p → cs.tail[i]? = some p := fun i p hp => by rw [List.getElem?_tail]; exact hp
  have hctl : cs.tail.length = ws.length := by rw [List.length_tail]; omega
  obtain ⟨p0, hp0⟩ := hcget 0 (by omega)
  obtain ⟨p1, hp1⟩ := hcget 1 (by omega)
  obtain ⟨w0, hw0⟩ := hwget 0 (by omega)
  obtain ⟨pn, hpn⟩ := hcget ws.length (by omega)
  obtain ⟨pm, hpm⟩ := hcget (ws.length - 1) (by omega)
  obtain ⟨wn, hwn1⟩ := hwget (ws.length - 1) (by omega)
  obtain ⟨hne01, hw0e⟩ := hfw.way _ _ _ _ hp0 hp1 hw0
  obtain ⟨hnemn, hwne⟩ := hfw.way _ _ _ _ hpm (by rw [Nat.sub_add_cancel (by omega)]; exact hpn) hwn1
  subst hw0e hwne
  have hw0i := way_in (hcr _ _ hp0) (hcr _ _ hp1) hne01
  have hwni := way_in (hcr _ _ hpm) (hcr _ _ hpn) hnemn
  obtain ⟨h, hh⟩ : ∃ h, h = Rat.divInt width 2 := ⟨_, rfl⟩
  have hplaces : ∀ b e, endsOf kind bg en h = (b, e) → rplaces cs ws width kind bg en = (rtip p0 (negD (wayv p0 p1)) h b (kind == 1)).drop ((rtip p0 (negD (wayv p0 p1)) h b (kind == 1)).length - 1) ++ rcorns h cs.tail ws ++ rtip pn (wayv pm pn) h e (kind == 1) ++ (rcorns (-h) cs.tail ws).reverse ++ (rtip p0 (negD (wayv p0 p1)) h b (kind == 1)).take ((rtip p0 (negD (wayv p0 p1)) h b (kind == 1)).length - 1) := fun b e hbe => by
    unfold rplaces
    simp only [← hh, hbe, List.getD_eq_getElem?_getD, hp0, hw0, hwn1, show cs.length - 1 = ws.length by omega, hpn, Option.getD_some]
  have hm1 := rcorns_len h cs.tail ws hctl
  have hm2 := rcorns_len (-h) cs.tail ws hctl
  refine W.df [] 110 (decide (z < IntKind.i64.wrap ((cs.length : Int) - 1))) (by kernel_rfl) (decide_eq_false (by omega)) ?_
  refine W.cl [110] (by kernel_rfl) (s_frach width 2 h hh (by omega) (by omega) (by omega) (by omega)) ?_
  rintro _ _ ⟨S4, s4, R4, t4, rfl, rfl⟩
  refine W.cl [] (by kernel_rfl) (s_of 0 (by omega) (by omega)) ?_
  rintro _ _ ⟨S5, s5, R5, t5, rfl, rfl⟩
  refine W.cl [] (by kernel_rfl) (s_of 0 (by omega) (by omega)) ?_
  rintro _ _ ⟨S6, s6, R6, t6, rfl, rfl⟩
  refine W.df [] 140 (kind == 2) (by kernel_rfl) (by rw [hk]; rfl) ?_
  refine W.df [140] 144 (kind == 4) (by kernel_rfl) (by rw [hk]; rfl) ?_
  have hpl := hplaces (((0 : Int) : Rat)) (((0 : Int) : Rat)) (by unfold endsOf; rw [if_neg (by omega), if_neg (by omega)]; rfl)
  refine W.ia [144] 2 bc oc cs.length c1 .i64 0 0 rfl tbOk (by kernel_rfl) (by omega) ?_
  refine W.lds [] bc (oc + 0 * 2) (dpc p0) tbOk (by kernel_rfl) (RA.rdn bc oc (0 * 2) (dp_atq hp0)) ?_
  refine W.ia [] 2 bc oc cs.length c1 .i64 0 0 rfl tbOk (by kernel_rfl) (by omega) ?_
  refine W.lds [] bc (oc + 0 * 2) (dpc p0) tbOk (by kernel_rfl) (RA.rdn bc oc (0 * 2) (dp_atq hp0)) ?_
  refine W.ia [] 2 bc oc cs.length c1 .i64 1 1 rfl tbOk (by kernel_rfl) (by omega) ?_
  refine W.lds [] bc (oc + 1 * 2) (dpc p1) tbOk (by kernel_rfl) (RA.rdn bc oc (1 * 2) (dp_atq hp1)) ?_
  refine W.cl [] (by kernel_rfl) (r_way p0 p1 (hcr _ _ hp0) (hcr _ _ hp1) hne01) ?_
  rintro _ _ ⟨rfl, rfl⟩
  refine W.cl [] (by kernel_rfl) (r_dneg (wayv p0 p1) hw0i) ?_
  rintro _ _ ⟨rfl, rfl⟩
  refine W.cl [] (by kernel_rfl) (r_tipB p0 (negD (wayv p0 p1)) S4 s4 R4 t4 S5 s5 R5 t5 (h := h) (b := ((0 : Int) : Rat)) (kind == 1) hw0i.neg) ?_
  rintro _ _ ⟨bb, ob, cb, lb, rfl, hlb, hnb2, rfl⟩
  have hlbn := twn_len hnb2
  have hb00 := rtip_len p0 (negD (wayv p0 p1)) h (((0 : Int) : Rat)) (kind == 1)
  obtain ⟨el, hel⟩ : ∃ el, lb[lb.length - 1]? = some el := ⟨_, List.getElem?_eq_getElem (by omega)⟩
  have hdl : (rtip p0 (negD (wayv p0 p1)) h (((0 : Int) : Rat)) (kind == 1)).drop ((rtip p0 (negD (wayv p0 p1)) h (((0 : Int) : Rat)) (kind == 1)).length - 1) = [el.num] := by
    obtain ⟨hk, rfl⟩ := List.getElem?_eq_some_iff.1 hel
    rw [← hlbn, ← hnb2, ← List.map_drop, List.drop_eq_getElem_cons hk, List.drop_eq_nil_of_le (by omega)]
    rfl
  refine W.ia [] 26 bb ob lb.length cb .i64 (lb.length - 1) (IntKind.i64.wrap ((lb.length : Int) - 1)) (by rw [IntKind.wrap_i64]; omega) tbOk (by kernel_rfl) (by omega) ?_
  refine W.lds [] bb (ob + (lb.length - 1) * 26) (twc el) tbOk (by kernel_rfl) (TL.toldq hel) ?_
  refine W.bs [] 1 (twc el) tbOk (by kernel_rfl) (fun B1 => ?_)
  refine W.lpo [] [20, 21] (fun a : TSt => [(20, a.v), (21, .int .i64 a.z)]) (fun _ => []) (fun a => a.O) (fun a => [OS TwR (20, a.l), RA a.ao a.ys, RA (some ⟨bc, oc, none⟩) (cs.flatMap dpc), PF S4 s4 R4 t4 (6, h), PF S6 s6 R6 t6 (6, ((0 : Int) : Rat)), OL TwR (some ⟨bb, ob, none⟩) (20, lb)]) (fun a => a.z = a.i ∧ 1 ≤ a.i ∧ a.i ≤ ws.length ∧ a.l.map TwE.num = [el.num] ++ (rcorns h cs.tail ws).take (a.i - 1) ∧ GrowZ 26 a.O a.v a.l.length (a.l.flatMap TwR.cells) a.ao a.ys) (fun a => ws.length - a.i) ⟨1, 1, .slice (some ⟨B1, 0, none⟩) 1 1, [], [el], some ⟨B1, 0, none⟩, twc el⟩ (by kernel_rfl) (by kernel_rfl) ⟨rfl, Nat.le_refl _, by simp only; omega, by simp only [Nat.sub_self, List.take_zero, List.append_nil]; rfl, .inl ⟨rfl, rfl, Nat.zero_lt_one, rfl, by simp [TwR]⟩⟩ (entC (entT1 (ao := some ⟨bb, ob, none⟩) hel) (entC entKR (entC entK (entC entK (entC entK (entC entK entE)))))) ?_
  rintro ⟨i, z1, v1, O1, l1, ao1, ys1⟩ K1 ⟨hz1, hi1', hi', hl1, hg1⟩ close1
  simp only at hz1 hi1' hi' hl1 hg1
  have hl1n := twn_len hl1
  rw [List.length_append, List.length_take, hm1] at hl1n
  simp only [List.length_cons, List.length_nil] at hl1n
  by_cases hlt1 : i < ws.length
  · obtain ⟨q0, g0⟩ := hcget (i - 1) (by omega)
    obtain ⟨q1, g1⟩ := hcget i (by omega)
    obtain ⟨q2, g2⟩ := hcget (i + 1) (by omega)
    obtain ⟨d, hd⟩ := hwget (i - 1) (by omega)
    obtain ⟨e, he⟩ := hwget i hlt1
    have he1 : ws[i - 1 + 1]? = some e := by rw [Nat.sub_add_cancel hi1']; exact he
    have hp1 : cs[i - 1 + 1]? = some q1 := by rw [Nat.sub_add_cancel hi1']; exact g1
    obtain ⟨n1, rfl⟩ := hfw.way _ _ _ _ g0 hp1 hd
    obtain ⟨n2, rfl⟩ := hfw.way _ _ _ _ g1 g2 he
    have hma := rcorns_at h cs.tail ws (i - 1) q1 _ _ (htl _ _ hp1) hd he1
    refine W.dt [] 174 (decide (z1 < IntKind.i64.wrap ((cs.length : Int) - 1))) (by kernel_rfl) (decide_eq_true (by omega)) ?_
    refine W.cl [174] (by kernel_rfl) (r_corner bc oc cs.length c1 cs i z1 hz1 S4 s4 R4 t4 (h := h) q0 q1 q2 (by omega) (by omega) (by omega) g0 g1 g2 (hcr _ _ g0) (hcr _ _ g1) (hcr _ _ g2) n1 n2) ?_
    rintro _ _ ⟨ec, rfl, hec, rfl⟩
    refine W.bs [] 1 (twc ec) tbOk (by kernel_rfl) (fun B2 => ?_)
    refine W.apz [] O1 26 336 l1.length 1 ao1 v1 (.slice (some ⟨B2, 0, none⟩) 1 1) (l1.flatMap TwR.cells) ys1 (twc ec) tbOk (by kernel_rfl) hg1 (by decide) (reads_row B2 O1 1 26 rfl 1) (two_one ec) (by omega) (by decide) (fun v' O' hg' => ?_)
    refine close1 [] _ _ ⟨i + 1, IntKind.i64.wrap (z1 + 1), v', O', l1 ++ [ec], none, []⟩ (by kernel_rfl) (by kernel_rfl) ⟨by simp only [IntKind.wrap_i64]; omega, by simp only; omega, hlt1, ?_, .inr ⟨?_, rfl, rfl⟩⟩ (by simp only; omega) (entC (entTs ec) (entC entRn (entC entK (entC entK (entC entK (entC entK entE))))))
    · simp only
      rw [List.map_append, hl1, Nat.add_sub_cancel, show i = i - 1 + 1 by omega, take_snoc hma, List.append_assoc, Nat.add_sub_cancel, ← hec]
      rfl
    · simp only [List.length_append, List.flatMap_append, List.length_cons, List.length_nil]
      exact Grow.cast (by simp [TwR]) rfl hg'
  obtain rfl : i = ws.length := by omega
  rw [List.take_of_length_le (by rw [hm1]; omega)] at hl1
  refine W.df [] 174 (decide (z1 < IntKind.i64.wrap ((cs.length : Int) - 1))) (by kernel_rfl) (decide_eq_false (by omega)) ?_
  refine W.ia [174] 2 bc oc cs.length c1 .i64 ws.length (IntKind.i64.wrap ((cs.length : Int) - 1)) (hnnd ▸ hnn) tbOk (by kernel_rfl) (by omega) ?_
  refine W.lds [] bc (oc + ws.length * 2) (dpc pn) tbOk (by kernel_rfl) (RA.rdn bc oc (ws.length * 2) (dp_atq hpn)) ?_
  refine W.ia [] 2 bc oc cs.length c1 .i64 (ws.length - 1) (IntKind.i64.wrap (IntKind.i64.wrap ((cs.length : Int) - 1) - 1)) (by rw [← hnnd, hnn, IntKind.wrap_i64]; omega) tbOk (by kernel_rfl) (by omega) ?_
  refine W.lds [] bc (oc + (ws.length - 1) * 2) (dpc pm) tbOk (by kernel_rfl) (RA.rdn bc oc ((ws.length - 1) * 2) (dp_atq hpm)) ?_
  refine W.ia [] 2 bc oc cs.length c1 .i64 ws.length (IntKind.i64.wrap ((cs.length : Int) - 1)) (hnnd ▸ hnn) tbOk (by kernel_rfl) (by omega) ?_
  refine W.lds [] bc (oc + ws.length * 2) (dpc pn) tbOk (by kernel_rfl) (RA.rdn bc oc (ws.length * 2) (dp_atq hpn)) ?_
  refine W.cl [] (by kernel_rfl) (r_way pm pn (hcr _ _ hpm) (hcr _ _ hpn) hnemn) ?_
  rintro _ _ ⟨rfl, rfl⟩
  refine W.cl [] (by kernel_rfl) (r_tipB pn (wayv pm pn) S4 s4 R4 t4 S6 s6 R6 t6 (h := h) (b := ((0 : Int) : Rat)) (kind == 1) hwni) ?_
  rintro _ _ ⟨bt, ot, ct, lt, rfl, hlt2, hnt, rfl⟩
  have hltn := twn_len hnt
  have hbnn := rtip_len pn (wayv pm pn) h (((0 : Int) : Rat)) (kind == 1)
  refine W.apz [] O1 26 336 l1.length lt.length ao1 v1 (.slice (some ⟨bt, ot, none⟩) lt.length ct) (l1.flatMap TwR.cells) ys1 ((lt.take lt.length).flatMap TwR.cells) tbOk (by kernel_rfl) hg1 (by omega) (reads_tw bt ot O1 lt.length ct (Nat.le_refl _)) tws_one (by omega) (by decide) (fun v2 O2 hg2 => ?_)
  have hl2 : (l1 ++ lt).map TwE.num = [el.num] ++ rcorns h cs.tail ws ++ rtip pn (wayv pm pn) h (((0 : Int) : Rat)) (kind == 1) := by rw [List.map_append, hl1, hnt]
  refine W.lpo [] [20, 22] (fun a : TSt => [(20, a.v), (22, .int .i64 a.z)]) (fun _ => []) (fun a => a.O) (fun a => [OS TwR (20, a.l), RA (some ⟨bc, oc, none⟩) (cs.flatMap dpc), PF S4 s4 R4 t4 (6, h), OL TwR (some ⟨bb, ob, none⟩) (20, lb)]) (fun a => a.z = a.i ∧ a.i ≤ ws.length - 1 ∧ a.l.map TwE.num = [el.num] ++ rcorns h cs.tail ws ++ rtip pn (wayv pm pn) h (((0 : Int) : Rat)) (kind == 1) ++ ((rcorns (-h) cs.tail ws).drop a.i).reverse ∧ Grow 26 a.O a.v a.l.length (a.l.flatMap TwR.cells)) (fun a => a.i) ⟨ws.length - 1, IntKind.i64.wrap (IntKind.i64.wrap ((cs.length : Int) - 1) - 1), v2, O2, l1 ++ lt, none, []⟩ (by kernel_rfl) (by kernel_rfl) ⟨by simp only; rw [← hnnd, hnn, IntKind.wrap_i64]; omega, Nat.le_refl _, ?_, Grow.cast (by simp [List.flatMap_append]) (by simp) hg2⟩ (entC (entTa (l := l1) (l2 := lt) (ao := some ⟨bt, ot, none⟩)) (entC entK (entC entK (entC entK entE)))) ?_
  · simp only
    rw [hl2, List.drop_eq_nil_of_le (by rw [hm2]; exact Nat.le_refl _), List.reverse_nil, List.append_nil]
  rintro ⟨i, z3, v3, O3, l3, ao3, ys3⟩ K2 ⟨hz3, hi3, hl3, hg3⟩ close2
  simp only at hz3 hi3 hl3 hg3
  have hl3n := twn_len hl3
  simp only [List.length_append, List.length_reverse, List.length_drop, hm1, hm2, List.length_cons, List.length_nil] at hl3n
  cases i with
  | succ i =>
    obtain ⟨q0, g0⟩ := hcget i (by omega)
    obtain ⟨q1, g1⟩ := hcget (i + 1) (by omega)
    obtain ⟨q2, g2⟩ := hcget (i + 1 + 1) (by omega)
    obtain ⟨d, hd⟩ := hwget i (by omega)
    obtain ⟨e, he⟩ := hwget (i + 1) (by omega)
    obtain ⟨n1, rfl⟩ := hfw.way _ _ _ _ g0 g1 hd
    obtain ⟨n2, rfl⟩ := hfw.way _ _ _ _ g1 g2 he
    have hma := rcorns_at (-h) cs.tail ws i q1 _ _ (htl _ _ g1) hd he
    refine W.dt [] 208 (decide (z3 > 0)) (by kernel_rfl) (decide_eq_true (by omega)) ?_
    refine W.cl [208] (by kernel_rfl) (s_neg S4 s4 R4 t4) ?_
    rintro _ _ ⟨S9, s9, R9, t9, rfl, rfl⟩
    refine W.cl [] (by kernel_rfl) (r_corner bc oc cs.length c1 cs (i + 1) z3 hz3 S9 s9 R9 t9 (h := -h) q0 q1 q2 (by omega) (by omega) (by omega) g0 g1 g2 (hcr _ _ g0) (hcr _ _ g1) (hcr _ _ g2) n1 n2) ?_
    rintro _ _ ⟨ec, rfl, hec, rfl⟩
    refine W.bs [] 1 (twc ec) tbOk (by kernel_rfl) (fun B2 => ?_)
    refine W.app [] O3 [] O3 [] 26 336 l3.length 1 v3 (.slice (some ⟨B2, 0, none⟩) 1 1) (l3.flatMap TwR.cells) (twc ec) tbOk (by kernel_rfl) (by simp) hg3 (reads_row B2 O3 1 26 rfl 1) (two_one ec) (by omega) (by decide) (fun v' O' hg' => ?_)
    refine close2 [] _ _ ⟨i, IntKind.i64.wrap (z3 - 1), v', O', l3 ++ [ec], none, []⟩ (by kernel_rfl) (by simp only [List.nil_append, List.append_nil]; kernel_rfl) ⟨by simp only [IntKind.wrap_i64]; omega, by simp only; omega, ?_, ?_⟩ (by simp only; omega) (entC (entTs ec) (entC entK (entC entK (entC entK entE))))
    · simp only
      rw [List.map_append, hl3, drop_snoc hma, ← List.append_assoc, ← hec]
      rfl
    · simp only [List.length_append, List.flatMap_append, List.length_cons, List.length_nil]
      exact Grow.cast (by simp [TwR]) rfl hg'
  | zero =>
    rw [List.drop_zero] at hl3
    refine W.df [] 208 (decide (z3 > 0)) (by kernel_rfl) (decide_eq_false (by omega)) ?_
    refine W.slp [208] 26 bb ob (lb.length - 1) lb.length cb (IntKind.i64.wrap ((lb.length : Int) - 1)) (by rw [IntKind.wrap_i64]; omega) tbOk (by kernel_rfl) (by omega) (by omega) ?_
    refine W.app [] O3 [] O3 [] 26 336 l3.length (lb.length - 1) v3 (.slice (some ⟨bb, ob, none⟩) (lb.length - 1) cb) (l3.flatMap TwR.cells) ((lb.take (lb.length - 1)).flatMap TwR.cells) tbOk (by kernel_rfl) (by simp) hg3 (reads_tw bb ob O3 (lb.length - 1) cb (by omega)) tws_one (by omega) (by decide) (fun v' O' hg' => ?_)
    have hlen9 : (l3 ++ lb.take (lb.length - 1)).length = l3.length + (lb.length - 1) := by rw [List.length_append, List.length_take, Nat.min_eq_left (by omega)]
    have hg9 : Grow 26 O' v' (l3 ++ lb.take (lb.length - 1)).length ((l3 ++ lb.take (lb.length - 1)).flatMap TwR.cells) := Grow.cast (by rw [List.flatMap_append]) hlen9.symm hg'
    obtain ⟨g9, cap9, cur9, hv9, hO9, _⟩ := hg9.own (by omega)
    subst hv9 hO9
    refine W.pubgr (by simp only [List.nil_append, List.append_nil]; kernel_rfl) hg9 (by kernel_rfl) (fun ao c' hv hc' => ?_)
    injection hv with hv1 _ hv3
    subst hv1 hv3
    refine W.more (by kernel_rfl) (entC (entTt (ao := some ⟨bb, ob, none⟩) (r := lb.length - 1) (l := l3) (l2 := lb)) entE) ?_
    refine W.r [] (.tuple #[.slice (some ⟨g9, 0, none⟩) (l3 ++ lb.take (lb.length - 1)).length cap9, .int .i64 0]) (by kernel_rfl) (.inr ⟨hoe, g9, 0, cap9, l3 ++ lb.take (lb.length - 1), rfl, hc', ?_, rfl⟩) (entC (fun I w hd hh => ⟨fun e he => (Has.p (k := OS TwR) (a := (20, l3 ++ lb.take (lb.length - 1))) inferInstance hh) e he, Has.p (k := RA (some ⟨g9, 0, none⟩)) inferInstance hh⟩) entE)
    rw [← hcs, ← hws, hpl, List.map_append, hl3, hdl, ← hlbn, ← hnb2, List.map_take]
set_option maxHeartbeats 4000000 in
theorem r_of1 (ao : Option Addr) (n c : Nat) (pts : List Dp) (width kind bg en : Int) [Has (RA ao) (pts.flatMap dpc) Γ] (hn : n = pts.length) (ha : 0 < n → ∃ b off, ao = some ⟨b, off, none⟩) (hlong : ¬ 8191 < pts.length) (hk : kind = 1) :
    PCalls tb Tryz.prog 6 [.slice ao n c, .int .i64 width, .int .i64 kind, .int .i64 bg, .int .i64 en] Γ (RfPost pts width kind bg en) := by
  obtain ⟨cs, hcs⟩ : ∃ cs, cs = (corn pts).1.reverse := ⟨_, rfl⟩
  obtain ⟨ws, hws⟩ : ∃ ws, ws = (corn pts).2.reverse := ⟨_, rfl⟩
  have hcl : (corn pts).1.length = cs.length := by rw [hcs, List.length_reverse]
  have hok : CornOk (corn pts).1 (corn pts).2 := corn_ok pts ([], []) rfl
  have hbad : argBad width kind bg en = true → RfPost pts width kind bg en (.tuple #[.slice none 0 0, .int .i64 1]) [] := fun h => .inl ⟨by rw [oerr_arg hlong h]; decide, by rw [oerr_arg hlong h], rfl⟩
  refine PCalls.of_W tbOk Tryz.func6 rfl (by kernel_rfl) ?_
  refine W.df [] 25 (decide ((n : Int) > 8191)) (by kernel_rfl) (decide_eq_false (by omega)) ?_
  refine W.dt [25] 28 (kind != 0) (by kernel_rfl) (by rw [hk]; rfl) ?_
  refine W.df [28] 32 (kind != 1) (by kernel_rfl) (by rw [hk]; rfl) ?_
  refine W.d [40, 36, 32] 44 (decide (width < 1)) (by kernel_rfl) (fun h1 => ?_) (fun h1 => ?_)
  · exact W.r [63, 60, 56, 52, 48, 44] (.tuple #[.slice none 0 0, .int .i64 1]) (by kernel_rfl) (hbad (by rw [argBad_eq, h1]; simp)) ent0
  refine W.d [44] 48 (decide (width > 2147483647)) (by kernel_rfl) (fun h2 => ?_) (fun h2 => ?_)
  · exact W.r [63, 60, 56, 52, 48] (.tuple #[.slice none 0 0, .int .i64 1]) (by kernel_rfl) (hbad (by rw [argBad_eq, h2]; simp)) ent0
  refine W.d [48] 52 (decide (bg < -2147483647)) (by kernel_rfl) (fun h3 => ?_) (fun h3 => ?_)
  · exact W.r [63, 60, 56, 52] (.tuple #[.slice none 0 0, .int .i64 1]) (by kernel_rfl) (hbad (by rw [argBad_eq, h3]; simp)) ent0
  refine W.d [52] 56 (decide (bg > 2147483647)) (by kernel_rfl) (fun h4 => ?_) (fun h4 => ?_)
  · exact W.r [63, 60, 56] (.tuple #[.slice none 0 0, .int .i64 1]) (by kernel_rfl) (hbad (by rw [argBad_eq, h4]; simp)) ent0
  refine W.d [56] 60 (decide (en < -2147483647)) (by kernel_rfl) (fun h5 => ?_) (fun h5 => ?_)
  · exact W.r [63, 60] (.tuple #[.slice none 0 0, .int .i64 1]) (by kernel_rfl) (hbad (by rw [argBad_eq, h5]; simp)) ent0
  refine W.d [60] 63 (decide (en > 2147483647)) (by kernel_rfl) (fun h6 => ?_) (fun h6 => ?_)
  · exact W.r [63] (.tuple #[.slice none 0 0, .int .i64 1]) (by kernel_rfl) (hbad (by rw [argBad_eq, h6]; simp)) ent0
  have k1 := of_decide_eq_false h1
  have k2 := of_decide_eq_false h2
  have k3 := of_decide_eq_false h3
  have k4 := of_decide_eq_false h4
  have k5 := of_decide_eq_false h5
  have k6 := of_decide_eq_false h6
  have hgd : argBad width kind bg en = false := argBad_good.2 (by omega)
  clear hbad
  have hga : ¬ argBad width kind bg en = true := by rw [hgd]; decide
  refine W.lp [63] [12] (fun a : Nat × Int => [(12, .int .i64 a.2)]) (fun _ => []) (fun _ => [RA ao (pts.flatMap dpc)]) (fun a => a.2 = a.1 ∧ a.1 ≤ n ∧ ∀ i (h : i < pts.length), i < a.1 → outP (pts[i]'h) = false) (fun a => n - a.1) (0, 0) (by kernel_rfl) (by kernel_rfl) ⟨rfl, Nat.zero_le _, fun i _ h => by omega⟩ entRA' ?_
  rintro ⟨i, z⟩ K ⟨hz, hi, hall⟩ close
  simp only at hz hi hall
  by_cases hlt : i < n
  · have hil : i < pts.length := by omega
    have hg : pts[i]? = some (pts[i]'hil) := List.getElem?_eq_getElem hil
    have hmem := List.getElem_mem hil
    have hnext : outP (pts[i]'hil) = false → ∀ j (h : j < pts.length), j < i + 1 → outP (pts[j]'h) = false := fun ho j h hj => by
      by_cases hji : j < i
      · exact hall j h hji
      · obtain rfl : j = i := by omega
        exact ho
    generalize hp : pts[i]'hil = p at *
    have hfar : outP p = true → RfPost pts width kind bg en (.tuple #[.slice none 0 0, .int .i64 26]) [] := fun h => by
      have h7 : pts.any outP = true := List.any_eq_true.2 ⟨p, hmem, h⟩
      have he : oerr pts width kind bg en = 26 := by unfold oerr; rw [if_neg hlong, if_neg hga, if_pos h7]
      exact .inl ⟨by rw [he]; decide, by rw [he], rfl⟩
    have hop : outP p = ((decide (p.x < -2147483648) || decide (p.x > 2147483647)) || (decide (p.y < -2147483648) || decide (p.y > 2147483647))) := rfl
    obtain ⟨ba, of, e⟩ := ha (by omega)
    subst e
    refine W.dt [] 67 (decide (z < (n : Int))) (by kernel_rfl) (decide_eq_true (by omega)) ?_
    refine W.ia [67] 2 ba of n c .i64 i z hz tbOk (by kernel_rfl) hlt ?_
    refine W.fa [] 0 ba (of + i * 2) tbOk (by kernel_rfl) ?_
    refine W.ld [] 1 ba (of + i * 2 + 0) (.int .i64 p.x) tbOk (by kernel_rfl) (fun I w hI hh => RA.rdn ba of (i * 2) (dp_atq hg) I w hI hh 0 _ rfl) ?_
    refine W.d [] 76 (decide (p.x < -2147483648)) (by kernel_rfl) (fun g0 => ?_) (fun g0 => ?_)
    · exact W.r [99, 92, 84, 76] (.tuple #[.slice none 0 0, .int .i64 26]) (by kernel_rfl) (hfar (by rw [hop, g0]; simp)) ent0
    refine W.ia [76] 2 ba of n c .i64 i z hz tbOk (by kernel_rfl) hlt ?_
    refine W.fa [76] 0 ba (of + i * 2) tbOk (by kernel_rfl) ?_
    refine W.ld [76] 1 ba (of + i * 2 + 0) (.int .i64 p.x) tbOk (by kernel_rfl) (fun I w hI hh => RA.rdn ba of (i * 2) (dp_atq hg) I w hI hh 0 _ rfl) ?_
    refine W.d [76] 84 (decide (p.x > 2147483647)) (by kernel_rfl) (fun g1 => ?_) (fun g1 => ?_)
    · exact W.r [99, 92, 84] (.tuple #[.slice none 0 0, .int .i64 26]) (by kernel_rfl) (hfar (by rw [hop, g1]; simp)) ent0
    refine W.ia [84] 2 ba of n c .i64 i z hz tbOk (by kernel_rfl) hlt ?_
    refine W.fa [84] 1 ba (of + i * 2) tbOk (by kernel_rfl) ?_
    refine W.ld [84] 1 ba (of + i * 2 + 1) (.int .i64 p.y) tbOk (by kernel_rfl) (fun I w hI hh => RA.rdn ba of (i * 2) (dp_atq hg) I w hI hh 1 _ rfl) ?_
    refine W.d [84] 92 (decide (p.y < -2147483648)) (by kernel_rfl) (fun g2 => ?_) (fun g2 => ?_)
    · exact W.r [99, 92] (.tuple #[.slice none 0 0, .int .i64 26]) (by kernel_rfl) (hfar (by rw [hop, g2]; simp)) ent0
    refine W.ia [92] 2 ba of n c .i64 i z hz tbOk (by kernel_rfl) hlt ?_
    refine W.fa [92] 1 ba (of + i * 2) tbOk (by kernel_rfl) ?_
    refine W.ld [92] 1 ba (of + i * 2 + 1) (.int .i64 p.y) tbOk (by kernel_rfl) (fun I w hI hh => RA.rdn ba of (i * 2) (dp_atq hg) I w hI hh 1 _ rfl) ?_
    refine W.d [92] 99 (decide (p.y > 2147483647)) (by kernel_rfl) (fun g3 => ?_) (fun g3 => ?_)
    · exact W.r [99] (.tuple #[.slice none 0 0, .int .i64 26]) (by kernel_rfl) (hfar (by rw [hop, g3]; simp)) ent0
    exact close [99] _ _ (i + 1, IntKind.i64.wrap (z + 1)) (by kernel_rfl) (by kernel_rfl) ⟨by simp only [IntKind.wrap_i64]; omega, hlt, hnext (by rw [hop, g0, g1, g2, g3]; rfl)⟩ (by simp only; omega) entRA'
  have h7 : pts.any outP = false := any_take (fun j hj => hall j hj (by omega))
  have hg7 : ¬ pts.any outP = true := by rw [h7]; decide
  have hin := in_of h7
  refine W.df [] 67 (decide (z < (n : Int))) (by kernel_rfl) (decide_eq_false (by omega)) ?_
  refine W.cl [67] (by kernel_rfl) (r_cornF ao n c pts cs hcs hn (by omega) ha hin) ?_
  rintro _ _ ⟨a1, c1, rfl, rfl⟩
  by_cases hfew : cs.length < 2
  · refine W.dt [] 104 (decide ((cs.length : Int) < 2)) (by kernel_rfl) (decide_eq_true (by omega)) ?_
    have he : oerr pts width kind bg en = 7 := by unfold oerr; rw [if_neg hlong, if_neg hga, if_neg hg7, hcl, if_pos hfew]
    exact W.r [104] (.tuple #[.slice none 0 0, .int .i64 7]) (by kernel_rfl) (.inl ⟨by rw [he]; decide, by rw [he], rfl⟩) ent0
  have hfew' : ¬ (corn pts).1.length < 2 := by omega
  have hfw : FwOk cs ws := by
    rw [hcs, hws]
    exact fw_ok hok (by intro e; rw [e] at hfew'; simp at hfew')
  have hmem : ∀ p ∈ cs, inD 2147483648 p := fun p hp => by
    have := corn_mem pts ([], []) (Q := fun _ => False) (fun q hq => absurd hq (by simp)) p (by rw [hcs] at hp; exact List.mem_reverse.1 hp)
    exact hin p (by simpa using this)
  have hlen := hfw.len
  have hcmax : cs.length ≤ 8191 := by
    have := corn_len pts ([], [])
    simp only [List.length_nil, Nat.zero_add] at this
    have h9 : (corn pts).1.length ≤ pts.length := this
    omega
  have hbk : backs (corn pts).2 = true ↔ ∃ (i : Nat) (d e : Dp), ws[i]? = some d ∧ ws[i + 1]? = some e ∧ e = negD d := by
    rw [hws]
    exact back_fw _
  have hwget : ∀ i, i < ws.length → ∃ d, ws[i]? = some d := fun i hi => ⟨_, List.getElem?_eq_getElem hi⟩
  have hcget : ∀ i, i < cs.length → ∃ d, cs[i]? = some d := fun i hi => ⟨_, List.getElem?_eq_getElem hi⟩
  have hcr : ∀ (i : Nat) (p : Dp), cs[i]? = some p → inD 2147483648 p := fun i p hp => by
    obtain ⟨_, rfl⟩ := List.getElem?_eq_some_iff.1 hp
    exact hmem _ (List.getElem_mem _)
  have hcn : cs.flatMap dpc ≠ [] := by intro e; have := dp_len cs; rw [e] at this; simp at this; omega
  refine W.df [] 104 (decide ((cs.length : Int) < 2)) (by kernel_rfl) (decide_eq_false (by omega)) ?_
  refine W.ra a1 (by kernel_rfl) hcn (fun bc oc e => ?_)
  subst e
  obtain ⟨nn, hnnd⟩ : ∃ nn, nn = IntKind.i64.wrap ((cs.length : Int) - 1) := ⟨_, rfl⟩
  have hnn : nn = (ws.length : Int) := by rw [hnnd, IntKind.wrap_i64]; omega
  refine W.lp [104] [15] (fun a : Nat × Int => [(15, .int .i64 a.2)]) (fun _ => []) (fun _ => [RA (some ⟨bc, oc, none⟩) (cs.flatMap dpc)]) (fun a => a.2 = a.1 ∧ 1 ≤ a.1 ∧ a.1 ≤ ws.length ∧ ∀ (j : Nat) (d e : Dp), j + 1 < a.1 → ws[j]? = some d → ws[j + 1]? = some e → e ≠ negD d) (fun a => ws.length - a.1) (1, 1) (by kernel_rfl) (by kernel_rfl) ⟨rfl, Nat.le_refl _, by simp only; omega, fun j d e h => by simp only at h; omega⟩ (entC entK entE) ?_
  rintro ⟨i, z⟩ K ⟨hz, hi1, hi, hall⟩ close
  simp only at hz hi1 hi hall
  by_cases hlt : i < ws.length
  · obtain ⟨q0, g0⟩ := hcget (i - 1) (by omega)
    obtain ⟨q1, g1⟩ := hcget i (by omega)
    obtain ⟨q2, g2⟩ := hcget (i + 1) (by omega)
    obtain ⟨d, hd⟩ := hwget (i - 1) (by omega)
    obtain ⟨e, he⟩ := hwget i hlt
    have hp1 : cs[i - 1 + 1]? = some q1 := by rw [Nat.sub_add_cancel hi1]; exact g1
    have he1 : ws[i - 1 + 1]? = some e := by rw [Nat.sub_add_cancel hi1]; exact he
    obtain ⟨n1, hdw⟩ := hfw.way _ _ _ _ g0 hp1 hd
    obtain ⟨n2, hew⟩ := hfw.way _ _ _ _ g1 g2 he
    refine W.dt [] 110 (decide (z < IntKind.i64.wrap ((cs.length : Int) - 1))) (by kernel_rfl) (decide_eq_true (by omega)) ?_
    refine W.ia [110] 2 bc oc cs.length c1 .i64 (i - 1) (IntKind.i64.wrap (z - 1)) (by rw [IntKind.wrap_i64]; omega) tbOk (by kernel_rfl) (by omega) ?_
    refine W.lds [] bc (oc + (i - 1) * 2) (dpc q0) tbOk (by kernel_rfl) (RA.rdn bc oc ((i - 1) * 2) (dp_atq g0)) ?_
    refine W.ia [] 2 bc oc cs.length c1 .i64 i z hz tbOk (by kernel_rfl) (by omega) ?_
    refine W.lds [] bc (oc + i * 2) (dpc q1) tbOk (by kernel_rfl) (RA.rdn bc oc (i * 2) (dp_atq g1)) ?_
    refine W.ia [] 2 bc oc cs.length c1 .i64 i z hz tbOk (by kernel_rfl) (by omega) ?_
    refine W.lds [] bc (oc + i * 2) (dpc q1) tbOk (by kernel_rfl) (RA.rdn bc oc (i * 2) (dp_atq g1)) ?_
    refine W.ia [] 2 bc oc cs.length c1 .i64 (i + 1) (IntKind.i64.wrap (z + 1)) (by rw [IntKind.wrap_i64]; omega) tbOk (by kernel_rfl) (by omega) ?_
    refine W.lds [] bc (oc + (i + 1) * 2) (dpc q2) tbOk (by kernel_rfl) (RA.rdn bc oc ((i + 1) * 2) (dp_atq g2)) ?_
    refine W.cl [] (by kernel_rfl) (r_way q0 q1 (hcr _ _ g0) (hcr _ _ g1) n1) ?_
    rintro _ _ ⟨rfl, rfl⟩
    refine W.cl [] (by kernel_rfl) (r_way q1 q2 (hcr _ _ g1) (hcr _ _ g2) n2) ?_
    rintro _ _ ⟨rfl, rfl⟩
    refine W.cl [] (by kernel_rfl) (r_dneg (wayv q1 q2) (way_in (hcr _ _ g1) (hcr _ _ g2) n2)) ?_
    rintro _ _ ⟨rfl, rfl⟩
    refine W.eqp [] 35 (wayv q0 q1) (negD (wayv q1 q2)) (by kernel_rfl) (by kernel_rfl) (by kernel_rfl) ?_
    by_cases hde : wayv q0 q1 = negD (wayv q1 q2)
    · refine W.dt [] 134 (decide (wayv q0 q1 = negD (wayv q1 q2))) (by kernel_rfl) (decide_eq_true hde) ?_
      have hb : backs (corn pts).2 = true := hbk.2 ⟨i - 1, d, e, hd, he1, by rw [hdw, hew]; exact negD_neg.1 hde⟩
      have he : oerr pts width kind bg en = 25 := by unfold oerr; rw [if_neg hlong, if_neg hga, if_neg hg7, if_neg hfew', if_pos hb]
      exact W.r [134] (.tuple #[.slice none 0 0, .int .i64 25]) (by kernel_rfl) (.inl ⟨by rw [he]; decide, by rw [he], rfl⟩) ent0
    · refine W.df [] 134 (decide (wayv q0 q1 = negD (wayv q1 q2))) (by kernel_rfl) (decide_eq_false hde) ?_
      refine close [134] _ _ (i + 1, IntKind.i64.wrap (z + 1)) (by kernel_rfl) (by kernel_rfl) ⟨by simp only [IntKind.wrap_i64]; omega, by simp only; omega, hlt, fun j d' e' hj hd' he' => ?_⟩ (by simp only; omega) (entC entK entE)
      by_cases hji : j + 1 < i
      · exact hall j d' e' hji hd' he'
      · obtain rfl : j = i - 1 := by simp only at hj; omega
        rw [hd] at hd'
        rw [he1] at he'
        injection hd' with hd'
        injection he' with he'
        subst hd' he'
        rw [hdw, hew]
        exact fun h => hde (negD_neg.2 h)
  obtain rfl : i = ws.length := by omega
  have hnb : ¬ backs (corn pts).2 = true := by
    rw [hbk]
    rintro ⟨j, d, e, hd, he, hn⟩
    exact hall j d e (List.getElem?_eq_some_iff.1 he).1 hd he hn
  have hoe : oerr pts width kind bg en = 0 := by unfold oerr; rw [if_neg hlong, if_neg hga, if_neg hg7, if_neg hfew', if_neg hnb]
  have htl : ∀ (i : Nat) (p : Dp), cs[i + 1]? = some p → cs.tail[i]? = some p := fun i p hp => by rw [List.getElem?_tail]; exact hp
  have hctl : cs.tail.length = ws.length := by rw [List.length_tail]; omega
  obtain ⟨p0, hp0⟩ := hcget 0 (by omega)
  obtain ⟨p1, hp1⟩ := hcget 1 (by omega)
  obtain ⟨w0, hw0⟩ := hwget 0 (by omega)
  obtain ⟨pn, hpn⟩ := hcget ws.length (by omega)
  obtain ⟨pm, hpm⟩ := hcget (ws.length - 1) (by omega)
  obtain ⟨wn, hwn1⟩ := hwget (ws.length - 1) (by omega)
  obtain ⟨hne01, hw0e⟩ := hfw.way _ _ _ _ hp0 hp1 hw0
  obtain ⟨hnemn, hwne⟩ := hfw.way _ _ _ _ hpm (by rw [Nat.sub_add_cancel (by omega)]; exact hpn) hwn1
  subst hw0e hwne
  have hw0i := way_in (hcr _ _ hp0) (hcr _ _ hp1) hne01
  have hwni := way_in (hcr _ _ hpm) (hcr _ _ hpn) hnemn
  obtain ⟨h, hh⟩ : ∃ h, h = Rat.divInt width 2 := ⟨_, rfl⟩
  have hplaces : ∀ b e, endsOf kind bg en h = (b, e) → rplaces cs ws width kind bg en = (rtip p0 (negD (wayv p0 p1)) h b (kind == 1)).drop ((rtip p0 (negD (wayv p0 p1)) h b (kind == 1)).length - 1) ++ rcorns h cs.tail ws ++ rtip pn (wayv pm pn) h e (kind == 1) ++ (rcorns (-h) cs.tail ws).reverse ++ (rtip p0 (negD (wayv p0 p1)) h b (kind == 1)).take ((rtip p0 (negD (wayv p0 p1)) h b (kind == 1)).length - 1) := fun b e hbe => by
    unfold rplaces
    simp only [← hh, hbe, List.getD_eq_getElem?_getD, hp0, hw0, hwn1, show cs.length - 1 = ws.length by omega, hpn, Option.getD_some]
  have hm1 := rcorns_len h cs.tail ws hctl
  have hm2 := rcorns_len (-h) cs.tail ws hctl
  refine W.df [] 110 (decide (z < IntKind.i64.wrap ((cs.length : Int) - 1))) (by kernel_rfl) (decide_eq_false (by omega)) ?_
  refine W.cl [110] (by kernel_rfl) (s_frach width 2 h hh (by omega) (by omega) (by omega) (by omega)) ?_
  rintro _ _ ⟨S4, s4, R4, t4, rfl, rfl⟩
  refine W.cl [] (by kernel_rfl) (s_of 0 (by omega) (by omega)) ?_
  rintro _ _ ⟨S5, s5, R5, t5, rfl, rfl⟩
  refine W.cl [] (by kernel_rfl) (s_of 0 (by omega) (by omega)) ?_
  rintro _ _ ⟨S6, s6, R6, t6, rfl, rfl⟩
  refine W.df [] 140 (kind == 2) (by kernel_rfl) (by rw [hk]; rfl) ?_
  refine W.df [140] 144 (kind == 4) (by kernel_rfl) (by rw [hk]; rfl) ?_
  have hpl := hplaces (((0 : Int) : Rat)) (((0 : Int) : Rat)) (by unfold endsOf; rw [if_neg (by omega), if_neg (by omega)]; rfl)
  refine W.ia [144] 2 bc oc cs.length c1 .i64 0 0 rfl tbOk (by kernel_rfl) (by omega) ?_
  refine W.lds [] bc (oc + 0 * 2) (dpc p0) tbOk (by kernel_rfl) (RA.rdn bc oc (0 * 2) (dp_atq hp0)) ?_
  refine W.ia [] 2 bc oc cs.length c1 .i64 0 0 rfl tbOk (by kernel_rfl) (by omega) ?_
  refine W.lds [] bc (oc + 0 * 2) (dpc p0) tbOk (by kernel_rfl) (RA.rdn bc oc (0 * 2) (dp_atq hp0)) ?_
  refine W.ia [] 2 bc oc cs.length c1 .i64 1 1 rfl tbOk (by kernel_rfl) (by omega) ?_
  refine W.lds [] bc (oc + 1 * 2) (dpc p1) tbOk (by kernel_rfl) (RA.rdn bc oc (1 * 2) (dp_atq hp1)) ?_
  refine W.cl [] (by kernel_rfl) (r_way p0 p1 (hcr _ _ hp0) (hcr _ _ hp1) hne01) ?_
  rintro _ _ ⟨rfl, rfl⟩
  refine W.cl [] (by kernel_rfl) (r_dneg (wayv p0 p1) hw0i) ?_
  rintro _ _ ⟨rfl, rfl⟩
  refine W.cl [] (by kernel_rfl) (r_tipB p0 (negD (wayv p0 p1)) S4 s4 R4 t4 S5 s5 R5 t5 (h := h) (b := ((0 : Int) : Rat)) (kind == 1) hw0i.neg) ?_
  rintro _ _ ⟨bb, ob, cb, lb, rfl, hlb, hnb2, rfl⟩
  have hlbn := twn_len hnb2
  have hb00 := rtip_len p0 (negD (wayv p0 p1)) h (((0 : Int) : Rat)) (kind == 1)
  obtain ⟨el, hel⟩ : ∃ el, lb[lb.length - 1]? = some el := ⟨_, List.getElem?_eq_getElem (by omega)⟩
  have hdl : (rtip p0 (negD (wayv p0 p1)) h (((0 : Int) : Rat)) (kind == 1)).drop ((rtip p0 (negD (wayv p0 p1)) h (((0 : Int) : Rat)) (kind == 1)).length - 1) = [el.num] := by
    obtain ⟨hk, rfl⟩ := List.getElem?_eq_some_iff.1 hel
    rw [← hlbn, ← hnb2, ← List.map_drop, List.drop_eq_getElem_cons hk, List.drop_eq_nil_of_le (by omega)]
    rfl
  refine W.ia [] 26 bb ob lb.length cb .i64 (lb.length - 1) (IntKind.i64.wrap ((lb.length : Int) - 1)) (by rw [IntKind.wrap_i64]; omega) tbOk (by kernel_rfl) (by omega) ?_
  refine W.lds [] bb (ob + (lb.length - 1) * 26) (twc el) tbOk (by kernel_rfl) (TL.toldq hel) ?_
  refine W.bs [] 1 (twc el) tbOk (by kernel_rfl) (fun B1 => ?_)
  refine W.lpo [] [20, 21] (fun a : TSt => [(20, a.v), (21, .int .i64 a.z)]) (fun _ => []) (fun a => a.O) (fun a => [OS TwR (20, a.l), RA a.ao a.ys, RA (some ⟨bc, oc, none⟩) (cs.flatMap dpc), PF S4 s4 R4 t4 (6, h), PF S6 s6 R6 t6 (6, ((0 : Int) : Rat)), OL TwR (some ⟨bb, ob, none⟩) (20, lb)]) (fun a => a.z = a.i ∧ 1 ≤ a.i ∧ a.i ≤ ws.length ∧ a.l.map TwE.num = [el.num] ++ (rcorns h cs.tail ws).take (a.i - 1) ∧ GrowZ 26 a.O a.v a.l.length (a.l.flatMap TwR.cells) a.ao a.ys) (fun a => ws.length - a.i) ⟨1, 1, .slice (some ⟨B1, 0, none⟩) 1 1, [], [el], some ⟨B1, 0, none⟩, twc el⟩ (by kernel_rfl) (by kernel_rfl) ⟨rfl, Nat.le_refl _, by simp only; omega, by simp only [Nat.sub_self, List.take_zero, List.append_nil]; rfl, .inl ⟨rfl, rfl, Nat.zero_lt_one, rfl, by simp [TwR]⟩⟩ (entC (entT1 (ao := some ⟨bb, ob, none⟩) hel) (entC entKR (entC entK (entC entK (entC entK (entC entK entE)))))) ?_
  rintro ⟨i, z1, v1, O1, l1, ao1, ys1⟩ K1 ⟨hz1, hi1', hi', hl1, hg1⟩ close1
  simp only at hz1 hi1' hi' hl1 hg1
  have hl1n := twn_len hl1
  rw [List.length_append, List.length_take, hm1] at hl1n
  simp only [List.length_cons, List.length_nil] at hl1n
  by_cases hlt1 : i < ws.length
  · obtain ⟨q0, g0⟩ := hcget (i - 1) (by omega)
    obtain ⟨q1, g1⟩ := hcget i (by omega)
    obtain ⟨q2, g2⟩ := hcget (i + 1) (by omega)
    obtain ⟨d, hd⟩ := hwget (i - 1) (by omega)
    obtain ⟨e, he⟩ := hwget i hlt1
    have he1 : ws[i - 1 + 1]? = some e := by rw [Nat.sub_add_cancel hi1']; exact he
    have hp1 : cs[i - 1 + 1]? = some q1 := by rw [Nat.sub_add_cancel hi1']; exact g1
    obtain ⟨n1, rfl⟩ := hfw.way _ _ _ _ g0 hp1 hd
    obtain ⟨n2, rfl⟩ := hfw.way _ _ _ _ g1 g2 he
    have hma := rcorns_at h cs.tail ws (i - 1) q1 _ _ (htl _ _ hp1) hd he1
    refine W.dt [] 174 (decide (z1 < IntKind.i64.wrap ((cs.length : Int) - 1))) (by kernel_rfl) (decide_eq_true (by omega)) ?_
    refine W.cl [174] (by kernel_rfl) (r_corner bc oc cs.length c1 cs i z1 hz1 S4 s4 R4 t4 (h := h) q0 q1 q2 (by omega) (by omega) (by omega) g0 g1 g2 (hcr _ _ g0) (hcr _ _ g1) (hcr _ _ g2) n1 n2) ?_
    rintro _ _ ⟨ec, rfl, hec, rfl⟩
    refine W.bs [] 1 (twc ec) tbOk (by kernel_rfl) (fun B2 => ?_)
    refine W.apz [] O1 26 336 l1.length 1 ao1 v1 (.slice (some ⟨B2, 0, none⟩) 1 1) (l1.flatMap TwR.cells) ys1 (twc ec) tbOk (by kernel_rfl) hg1 (by decide) (reads_row B2 O1 1 26 rfl 1) (two_one ec) (by omega) (by decide) (fun v' O' hg' => ?_)
    refine close1 [] _ _ ⟨i + 1, IntKind.i64.wrap (z1 + 1), v', O', l1 ++ [ec], none, []⟩ (by kernel_rfl) (by kernel_rfl) ⟨by simp only [IntKind.wrap_i64]; omega, by simp only; omega, hlt1, ?_, .inr ⟨?_, rfl, rfl⟩⟩ (by simp only; omega) (entC (entTs ec) (entC entRn (entC entK (entC entK (entC entK (entC entK entE))))))
    · simp only
      rw [List.map_append, hl1, Nat.add_sub_cancel, show i = i - 1 + 1 by omega, take_snoc hma, List.append_assoc, Nat.add_sub_cancel, ← hec]
      rfl
    · simp only [List.length_append, List.flatMap_append, List.length_cons, List.length_nil]
      exact Grow.cast (by simp [TwR]) rfl hg'
  obtain rfl : i = ws.length := by omega
  rw [List.take_of_length_le (by rw [hm1]; omega)] at hl1
  refine W.df [] 174 (decide (z1 < IntKind.i64.wrap ((cs.length : Int) - 1))) (by kernel_rfl) (decide_eq_false (by omega)) ?_
  refine W.ia [174] 2 bc oc cs.length c1 .i64 ws.length (IntKind.i64.wrap ((cs.length : Int) - 1)) (hnnd ▸ hnn) tbOk (by kernel_rfl) (by omega) ?_
  refine W.lds [] bc (oc + ws.length * 2) (dpc pn) tbOk (by kernel_rfl) (RA.rdn bc oc (ws.length * 2) (dp_atq hpn)) ?_
  refine W.ia [] 2 bc oc cs.length c1 .i64 (ws.length - 1) (IntKind.i64.wrap (IntKind.i64.wrap ((cs.length : Int) - 1) - 1)) (by rw [← hnnd, hnn, IntKind.wrap_i64]; omega) tbOk (by kernel_rfl) (by omega) ?_
  refine W.lds [] bc (oc + (ws.length - 1) * 2) (dpc pm) tbOk (by kernel_rfl) (RA.rdn bc oc ((ws.length - 1) * 2) (dp_atq hpm)) ?_
  refine W.ia [] 2 bc oc cs.length c1 .i64 ws.length (IntKind.i64.wrap ((cs.length : Int) - 1)) (hnnd ▸ hnn) tbOk (by kernel_rfl) (by omega) ?_
  refine W.lds [] bc (oc + ws.length * 2) (dpc pn) tbOk (by kernel_rfl) (RA.rdn bc oc (ws.length * 2) (dp_atq hpn)) ?_
  refine W.cl [] (by kernel_rfl) (r_way pm pn (hcr _ _ hpm) (hcr _ _ hpn) hnemn) ?_
  rintro _ _ ⟨rfl, rfl⟩
  refine W.cl [] (by kernel_rfl) (r_tipB pn (wayv pm pn) S4 s4 R4 t4 S6 s6 R6 t6 (h := h) (b := ((0 : Int) : Rat)) (kind == 1) hwni) ?_
  rintro _ _ ⟨bt, ot, ct, lt, rfl, hlt2, hnt, rfl⟩
  have hltn := twn_len hnt
  have hbnn := rtip_len pn (wayv pm pn) h (((0 : Int) : Rat)) (kind == 1)
  refine W.apz [] O1 26 336 l1.length lt.length ao1 v1 (.slice (some ⟨bt, ot, none⟩) lt.length ct) (l1.flatMap TwR.cells) ys1 ((lt.take lt.length).flatMap TwR.cells) tbOk (by kernel_rfl) hg1 (by omega) (reads_tw bt ot O1 lt.length ct (Nat.le_refl _)) tws_one (by omega) (by decide) (fun v2 O2 hg2 => ?_)
  have hl2 : (l1 ++ lt).map TwE.num = [el.num] ++ rcorns h cs.tail ws ++ rtip pn (wayv pm pn) h (((0 : Int) : Rat)) (kind == 1) := by rw [List.map_append, hl1, hnt]
  refine W.lpo [] [20, 22] (fun a : TSt => [(20, a.v), (22, .int .i64 a.z)]) (fun _ => []) (fun a => a.O) (fun a => [OS TwR (20, a.l), RA (some ⟨bc, oc, none⟩) (cs.flatMap dpc), PF S4 s4 R4 t4 (6, h), OL TwR (some ⟨bb, ob, none⟩) (20, lb)]) (fun a => a.z = a.i ∧ a.i ≤ ws.length - 1 ∧ a.l.map TwE.num = [el.num] ++ rcorns h cs.tail ws ++ rtip pn (wayv pm pn) h (((0 : Int) : Rat)) (kind == 1) ++ ((rcorns (-h) cs.tail ws).drop a.i).reverse ∧ Grow 26 a.O a.v a.l.length (a.l.flatMap TwR.cells)) (fun a => a.i) ⟨ws.length - 1, IntKind.i64.wrap (IntKind.i64.wrap ((cs.length : Int) - 1) - 1), v2, O2, l1 ++ lt, none, []⟩ (by kernel_rfl) (by kernel_rfl) ⟨by simp only; rw [← hnnd, hnn, IntKind.wrap_i64]; omega, Nat.le_refl _, ?_, Grow.cast (by simp [List.flatMap_append]) (by simp) hg2⟩ (entC (entTa (l := l1) (l2 := lt) (ao := some ⟨bt, ot, none⟩)) (entC entK (entC entK (entC entK entE)))) ?_
  · simp only
    rw [hl2, List.drop_eq_nil_of_le (by rw [hm2]; exact Nat.le_refl _), List.reverse_nil, List.append_nil]
  rintro ⟨i, z3, v3, O3, l3, ao3, ys3⟩ K2 ⟨hz3, hi3, hl3, hg3⟩ close2
  simp only at hz3 hi3 hl3 hg3
  have hl3n := twn_len hl3
  simp only [List.length_append, List.length_reverse, List.length_drop, hm1, hm2, List.length_cons, List.length_nil] at hl3n
  cases i with
  | succ i =>
    obtain ⟨q0, g0⟩ := hcget i (by omega)
    obtain ⟨q1, g1⟩ := hcget (i + 1) (by omega)
    obtain ⟨q2, g2⟩ := hcget (i + 1 + 1) (by omega)
    obtain ⟨d, hd⟩ := hwget i (by omega)
    obtain ⟨e, he⟩ := hwget (i + 1) (by omega)
    obtain ⟨n1, rfl⟩ := hfw.way _ _ _ _ g0 g1 hd
    obtain ⟨n2, rfl⟩ := hfw.way _ _ _ _ g1 g2 he
    have hma := rcorns_at (-h) cs.tail ws i q1 _ _ (htl _ _ g1) hd he
    refine W.dt [] 208 (decide (z3 > 0)) (by kernel_rfl) (decide_eq_true (by omega)) ?_
    refine W.cl [208] (by kernel_rfl) (s_neg S4 s4 R4 t4) ?_
    rintro _ _ ⟨S9, s9, R9, t9, rfl, rfl⟩
    refine W.cl [] (by kernel_rfl) (r_corner bc oc cs.length c1 cs (i + 1) z3 hz3 S9 s9 R9 t9 (h := -h) q0 q1 q2 (by omega) (by omega) (by omega) g0 g1 g2 (hcr _ _ g0) (hcr _ _ g1) (hcr _ _ g2) n1 n2) ?_
    rintro _ _ ⟨ec, rfl, hec, rfl⟩
    refine W.bs [] 1 (twc ec) tbOk (by kernel_rfl) (fun B2 => ?_)
    refine W.app [] O3 [] O3 [] 26 336 l3.length 1 v3 (.slice (some ⟨B2, 0, none⟩) 1 1) (l3.flatMap TwR.cells) (twc ec) tbOk (by kernel_rfl) (by simp) hg3 (reads_row B2 O3 1 26 rfl 1) (two_one ec) (by omega) (by decide) (fun v' O' hg' => ?_)
    refine close2 [] _ _ ⟨i, IntKind.i64.wrap (z3 - 1), v', O', l3 ++ [ec], none, []⟩ (by kernel_rfl) (by simp only [List.nil_append, List.append_nil]; kernel_rfl) ⟨by simp only [IntKind.wrap_i64]; omega, by simp only; omega, ?_, ?_⟩ (by simp only; omega) (entC (entTs ec) (entC entK (entC entK (entC entK entE))))
    · simp only
      rw [List.map_append, hl3, drop_snoc hma, ← List.append_assoc, ← hec]
      rfl
    · simp only [List.length_append, List.flatMap_append, List.length_cons, List.length_nil]
      exact Grow.cast (by simp [TwR]) rfl hg'
  | zero =>
    rw [List.drop_zero] at hl3
    refine W.df [] 208 (decide (z3 > 0)) (by kernel_rfl) (decide_eq_false (by omega)) ?_
    refine W.slp [208] 26 bb ob (lb.length - 1) lb.length cb (IntKind.i64.wrap ((lb.length : Int) - 1)) (by rw [IntKind.wrap_i64]; omega) tbOk (by kernel_rfl) (by omega) (by omega) ?_
    refine W.app [] O3 [] O3 [] 26 336 l3.length (lb.length - 1) v3 (.slice (some ⟨bb, ob, none⟩) (lb.length - 1) cb) (l3.flatMap TwR.cells) ((lb.take (lb.length - 1)).flatMap TwR.cells) tbOk (by kernel_rfl) (by simp) hg3 (reads_tw bb ob O3 (lb.length - 1) cb (by omega)) tws_one (by omega) (by decide) (fun v' O' hg' => ?_)
    have hlen9 : (l3 ++ lb.take (lb.length - 1)).length = l3.length + (lb.length - 1) := by rw [List.length_append, List.length_take, Nat.min_eq_left (by omega)]
    have hg9 : Grow 26 O' v' (l3 ++ lb.take (lb.length - 1)).length ((l3 ++ lb.take (lb.length - 1)).flatMap TwR.cells) := Grow.cast (by rw [List.flatMap_append]) hlen9.symm hg'
    obtain ⟨g9, cap9, cur9, hv9, hO9, _⟩ := hg9.own (by omega)
    subst hv9 hO9
    refine W.pubgr (by simp only [List.nil_append, List.append_nil]; kernel_rfl) hg9 (by kernel_rfl) (fun ao c' hv hc' => ?_)
    injection hv with hv1 _ hv3
    subst hv1 hv3
    refine W.more (by kernel_rfl) (entC (entTt (ao := some ⟨bb, ob, none⟩) (r := lb.length - 1) (l := l3) (l2 := lb)) entE) ?_
    refine W.r [] (.tuple #[.slice (some ⟨g9, 0, none⟩) (l3 ++ lb.take (lb.length - 1)).length cap9, .int .i64 0]) (by kernel_rfl) (.inr ⟨hoe, g9, 0, cap9, l3 ++ lb.take (lb.length - 1), rfl, hc', ?_, rfl⟩) (entC (fun I w hd hh => ⟨fun e he => (Has.p (k := OS TwR) (a := (20, l3 ++ lb.take (lb.length - 1))) inferInstance hh) e he, Has.p (k := RA (some ⟨g9, 0, none⟩)) inferInstance hh⟩) entE)
    rw [← hcs, ← hws, hpl, List.map_append, hl3, hdl, ← hlbn, ← hnb2, List.map_take]
set_option maxHeartbeats 4000000 in
theorem r_of2 (ao : Option Addr) (n c : Nat) (pts : List Dp) (width kind bg en : Int) [Has (RA ao) (pts.flatMap dpc) Γ] (hn : n = pts.length) (ha : 0 < n → ∃ b off, ao = some ⟨b, off, none⟩) (hlong : ¬ 8191 < pts.length) (hk : kind = 2) :
    PCalls tb Tryz.prog 6 [.slice ao n c, .int .i64 width, .int .i64 kind, .int .i64 bg, .int .i64 en] Γ (RfPost pts width kind bg en) := by
  obtain ⟨cs, hcs⟩ : ∃ cs, cs = (corn pts).1.reverse := ⟨_, rfl⟩
  obtain ⟨ws, hws⟩ : ∃ ws, ws = (corn pts).2.reverse := ⟨_, rfl⟩
  have hcl : (corn pts).1.length = cs.length := by rw [hcs, List.length_reverse]
  have hok : CornOk (corn pts).1 (corn pts).2 := corn_ok pts ([], []) rfl
  have hbad : argBad width kind bg en = true → RfPost pts width kind bg en (.tuple #[.slice none 0 0, .int .i64 1]) [] := fun h => .inl ⟨by rw [oerr_arg hlong h]; decide, by rw [oerr_arg hlong h], rfl⟩
  refine PCalls.of_W tbOk Tryz.func6 rfl (by kernel_rfl) ?_
  refine W.df [] 25 (decide ((n : Int) > 8191)) (by kernel_rfl) (decide_eq_false (by omega)) ?_
  refine W.dt [25] 28 (kind != 0) (by kernel_rfl) (by rw [hk]; rfl) ?_
  refine W.dt [28] 32 (kind != 1) (by kernel_rfl) (by rw [hk]; rfl) ?_
  refine W.df [32] 36 (kind != 2) (by kernel_rfl) (by rw [hk]; rfl) ?_
  refine W.d [40, 36] 44 (decide (width < 1)) (by kernel_rfl) (fun h1 => ?_) (fun h1 => ?_)
  · exact W.r [63, 60, 56, 52, 48, 44] (.tuple #[.slice none 0 0, .int .i64 1]) (by kernel_rfl) (hbad (by rw [argBad_eq, h1]; simp)) ent0
  refine W.d [44] 48 (decide (width > 2147483647)) (by kernel_rfl) (fun h2 => ?_) (fun h2 => ?_)
  · exact W.r [63, 60, 56, 52, 48] (.tuple #[.slice none 0 0, .int .i64 1]) (by kernel_rfl) (hbad (by rw [argBad_eq, h2]; simp)) ent0
  refine W.d [48] 52 (decide (bg < -2147483647)) (by kernel_rfl) (fun h3 => ?_) (fun h3 => ?_)
  · exact W.r [63, 60, 56, 52] (.tuple #[.slice none 0 0, .int .i64 1]) (by kernel_rfl) (hbad (by rw [argBad_eq, h3]; simp)) ent0
  refine W.d [52] 56 (decide (bg > 2147483647)) (by kernel_rfl) (fun h4 => ?_) (fun h4 => ?_)
  · exact W.r [63, 60, 56] (.tuple #[.slice none 0 0, .int .i64 1]) (by kernel_rfl) (hbad (by rw [argBad_eq, h4]; simp)) ent0
  refine W.d [56] 60 (decide (en < -2147483647)) (by kernel_rfl) (fun h5 => ?_) (fun h5 => ?_)
  · exact W.r [63, 60] (.tuple #[.slice none 0 0, .int .i64 1]) (by kernel_rfl) (hbad (by rw [argBad_eq, h5]; simp)) ent0
  refine W.d [60] 63 (decide (en > 2147483647)) (by kernel_rfl) (fun h6 => ?_) (fun h6 => ?_)
  · exact W.r [63] (.tuple #[.slice none 0 0, .int .i64 1]) (by kernel_rfl) (hbad (by rw [argBad_eq, h6]; simp)) ent0
  have k1 := of_decide_eq_false h1
  have k2 := of_decide_eq_false h2
  have k3 := of_decide_eq_false h3
  have k4 := of_decide_eq_false h4
  have k5 := of_decide_eq_false h5
  have k6 := of_decide_eq_false h6
  have hgd : argBad width kind bg en = false := argBad_good.2 (by omega)
  clear hbad
  have hga : ¬ argBad width kind bg en = true := by rw [hgd]; decide
  refine W.lp [63] [12] (fun a : Nat × Int => [(12, .int .i64 a.2)]) (fun _ => []) (fun _ => [RA ao (pts.flatMap dpc)]) (fun a => a.2 = a.1 ∧ a.1 ≤ n ∧ ∀ i (h : i < pts.length), i < a.1 → outP (pts[i]'h) = false) (fun a => n - a.1) (0, 0) (by kernel_rfl) (by kernel_rfl) ⟨rfl, Nat.zero_le _, fun i _ h => by omega⟩ entRA' ?_
  rintro ⟨i, z⟩ K ⟨hz, hi, hall⟩ close
  simp only at hz hi hall
  by_cases hlt : i < n
  · have hil : i < pts.length := by omega
    have hg : pts[i]? = some (pts[i]'hil) := List.getElem?_eq_getElem hil
    have hmem := List.getElem_mem hil
    have hnext : outP (pts[i]'hil) = false → ∀ j (h : j < pts.length), j < i + 1 → outP (pts[j]'h) = false := fun ho j h hj => by
      by_cases hji : j < i
      · exact hall j h hji
      · obtain rfl : j = i := by omega
        exact ho
    generalize hp : pts[i]'hil = p at *
    have hfar : outP p = true → RfPost pts width kind bg en (.tuple #[.slice none 0 0, .int .i64 26]) [] := fun h => by
      have h7 : pts.any outP = true := List.any_eq_true.2 ⟨p, hmem, h⟩
      have he : oerr pts width kind bg en = 26 := by unfold oerr; rw [if_neg hlong, if_neg hga, if_pos h7]
      exact .inl ⟨by rw [he]; decide, by rw [he], rfl⟩
    have hop : outP p = ((decide (p.x < -2147483648) || decide (p.x > 2147483647)) || (decide (p.y < -2147483648) || decide (p.y > 2147483647))) := rfl
    obtain ⟨ba, of, e⟩ := ha (by omega)
    subst e
    refine W.dt [] 67 (decide (z < (n : Int))) (by kernel_rfl) (decide_eq_true (by omega)) ?_
    refine W.ia [67] 2 ba of n c .i64 i z hz tbOk (by kernel_rfl) hlt ?_
    refine W.fa [] 0 ba (of + i * 2) tbOk (by kernel_rfl) ?_
    refine W.ld [] 1 ba (of + i * 2 + 0) (.int .i64 p.x) tbOk (by kernel_rfl) (fun I w hI hh => RA.rdn ba of (i * 2) (dp_atq hg) I w hI hh 0 _ rfl) ?_
    refine W.d [] 76 (decide (p.x < -2147483648)) (by kernel_rfl) (fun g0 => ?_) (fun g0 => ?_)
    · exact W.r [99, 92, 84, 76] (.tuple #[.slice none 0 0, .int .i64 26]) (by kernel_rfl) (hfar (by rw [hop, g0]; simp)) ent0
    refine W.ia [76] 2 ba of n c .i64 i z hz tbOk (by kernel_rfl) hlt ?_
    refine W.fa [76] 0 ba (of + i * 2) tbOk (by kernel_rfl) ?_
    refine W.ld [76] 1 ba (of + i * 2 + 0) (.int .i64 p.x) tbOk (by kernel_rfl) (fun I w hI hh => RA.rdn ba of (i * 2) (dp_atq hg) I w hI hh 0 _ rfl) ?_
    refine W.d [76] 84 (decide (p.x > 2147483647)) (by kernel_rfl) (fun g1 => ?_) (fun g1 => ?_)
    · exact W.r [99, 92, 84] (.tuple #[.slice none 0 0, .int .i64 26]) (by kernel_rfl) (hfar (by rw [hop, g1]; simp)) ent0
    refine W.ia [84] 2 ba of n c .i64 i z hz tbOk (by kernel_rfl) hlt ?_
    refine W.fa [84] 1 ba (of + i * 2) tbOk (by kernel_rfl) ?_
    refine W.ld [84] 1 ba (of + i * 2 + 1) (.int .i64 p.y) tbOk (by kernel_rfl) (fun I w hI hh => RA.rdn ba of (i * 2) (dp_atq hg) I w hI hh 1 _ rfl) ?_
    refine W.d [84] 92 (decide (p.y < -2147483648)) (by kernel_rfl) (fun g2 => ?_) (fun g2 => ?_)
    · exact W.r [99, 92] (.tuple #[.slice none 0 0, .int .i64 26]) (by kernel_rfl) (hfar (by rw [hop, g2]; simp)) ent0
    refine W.ia [92] 2 ba of n c .i64 i z hz tbOk (by kernel_rfl) hlt ?_
    refine W.fa [92] 1 ba (of + i * 2) tbOk (by kernel_rfl) ?_
    refine W.ld [92] 1 ba (of + i * 2 + 1) (.int .i64 p.y) tbOk (by kernel_rfl) (fun I w hI hh => RA.rdn ba of (i * 2) (dp_atq hg) I w hI hh 1 _ rfl) ?_
    refine W.d [92] 99 (decide (p.y > 2147483647)) (by kernel_rfl) (fun g3 => ?_) (fun g3 => ?_)
    · exact W.r [99] (.tuple #[.slice none 0 0, .int .i64 26]) (by kernel_rfl) (hfar (by rw [hop, g3]; simp)) ent0
    exact close [99] _ _ (i + 1, IntKind.i64.wrap (z + 1)) (by kernel_rfl) (by kernel_rfl) ⟨by simp only [IntKind.wrap_i64]; omega, hlt, hnext (by rw [hop, g0, g1, g2, g3]; rfl)⟩ (by simp only; omega) entRA'
  have h7 : pts.any outP = false := any_take (fun j hj => hall j hj (by omega))
  have hg7 : ¬ pts.any outP = true := by rw [h7]; decide
  have hin := in_of h7
  refine W.df [] 67 (decide (z < (n : Int))) (by kernel_rfl) (decide_eq_false (by omega)) ?_
  refine W.cl [67] (by kernel_rfl) (r_cornF ao n c pts cs hcs hn (by omega) ha hin) ?_
  rintro _ _ ⟨a1, c1, rfl, rfl⟩
  by_cases hfew : cs.length < 2
  · refine W.dt [] 104 (decide ((cs.length : Int) < 2)) (by kernel_rfl) (decide_eq_true (by omega)) ?_
    have he : oerr pts width kind bg en = 7 := by unfold oerr; rw [if_neg hlong, if_neg hga, if_neg hg7, hcl, if_pos hfew]
    exact W.r [104] (.tuple #[.slice none 0 0, .int .i64 7]) (by kernel_rfl) (.inl ⟨by rw [he]; decide, by rw [he], rfl⟩) ent0
  have hfew' : ¬ (corn pts).1.length < 2 := by omega
  have hfw : FwOk cs ws := by
    rw [hcs, hws]
    exact fw_ok hok (by intro e; rw [e] at hfew'; simp at hfew')
  have hmem : ∀ p ∈ cs, inD 2147483648 p := fun p hp => by
    have := corn_mem pts ([], []) (Q := fun _ => False) (fun q hq => absurd hq (by simp)) p (by rw [hcs] at hp; exact List.mem_reverse.1 hp)
    exact hin p (by simpa using this)
  have hlen := hfw.len
  have hcmax : cs.length ≤ 8191 := by
    have := corn_len pts ([], [])
    simp only [List.length_nil, Nat.zero_add] at this
    have h9 : (corn pts).1.length ≤ pts.length := this
    omega
  have hbk : backs (corn pts).2 = true ↔ ∃ (i : Nat) (d e : Dp), ws[i]? = some d ∧ ws[i + 1]? = some e ∧ e = negD d := by
    rw [hws]
    exact back_fw _
  have hwget : ∀ i, i < ws.length → ∃ d, ws[i]? = some d := fun i hi => ⟨_, List.getElem?_eq_getElem hi⟩
  have hcget : ∀ i, i < cs.length → ∃ d, cs[i]? = some d := fun i hi => ⟨_, List.getElem?_eq_getElem hi⟩
  have hcr : ∀ (i : Nat) (p : Dp), cs[i]? = some p → inD 2147483648 p := fun i p hp => by
    obtain ⟨_, rfl⟩ := List.getElem?_eq_some_iff.1 hp
    exact hmem _ (List.getElem_mem _)
  have hcn : cs.flatMap dpc ≠ [] := by intro e; have := dp_len cs; rw [e] at this; simp at this; omega
  refine W.df [] 104 (decide ((cs.length : Int) < 2)) (by kernel_rfl) (decide_eq_false (by omega)) ?_
  refine W.ra a1 (by kernel_rfl) hcn (fun bc oc e => ?_)
  subst e
  obtain ⟨nn, hnnd⟩ : ∃ nn, nn = IntKind.i64.wrap ((cs.length : Int) - 1) := ⟨_, rfl⟩
  have hnn : nn = (ws.length : Int) := by rw [hnnd, IntKind.wrap_i64]; omega
  refine W.lp [104] [15] (fun a : Nat × Int => [(15, .int .i64 a.2)]) (fun _ => []) (fun _ => [RA (some ⟨bc, oc, none⟩) (cs.flatMap dpc)]) (fun a => a.2 = a.1 ∧ 1 ≤ a.1 ∧ a.1 ≤ ws.length ∧ ∀ (j : Nat) (d e : Dp), j + 1 < a.1 → ws[j]? = some d → ws[j + 1]? = some e → e ≠ negD d) (fun a => ws.length - a.1) (1, 1) (by kernel_rfl) (by kernel_rfl) ⟨rfl, Nat.le_refl _, by simp only; omega, fun j d e h => by simp only at h; omega⟩ (entC entK entE) ?_
  rintro ⟨i, z⟩ K ⟨hz, hi1, hi, hall⟩ close
  simp only at hz hi1 hi hall
  by_cases hlt : i < ws.length
  · obtain ⟨q0, g0⟩ := hcget (i - 1) (by omega)
    obtain ⟨q1, g1⟩ := hcget i (by omega)
    obtain ⟨q2, g2⟩ := hcget (i + 1) (by omega)
    obtain ⟨d, hd⟩ := hwget (i - 1) (by omega)
    obtain ⟨e, he⟩ := hwget i hlt
    have hp1 : cs[i - 1 + 1]? = some q1 := by rw [Nat.sub_add_cancel hi1]; exact g1
    have he1 : ws[i - 1 + 1]? = some e := by rw [Nat.sub_add_cancel hi1]; exact he
    obtain ⟨n1, hdw⟩ := hfw.way _ _ _ _ g0 hp1 hd
    obtain ⟨n2, hew⟩ := hfw.way _ _ _ _ g1 g2 he
    refine W.dt [] 110 (decide (z < IntKind.i64.wrap ((cs.length : Int) - 1))) (by kernel_rfl) (decide_eq_true (by omega)) ?_
    refine W.ia [110] 2 bc oc cs.length c1 .i64 (i - 1) (IntKind.i64.wrap (z - 1)) (by rw [IntKind.wrap_i64]; omega) tbOk (by kernel_rfl) (by omega) ?_
    refine W.lds [] bc (oc + (i - 1) * 2) (dpc q0) tbOk (by kernel_rfl) (RA.rdn bc oc ((i - 1) * 2) (dp_atq g0)) ?_
    refine W.ia [] 2 bc oc cs.length c1 .i64 i z hz tbOk (by kernel_rfl) (by omega) ?_
    refine W.lds [] bc (oc + i * 2) (dpc q1) tbOk (by kernel_rfl) (RA.rdn bc oc (i * 2) (dp_atq g1)) ?_
    refine W.ia [] 2 bc oc cs.length c1 .i64 i z hz tbOk (by kernel_rfl) (by omega) ?_
    refine W.lds [] bc (oc + i * 2) (dpc q1) tbOk (by kernel_rfl) (RA.rdn bc oc (i * 2) (dp_atq g1)) ?_
    refine W.ia [] 2 bc oc cs.length c1 .i64 (i + 1) (IntKind.i64.wrap (z + 1)) (by rw [IntKind.wrap_i64]; omega) tbOk (by kernel_rfl) (by omega) ?_
    refine W.lds [] bc (oc + (i + 1) * 2) (dpc q2) tbOk (by kernel_rfl) (RA.rdn bc oc ((i + 1) * 2) (dp_atq g2)) ?_
    refine W.cl [] (by kernel_rfl) (r_way q0 q1 (hcr _ _ g0) (hcr _ _ g1) n1) ?_
    rintro _ _ ⟨rfl, rfl⟩
    refine W.cl [] (by kernel_rfl) (r_way q1 q2 (hcr _ _ g1) (hcr _ _ g2) n2) ?_
    rintro _ _ ⟨rfl, rfl⟩
    refine W.cl [] (by kernel_rfl) (r_dneg (wayv q1 q2) (way_in (hcr _ _ g1) (hcr _ _ g2) n2)) ?_
    rintro _ _ ⟨rfl, rfl⟩
    refine W.eqp [] 35 (wayv q0 q1) (negD (wayv q1 q2)) (by kernel_rfl) (by kernel_rfl) (by kernel_rfl) ?_
    by_cases hde : wayv q0 q1 = negD (wayv q1 q2)
    · refine W.dt [] 134 (decide (wayv q0 q1 = negD (wayv q1 q2))) (by kernel_rfl) (decide_eq_true hde) ?_
      have hb : backs (corn pts).2 = true := hbk.2 ⟨i - 1, d, e, hd, he1, by rw [hdw, hew]; exact negD_neg.1 hde⟩
      have he : oerr pts width kind bg en = 25 := by unfold oerr; rw [if_neg hlong, if_neg hga, if_neg hg7, if_neg hfew', if_pos hb]
      exact W.r [134] (.tuple #[.slice none 0 0, .int .i64 25]) (by kernel_rfl) (.inl ⟨by rw [he]; decide, by rw [he], rfl⟩) ent0
    · refine W.df [] 134 (decide (wayv q0 q1 = negD (wayv q1 q2))) (by kernel_rfl) (decide_eq_false hde) ?_
      refine close [134] _ _ (i + 1, IntKind.i64.wrap (z + 1)) (by kernel_rfl) (by kernel_rfl) ⟨by simp only [IntKind.wrap_i64]; omega, by simp only; omega, hlt, fun j d' e' hj hd' he' => ?_⟩ (by simp only; omega) (entC entK entE)
      by_cases hji : j + 1 < i
      · exact hall j d' e' hji hd' he'
      · obtain rfl : j = i - 1 := by simp only at hj; omega
        rw [hd] at hd'
        rw [he1] at he'
        injection hd' with hd'
        injection he' with he'
        subst hd' he'
        rw [hdw, hew]
        exact fun h => hde (negD_neg.2 h)
  obtain rfl : i = ws.length := by omega
  have hnb : ¬ backs (corn pts).2 = true := by
    rw [hbk]
    rintro ⟨j, d, e, hd, he, hn⟩
    exact hall j d e (List.getElem?_eq_some_iff.1 he).1 hd he hn
  have hoe : oerr pts width kind bg en = 0 := by unfold oerr; rw [if_neg hlong, if_neg hga, if_neg hg7, if_neg hfew', if_neg hnb]
  have htl : ∀ (i : Nat) (p : Dp), cs[i + 1]? = some p → cs.tail[i]? = some p := fun i p hp => by rw [List.getElem?_tail]; exact hp
  have hctl : cs.tail.length = ws.length := by rw [List.length_tail]; omega
  obtain ⟨p0, hp0⟩ := hcget 0 (by omega)
  obtain ⟨p1, hp1⟩ := hcget 1 (by omega)
  obtain ⟨w0, hw0⟩ := hwget 0 (by omega)
  obtain ⟨pn, hpn⟩ := hcget ws.length (by omega)
  obtain ⟨pm, hpm⟩ := hcget (ws.length - 1) (by omega)
  obtain ⟨wn, hwn1⟩ := hwget (ws.length - 1) (by omega)
  obtain ⟨hne01, hw0e⟩ := hfw.way _ _ _ _ hp0 hp1 hw0
  obtain ⟨hnemn, hwne⟩ := hfw.way _ _ _ _ hpm (by rw [Nat.sub_add_cancel (by omega)]; exact hpn) hwn1
  subst hw0e hwne
  have hw0i := way_in (hcr _ _ hp0) (hcr _ _ hp1) hne01
  have hwni := way_in (hcr _ _ hpm) (hcr _ _ hpn) hnemn
  obtain ⟨h, hh⟩ : ∃ h, h = Rat.divInt width 2 := ⟨_, rfl⟩
  have hplaces : ∀ b e, endsOf kind bg en h = (b, e) → rplaces cs ws width kind bg en = (rtip p0 (negD (wayv p0 p1)) h b (kind == 1)).drop ((rtip p0 (negD (wayv p0 p1)) h b (kind == 1)).length - 1) ++ rcorns h cs.tail ws ++ rtip pn (wayv pm pn) h e (kind == 1) ++ (rcorns (-h) cs.tail ws).reverse ++ (rtip p0 (negD (wayv p0 p1)) h b (kind == 1)).take ((rtip p0 (negD (wayv p0 p1)) h b (kind == 1)).length - 1) := fun b e hbe => by
    unfold rplaces
    simp only [← hh, hbe, List.getD_eq_getElem?_getD, hp0, hw0, hwn1, show cs.length - 1 = ws.length by omega, hpn, Option.getD_some]
  have hm1 := rcorns_len h cs.tail ws hctl
  have hm2 := rcorns_len (-h) cs.tail ws hctl
  refine W.df [] 110 (decide (z < IntKind.i64.wrap ((cs.length : Int) - 1))) (by kernel_rfl) (decide_eq_false (by omega)) ?_
  refine W.cl [110] (by kernel_rfl) (s_frach width 2 h hh (by omega) (by omega) (by omega) (by omega)) ?_
  rintro _ _ ⟨S4, s4, R4, t4, rfl, rfl⟩
  refine W.cl [] (by kernel_rfl) (s_of 0 (by omega) (by omega)) ?_
  rintro _ _ ⟨S5, s5, R5, t5, rfl, rfl⟩
  refine W.cl [] (by kernel_rfl) (s_of 0 (by omega) (by omega)) ?_
  rintro _ _ ⟨S6, s6, R6, t6, rfl, rfl⟩
  refine W.dt [] 140 (kind == 2) (by kernel_rfl) (by rw [hk]; rfl) ?_
  refine W.df [140] 144 (kind == 4) (by kernel_rfl) (by rw [hk]; rfl) ?_
  have hpl := hplaces (h) (h) (by unfold endsOf; rw [if_pos hk])
  refine W.ia [144] 2 bc oc cs.length c1 .i64 0 0 rfl tbOk (by kernel_rfl) (by omega) ?_
  refine W.lds [] bc (oc + 0 * 2) (dpc p0) tbOk (by kernel_rfl) (RA.rdn bc oc (0 * 2) (dp_atq hp0)) ?_
  refine W.ia [] 2 bc oc cs.length c1 .i64 0 0 rfl tbOk (by kernel_rfl) (by omega) ?_
  refine W.lds [] bc (oc + 0 * 2) (dpc p0) tbOk (by kernel_rfl) (RA.rdn bc oc (0 * 2) (dp_atq hp0)) ?_
  refine W.ia [] 2 bc oc cs.length c1 .i64 1 1 rfl tbOk (by kernel_rfl) (by omega) ?_
  refine W.lds [] bc (oc + 1 * 2) (dpc p1) tbOk (by kernel_rfl) (RA.rdn bc oc (1 * 2) (dp_atq hp1)) ?_
  refine W.cl [] (by kernel_rfl) (r_way p0 p1 (hcr _ _ hp0) (hcr _ _ hp1) hne01) ?_
  rintro _ _ ⟨rfl, rfl⟩
  refine W.cl [] (by kernel_rfl) (r_dneg (wayv p0 p1) hw0i) ?_
  rintro _ _ ⟨rfl, rfl⟩
  refine W.cl [] (by kernel_rfl) (r_tipB p0 (negD (wayv p0 p1)) S4 s4 R4 t4 S4 s4 R4 t4 (h := h) (b := h) (kind == 1) hw0i.neg) ?_
  rintro _ _ ⟨bb, ob, cb, lb, rfl, hlb, hnb2, rfl⟩
  have hlbn := twn_len hnb2
  have hb00 := rtip_len p0 (negD (wayv p0 p1)) h (h) (kind == 1)
  obtain ⟨el, hel⟩ : ∃ el, lb[lb.length - 1]? = some el := ⟨_, List.getElem?_eq_getElem (by omega)⟩
  have hdl : (rtip p0 (negD (wayv p0 p1)) h (h) (kind == 1)).drop ((rtip p0 (negD (wayv p0 p1)) h (h) (kind == 1)).length - 1) = [el.num] := by
    obtain ⟨hk, rfl⟩ := List.getElem?_eq_some_iff.1 hel
    rw [← hlbn, ← hnb2, ← List.map_drop, List.drop_eq_getElem_cons hk, List.drop_eq_nil_of_le (by omega)]
    rfl
  refine W.ia [] 26 bb ob lb.length cb .i64 (lb.length - 1) (IntKind.i64.wrap ((lb.length : Int) - 1)) (by rw [IntKind.wrap_i64]; omega) tbOk (by kernel_rfl) (by omega) ?_
  refine W.lds [] bb (ob + (lb.length - 1) * 26) (twc el) tbOk (by kernel_rfl) (TL.toldq hel) ?_
  refine W.bs [] 1 (twc el) tbOk (by kernel_rfl) (fun B1 => ?_)
  refine W.lpo [] [20, 21] (fun a : TSt => [(20, a.v), (21, .int .i64 a.z)]) (fun _ => []) (fun a => a.O) (fun a => [OS TwR (20, a.l), RA a.ao a.ys, RA (some ⟨bc, oc, none⟩) (cs.flatMap dpc), PF S4 s4 R4 t4 (6, h), PF S4 s4 R4 t4 (6, h), OL TwR (some ⟨bb, ob, none⟩) (20, lb)]) (fun a => a.z = a.i ∧ 1 ≤ a.i ∧ a.i ≤ ws.length ∧ a.l.map TwE.num = [el.num] ++ (rcorns h cs.tail ws).take (a.i - 1) ∧ GrowZ 26 a.O a.v a.l.length (a.l.flatMap TwR.cells) a.ao a.ys) (fun a => ws.length - a.i) ⟨1, 1, .slice (some ⟨B1, 0, none⟩) 1 1, [], [el], some ⟨B1, 0, none⟩, twc el⟩ (by kernel_rfl) (by kernel_rfl) ⟨rfl, Nat.le_refl _, by simp only; omega, by simp only [Nat.sub_self, List.take_zero, List.append_nil]; rfl, .inl ⟨rfl, rfl, Nat.zero_lt_one, rfl, by simp [TwR]⟩⟩ (entC (entT1 (ao := some ⟨bb, ob, none⟩) hel) (entC entKR (entC entK (entC entK (entC entK (entC entK entE)))))) ?_
  rintro ⟨i, z1, v1, O1, l1, ao1, ys1⟩ K1 ⟨hz1, hi1', hi', hl1, hg1⟩ close1
  simp only at hz1 hi1' hi' hl1 hg1
  have hl1n := twn_len hl1
  rw [List.length_append, List.length_take, hm1] at hl1n
  simp only [List.length_cons, List.length_nil] at hl1n
  by_cases hlt1 : i < ws.length
  · obtain ⟨q0, g0⟩ := hcget (i - 1) (by omega)
    obtain ⟨q1, g1⟩ := hcget i (by omega)
    obtain ⟨q2, g2⟩ := hcget (i + 1) (by omega)
    obtain ⟨d, hd⟩ := hwget (i - 1) (by omega)
    obtain ⟨e, he⟩ := hwget i hlt1
    have he1 : ws[i - 1 + 1]? = some e := by rw [Nat.sub_add_cancel hi1']; exact he
    have hp1 : cs[i - 1 + 1]? = some q1 := by rw [Nat.sub_add_cancel hi1']; exact g1
    obtain ⟨n1, rfl⟩ := hfw.way _ _ _ _ g0 hp1 hd
    obtain ⟨n2, rfl⟩ := hfw.way _ _ _ _ g1 g2 he
    have hma := rcorns_at h cs.tail ws (i - 1) q1 _ _ (htl _ _ hp1) hd he1
    refine W.dt [] 174 (decide (z1 < IntKind.i64.wrap ((cs.length : Int) - 1))) (by kernel_rfl) (decide_eq_true (by omega)) ?_
    refine W.cl [174] (by kernel_rfl) (r_corner bc oc cs.length c1 cs i z1 hz1 S4 s4 R4 t4 (h := h) q0 q1 q2 (by omega) (by omega) (by omega) g0 g1 g2 (hcr _ _ g0) (hcr _ _ g1) (hcr _ _ g2) n1 n2) ?_
    rintro _ _ ⟨ec, rfl, hec, rfl⟩
    refine W.bs [] 1 (twc ec) tbOk (by kernel_rfl) (fun B2 => ?_)
    refine W.apz [] O1 26 336 l1.length 1 ao1 v1 (.slice (some ⟨B2, 0, none⟩) 1 1) (l1.flatMap TwR.cells) ys1 (twc ec) tbOk (by kernel_rfl) hg1 (by decide) (reads_row B2 O1 1 26 rfl 1) (two_one ec) (by omega) (by decide) (fun v' O' hg' => ?_)
    refine close1 [] _ _ ⟨i + 1, IntKind.i64.wrap (z1 + 1), v', O', l1 ++ [ec], none, []⟩ (by kernel_rfl) (by kernel_rfl) ⟨by simp only [IntKind.wrap_i64]; omega, by simp only; omega, hlt1, ?_, .inr ⟨?_, rfl, rfl⟩⟩ (by simp only; omega) (entC (entTs ec) (entC entRn (entC entK (entC entK (entC entK (entC entK entE))))))
    · simp only
      rw [List.map_append, hl1, Nat.add_sub_cancel, show i = i - 1 + 1 by omega, take_snoc hma, List.append_assoc, Nat.add_sub_cancel, ← hec]
      rfl
    · simp only [List.length_append, List.flatMap_append, List.length_cons, List.length_nil]
      exact Grow.cast (by simp [TwR]) rfl hg'
  obtain rfl : i = ws.length := by omega
  rw [List.take_of_length_le (by rw [hm1]; omega)] at hl1
  refine W.df [] 174 (decide (z1 < IntKind.i64.wrap ((cs.length : Int) - 1))) (by kernel_rfl) (decide_eq_false (by omega)) ?_
  refine W.ia [174] 2 bc oc cs.length c1 .i64 ws.length (IntKind.i64.wrap ((cs.length : Int) - 1)) (hnnd ▸ hnn) tbOk (by kernel_rfl) (by omega) ?_
  refine W.lds [] bc (oc + ws.length * 2) (dpc pn) tbOk (by kernel_rfl) (RA.rdn bc oc (ws.length * 2) (dp_atq hpn)) ?_
  refine W.ia [] 2 bc oc cs.length c1 .i64 (ws.length - 1) (IntKind.i64.wrap (IntKind.i64.wrap ((cs.length : Int) - 1) - 1)) (by rw [← hnnd, hnn, IntKind.wrap_i64]; omega) tbOk (by kernel_rfl) (by omega) ?_
  refine W.lds [] bc (oc + (ws.length - 1) * 2) (dpc pm) tbOk (by kernel_rfl) (RA.rdn bc oc ((ws.length - 1) * 2) (dp_atq hpm)) ?_
  refine W.ia [] 2 bc oc cs.length c1 .i64 ws.length (IntKind.i64.wrap ((cs.length : Int) - 1)) (hnnd ▸ hnn) tbOk (by kernel_rfl) (by omega) ?_
  refine W.lds [] bc (oc + ws.length * 2) (dpc pn) tbOk (by kernel_rfl) (RA.rdn bc oc (ws.length * 2) (dp_atq hpn)) ?_
  refine W.cl [] (by kernel_rfl) (r_way pm pn (hcr _ _ hpm) (hcr _ _ hpn) hnemn) ?_
  rintro _ _ ⟨rfl, rfl⟩
  refine W.cl [] (by kernel_rfl) (r_tipB pn (wayv pm pn) S4 s4 R4 t4 S4 s4 R4 t4 (h := h) (b := h) (kind == 1) hwni) ?_
  rintro _ _ ⟨bt, ot, ct, lt, rfl, hlt2, hnt, rfl⟩
  have hltn := twn_len hnt
  have hbnn := rtip_len pn (wayv pm pn) h (h) (kind == 1)
  refine W.apz [] O1 26 336 l1.length lt.length ao1 v1 (.slice (some ⟨bt, ot, none⟩) lt.length ct) (l1.flatMap TwR.cells) ys1 ((lt.take lt.length).flatMap TwR.cells) tbOk (by kernel_rfl) hg1 (by omega) (reads_tw bt ot O1 lt.length ct (Nat.le_refl _)) tws_one (by omega) (by decide) (fun v2 O2 hg2 => ?_)
  have hl2 : (l1 ++ lt).map TwE.num = [el.num] ++ rcorns h cs.tail ws ++ rtip pn (wayv pm pn) h (h) (kind == 1) := by rw [List.map_append, hl1, hnt]
  refine W.lpo [] [20, 22] (fun a : TSt => [(20, a.v), (22, .int .i64 a.z)]) (fun _ => []) (fun a => a.O) (fun a => [OS TwR (20, a.l), RA (some ⟨bc, oc, none⟩) (cs.flatMap dpc), PF S4 s4 R4 t4 (6, h), OL TwR (some ⟨bb, ob, none⟩) (20, lb)]) (fun a => a.z = a.i ∧ a.i ≤ ws.length - 1 ∧ a.l.map TwE.num = [el.num] ++ rcorns h cs.tail ws ++ rtip pn (wayv pm pn) h (h) (kind == 1) ++ ((rcorns (-h) cs.tail ws).drop a.i).reverse ∧ Grow 26 a.O a.v a.l.length (a.l.flatMap TwR.cells)) (fun a => a.i) ⟨ws.length - 1, IntKind.i64.wrap (IntKind.i64.wrap ((cs.length : Int) - 1) - 1), v2, O2, l1 ++ lt, none, []⟩ (by kernel_rfl) (by kernel_rfl) ⟨by simp only; rw [← hnnd, hnn, IntKind.wrap_i64]; omega, Nat.le_refl _, ?_, Grow.cast (by simp [List.flatMap_append]) (by simp) hg2⟩ (entC (entTa (l := l1) (l2 := lt) (ao := some ⟨bt, ot, none⟩)) (entC entK (entC entK (entC entK entE)))) ?_
  · simp only
    rw [hl2, List.drop_eq_nil_of_le (by rw [hm2]; exact Nat.le_refl _), List.reverse_nil, List.append_nil]
  rintro ⟨i, z3, v3, O3, l3, ao3, ys3⟩ K2 ⟨hz3, hi3, hl3, hg3⟩ close2
  simp only at hz3 hi3 hl3 hg3
  have hl3n := twn_len hl3
  simp only [List.length_append, List.length_reverse, List.length_drop, hm1, hm2, List.length_cons, List.length_nil] at hl3n
  cases i with
  | succ i =>
    obtain ⟨q0, g0⟩ := hcget i (by omega)
    obtain ⟨q1, g1⟩ := hcget (i + 1) (by omega)
    obtain ⟨q2, g2⟩ := hcget (i + 1 + 1) (by omega)
    obtain ⟨d, hd⟩ := hwget i (by omega)
    obtain ⟨e, he⟩ := hwget (i + 1) (by omega)
    obtain ⟨n1, rfl⟩ := hfw.way _ _ _ _ g0 g1 hd
    obtain ⟨n2, rfl⟩ := hfw.way _ _ _ _ g1 g2 he
    have hma := rcorns_at (-h) cs.tail ws i q1 _ _ (htl _ _ g1) hd he
    refine W.dt [] 208 (decide (z3 > 0)) (by kernel_rfl) (decide_eq_true (by omega)) ?_
    refine W.cl [208] (by kernel_rfl) (s_neg S4 s4 R4 t4) ?_
    rintro _ _ ⟨S9, s9, R9, t9, rfl, rfl⟩
    refine W.cl [] (by kernel_rfl) (r_corner bc oc cs.length c1 cs (i + 1) z3 hz3 S9 s9 R9 t9 (h := -h) q0 q1 q2 (by omega) (by omega) (by omega) g0 g1 g2 (hcr _ _ g0) (hcr _ _ g1) (hcr _ _ g2) n1 n2) ?_
    rintro _ _ ⟨ec, rfl, hec, rfl⟩
    refine W.bs [] 1 (twc ec) tbOk (by kernel_rfl) (fun B2 => ?_)
    refine W.app [] O3 [] O3 [] 26 336 l3.length 1 v3 (.slice (some ⟨B2, 0, none⟩) 1 1) (l3.flatMap TwR.cells) (twc ec) tbOk (by kernel_rfl) (by simp) hg3 (reads_row B2 O3 1 26 rfl 1) (two_one ec) (by omega) (by decide) (fun v' O' hg' => ?_)
    refine close2 [] _ _ ⟨i, IntKind.i64.wrap (z3 - 1), v', O', l3 ++ [ec], none, []⟩ (by kernel_rfl) (by simp only [List.nil_append, List.append_nil]; kernel_rfl) ⟨by simp only [IntKind.wrap_i64]; omega, by simp only; omega, ?_, ?_⟩ (by simp only; omega) (entC (entTs ec) (entC entK (entC entK (entC entK entE))))
    · simp only
      rw [List.map_append, hl3, drop_snoc hma, ← List.append_assoc, ← hec]
      rfl
    · simp only [List.length_append, List.flatMap_append, List.length_cons, List.length_nil]
      exact Grow.cast (by simp [TwR]) rfl hg'
  | zero =>
    rw [List.drop_zero] at hl3
    refine W.df [] 208 (decide (z3 > 0)) (by kernel_rfl) (decide_eq_false (by omega)) ?_
    refine W.slp [208] 26 bb ob (lb.length - 1) lb.length cb (IntKind.i64.wrap ((lb.length : Int) - 1)) (by rw [IntKind.wrap_i64]; omega) tbOk (by kernel_rfl) (by omega) (by omega) ?_
    refine W.app [] O3 [] O3 [] 26 336 l3.length (lb.length - 1) v3 (.slice (some ⟨bb, ob, none⟩) (lb.length - 1) cb) (l3.flatMap TwR.cells) ((lb.take (lb.length - 1)).flatMap TwR.cells) tbOk (by kernel_rfl) (by simp) hg3 (reads_tw bb ob O3 (lb.length - 1) cb (by omega)) tws_one (by omega) (by decide) (fun v' O' hg' => ?_)
    have hlen9 : (l3 ++ lb.take (lb.length - 1)).length = l3.length + (lb.length - 1) := by rw [List.length_append, List.length_take, Nat.min_eq_left (by omega)]
    have hg9 : Grow 26 O' v' (l3 ++ lb.take (lb.length - 1)).length ((l3 ++ lb.take (lb.length - 1)).flatMap TwR.cells) := Grow.cast (by rw [List.flatMap_append]) hlen9.symm hg'
    obtain ⟨g9, cap9, cur9, hv9, hO9, _⟩ := hg9.own (by omega)
    subst hv9 hO9
    refine W.pubgr (by simp only [List.nil_append, List.append_nil]; kernel_rfl) hg9 (by kernel_rfl) (fun ao c' hv hc' => ?_)
    injection hv with hv1 _ hv3
    subst hv1 hv3
    refine W.more (by kernel_rfl) (entC (entTt (ao := some ⟨bb, ob, none⟩) (r := lb.length - 1) (l := l3) (l2 := lb)) entE) ?_
    refine W.r [] (.tuple #[.slice (some ⟨g9, 0, none⟩) (l3 ++ lb.take (lb.length - 1)).length cap9, .int .i64 0]) (by kernel_rfl) (.inr ⟨hoe, g9, 0, cap9, l3 ++ lb.take (lb.length - 1), rfl, hc', ?_, rfl⟩) (entC (fun I w hd hh => ⟨fun e he => (Has.p (k := OS TwR) (a := (20, l3 ++ lb.take (lb.length - 1))) inferInstance hh) e he, Has.p (k := RA (some ⟨g9, 0, none⟩)) inferInstance hh⟩) entE)
    rw [← hcs, ← hws, hpl, List.map_append, hl3, hdl, ← hlbn, ← hnb2, List.map_take]
set_option maxHeartbeats 4000000 in
theorem r_of4 (ao : Option Addr) (n c : Nat) (pts : List Dp) (width kind bg en : Int) [Has (RA ao) (pts.flatMap dpc) Γ] (hn : n = pts.length) (ha : 0 < n → ∃ b off, ao = some ⟨b, off, none⟩) (hlong : ¬ 8191 < pts.length) (hk : kind = 4) :
    PCalls tb Tryz.prog 6 [.slice ao n c, .int .i64 width, .int .i64 kind, .int .i64 bg, .int .i64 en] Γ (RfPost pts width kind bg en) := by
  obtain ⟨cs, hcs⟩ : ∃ cs, cs = (corn pts).1.reverse := ⟨_, rfl⟩
  obtain ⟨ws, hws⟩ : ∃ ws, ws = (corn pts).2.reverse := ⟨_, rfl⟩
  have hcl : (corn pts).1.length = cs.length := by rw [hcs, List.length_reverse]
  have hok : CornOk (corn pts).1 (corn pts).2 := corn_ok pts ([], []) rfl
  have hbad : argBad width kind bg en = true → RfPost pts width kind bg en (.tuple #[.slice none 0 0, .int .i64 1]) [] := fun h => .inl ⟨by rw [oerr_arg hlong h]; decide, by rw [oerr_arg hlong h], rfl⟩
  refine PCalls.of_W tbOk Tryz.func6 rfl (by kernel_rfl) ?_
  refine W.df [] 25 (decide ((n : Int) > 8191)) (by kernel_rfl) (decide_eq_false (by omega)) ?_
  refine W.dt [25] 28 (kind != 0) (by kernel_rfl) (by rw [hk]; rfl) ?_
  refine W.dt [28] 32 (kind != 1) (by kernel_rfl) (by rw [hk]; rfl) ?_
  refine W.dt [32] 36 (kind != 2) (by kernel_rfl) (by rw [hk]; rfl) ?_
  refine W.df [36] 40 (kind != 4) (by kernel_rfl) (by rw [hk]; rfl) ?_
  refine W.d [40] 44 (decide (width < 1)) (by kernel_rfl) (fun h1 => ?_) (fun h1 => ?_)
  · exact W.r [63, 60, 56, 52, 48, 44] (.tuple #[.slice none 0 0, .int .i64 1]) (by kernel_rfl) (hbad (by rw [argBad_eq, h1]; simp)) ent0
  refine W.d [44] 48 (decide (width > 2147483647)) (by kernel_rfl) (fun h2 => ?_) (fun h2 => ?_)
  · exact W.r [63, 60, 56, 52, 48] (.tuple #[.slice none 0 0, .int .i64 1]) (by kernel_rfl) (hbad (by rw [argBad_eq, h2]; simp)) ent0
  refine W.d [48] 52 (decide (bg < -2147483647)) (by kernel_rfl) (fun h3 => ?_) (fun h3 => ?_)
  · exact W.r [63, 60, 56, 52] (.tuple #[.slice none 0 0, .int .i64 1]) (by kernel_rfl) (hbad (by rw [argBad_eq, h3]; simp)) ent0
  refine W.d [52] 56 (decide (bg > 2147483647)) (by kernel_rfl) (fun h4 => ?_) (fun h4 => ?_)
  · exact W.r [63, 60, 56] (.tuple #[.slice none 0 0, .int .i64 1]) (by kernel_rfl) (hbad (by rw [argBad_eq, h4]; simp)) ent0
  refine W.d [56] 60 (decide (en < -2147483647)) (by kernel_rfl) (fun h5 => ?_) (fun h5 => ?_)
  · exact W.r [63, 60] (.tuple #[.slice none 0 0, .int .i64 1]) (by kernel_rfl) (hbad (by rw [argBad_eq, h5]; simp)) ent0
  refine W.d [60] 63 (decide (en > 2147483647)) (by kernel_rfl) (fun h6 => ?_) (fun h6 => ?_)
  · exact W.r [63] (.tuple #[.slice none 0 0, .int .i64 1]) (by kernel_rfl) (hbad (by rw [argBad_eq, h6]; simp)) ent0
  have k1 := of_decide_eq_false h1
  have k2 := of_decide_eq_false h2
  have k3 := of_decide_eq_false h3
  have k4 := of_decide_eq_false h4
  have k5 := of_decide_eq_false h5
  have k6 := of_decide_eq_false h6
  have hgd : argBad width kind bg en = false := argBad_good.2 (by omega)
  clear hbad
  have hga : ¬ argBad width kind bg en = true := by rw [hgd]; decide
  refine W.lp [63] [12] (fun a : Nat × Int => [(12, .int .i64 a.2)]) (fun _ => []) (fun _ => [RA ao (pts.flatMap dpc)]) (fun a => a.2 = a.1 ∧ a.1 ≤ n ∧ ∀ i (h : i < pts.length), i < a.1 → outP (pts[i]'h) = false) (fun a => n - a.1) (0, 0) (by kernel_rfl) (by kernel_rfl) ⟨rfl, Nat.zero_le _, fun i _ h => by omega⟩ entRA' ?_
  rintro ⟨i, z⟩ K ⟨hz, hi, hall⟩ close
  simp only at hz hi hall
  by_cases hlt : i < n
  · have hil : i < pts.length := by omega
    have hg : pts[i]? = some (pts[i]'hil) := List.getElem?_eq_getElem hil
    have hmem := List.getElem_mem hil
    have hnext : outP (pts[i]'hil) = false → ∀ j (h : j < pts.length), j < i + 1 → outP (pts[j]'h) = false := fun ho j h hj => by
      by_cases hji : j < i
      · exact hall j h hji
      · obtain rfl : j = i := by omega
        exact ho
    generalize hp : pts[i]'hil = p at *
    have hfar : outP p = true → RfPost pts width kind bg en (.tuple #[.slice none 0 0, .int .i64 26]) [] := fun h => by
      have h7 : pts.any outP = true := List.any_eq_true.2 ⟨p, hmem, h⟩
      have he : oerr pts width kind bg en = 26 := by unfold oerr; rw [if_neg hlong, if_neg hga, if_pos h7]
      exact .inl ⟨by rw [he]; decide, by rw [he], rfl⟩
    have hop : outP p = ((decide (p.x < -2147483648) || decide (p.x > 2147483647)) || (decide (p.y < -2147483648) || decide (p.y > 2147483647))) := rfl
    obtain ⟨ba, of, e⟩ := ha (by omega)
    subst e
    refine W.dt [] 67 (decide (z < (n : Int))) (by kernel_rfl) (decide_eq_true (by omega)) ?_
    refine W.ia [67] 2 ba of n c .i64 i z hz tbOk (by kernel_rfl) hlt ?_
    refine W.fa [] 0 ba (of + i * 2) tbOk (by kernel_rfl) ?_
    refine W.ld [] 1 ba (of + i * 2 + 0) (.int .i64 p.x) tbOk (by kernel_rfl) (fun I w hI hh => RA.rdn ba of (i * 2) (dp_atq hg) I w hI hh 0 _ rfl) ?_
    refine W.d [] 76 (decide (p.x < -2147483648)) (by kernel_rfl) (fun g0 => ?_) (fun g0 => ?_)
    · exact W.r [99, 92, 84, 76] (.tuple #[.slice none 0 0, .int .i64 26]) (by kernel_rfl) (hfar (by rw [hop, g0]; simp)) ent0
    refine W.ia [76] 2 ba of n c .i64 i z hz tbOk (by kernel_rfl) hlt ?_
    refine W.fa [76] 0 ba (of + i * 2) tbOk (by kernel_rfl) ?_
    refine W.ld [76] 1 ba (of + i * 2 + 0) (.int .i64 p.x) tbOk (by kernel_rfl) (fun I w hI hh => RA.rdn ba of (i * 2) (dp_atq hg) I w hI hh 0 _ rfl) ?_
    refine W.d [76] 84 (decide (p.x > 2147483647)) (by kernel_rfl) (fun g1 => ?_) (fun g1 => ?_)
    · exact W.r [99, 92, 84] (.tuple #[.slice none 0 0, .int .i64 26]) (by kernel_rfl) (hfar (by rw [hop, g1]; simp)) ent0
    refine W.ia [84] 2 ba of n c .i64 i z hz tbOk (by kernel_rfl) hlt ?_
    refine W.fa [84] 1 ba (of + i * 2) tbOk (by kernel_rfl) ?_
    refine W.ld [84] 1 ba (of + i * 2 + 1) (.int .i64 p.y) tbOk (by kernel_rfl) (fun I w hI hh => RA.rdn ba of (i * 2) (dp_atq hg) I w hI hh 1 _ rfl) ?_
    refine W.d [84] 92 (decide (p.y < -2147483648)) (by kernel_rfl) (fun g2 => ?_) (fun g2 => ?_)
    · exact W.r [99, 92] (.tuple #[.slice none 0 0, .int .i64 26]) (by kernel_rfl) (hfar (by rw [hop, g2]; simp)) ent0
    refine W.ia [92] 2 ba of n c .i64 i z hz tbOk (by kernel_rfl) hlt ?_
    refine W.fa [92] 1 ba (of + i * 2) tbOk (by kernel_rfl) ?_
    refine W.ld [92] 1 ba (of + i * 2 + 1) (.int .i64 p.y) tbOk (by kernel_rfl) (fun I w hI hh => RA.rdn ba of (i * 2) (dp_atq hg) I w hI hh 1 _ rfl) ?_
    refine W.d [92] 99 (decide (p.y > 2147483647)) (by kernel_rfl) (fun g3 => ?_) (fun g3 => ?_)
    · exact W.r [99] (.tuple #[.slice none 0 0, .int .i64 26]) (by kernel_rfl) (hfar (by rw [hop, g3]; simp)) ent0
    exact close [99] _ _ (i + 1, IntKind.i64.wrap (z + 1)) (by kernel_rfl) (by kernel_rfl) ⟨by simp only [IntKind.wrap_i64]; omega, hlt, hnext (by rw [hop, g0, g1, g2, g3]; rfl)⟩ (by simp only; omega) entRA'
  have h7 : pts.any outP = false := any_take (fun j hj => hall j hj (by omega))
  have hg7 : ¬ pts.any outP = true := by rw [h7]; decide
  have hin := in_of h7
  refine W.df [] 67 (decide (z < (n : Int))) (by kernel_rfl) (decide_eq_false (by omega)) ?_
  refine W.cl [67] (by kernel_rfl) (r_cornF ao n c pts cs hcs hn (by omega) ha hin) ?_
  rintro _ _ ⟨a1, c1, rfl, rfl⟩
  by_cases hfew : cs.length < 2
  · refine W.dt [] 104 (decide ((cs.length : Int) < 2)) (by kernel_rfl) (decide_eq_true (by omega)) ?_
    have he : oerr pts width kind bg en = 7 := by unfold oerr; rw [if_neg hlong, if_neg hga, if_neg hg7, hcl, if_pos hfew]
    exact W.r [104] (.tuple #[.slice none 0 0, .int .i64 7]) (by kernel_rfl) (.inl ⟨by rw [he]; decide, by rw [he], rfl⟩) ent0
  have hfew' : ¬ (corn pts).1.length < 2 := by omega
  have hfw : FwOk cs ws := by
    rw [hcs, hws]
    exact fw_ok hok (by intro e; rw [e] at hfew'; simp at hfew')
  have hmem : ∀ p ∈ cs, inD 2147483648 p := fun p hp => by
    have := corn_mem pts ([], []) (Q := fun _ => False) (fun q hq => absurd hq (by simp)) p (by rw [hcs] at hp; exact List.mem_reverse.1 hp)
    exact hin p (by simpa using this)
  have hlen := hfw.len
  have hcmax : cs.length ≤ 8191 := by
    have := corn_len pts ([], [])
    simp only [List.length_nil, Nat.zero_add] at this
    have h9 : (corn pts).1.length ≤ pts.length := this
    omega
  have hbk : backs (corn pts).2 = true ↔ ∃ (i : Nat) (d e : Dp), ws[i]? = some d ∧ ws[i + 1]? = some e ∧ e = negD d := by
    rw [hws]
    exact back_fw _
  have hwget : ∀ i, i < ws.length → ∃ d, ws[i]? = some d := fun i hi => ⟨_, List.getElem?_eq_getElem hi⟩
  have hcget : ∀ i, i < cs.length → ∃ d, cs[i]? = some d := fun i hi => ⟨_, List.getElem?_eq_getElem hi⟩
  have hcr : ∀ (i : Nat) (p : Dp), cs[i]? = some p → inD 2147483648 p := fun i p hp => by
    obtain ⟨_, rfl⟩ := List.getElem?_eq_some_iff.1 hp
    exact hmem _ (List.getElem_mem _)
  have hcn : cs.flatMap dpc ≠ [] := by intro e; have := dp_len cs; rw [e] at this; simp at this; omega
  refine W.df [] 104 (decide ((cs.length : Int) < 2)) (by kernel_rfl) (decide_eq_false (by omega)) ?_
  refine W.ra a1 (by kernel_rfl) hcn (fun bc oc e => ?_)
  subst e
  obtain ⟨nn, hnnd⟩ : ∃ nn, nn = IntKind.i64.wrap ((cs.length : Int) - 1) := ⟨_, rfl⟩
  have hnn : nn = (ws.length : Int) := by rw [hnnd, IntKind.wrap_i64]; omega
  refine W.lp [104] [15] (fun a : Nat × Int => [(15, .int .i64 a.2)]) (fun _ => []) (fun _ => [RA (some ⟨bc, oc, none⟩) (cs.flatMap dpc)]) (fun a => a.2 = a.1 ∧ 1 ≤ a.1 ∧ a.1 ≤ ws.length ∧ ∀ (j : Nat) (d e : Dp), j + 1 < a.1 → ws[j]? = some d → ws[j + 1]? = some e → e ≠ negD d) (fun a => ws.length - a.1) (1, 1) (by kernel_rfl) (by kernel_rfl) ⟨rfl, Nat.le_refl _, by simp only; omega, fun j d e h => by simp only at h; omega⟩ (entC entK entE) ?_
  rintro ⟨i, z⟩ K ⟨hz, hi1, hi, hall⟩ close
  simp only at hz hi1 hi hall
  by_cases hlt : i < ws.length
  · obtain ⟨q0, g0⟩ := hcget (i - 1) (by omega)
    obtain ⟨q1, g1⟩ := hcget i (by omega)
    obtain ⟨q2, g2⟩ := hcget (i + 1) (by omega)
    obtain ⟨d, hd⟩ := hwget (i - 1) (by omega)
    obtain ⟨e, he⟩ := hwget i hlt
    have hp1 : cs[i - 1 + 1]? = some q1 := by rw [Nat.sub_add_cancel hi1]; exact g1
    have he1 : ws[i - 1 + 1]? = some e := by rw [Nat.sub_add_cancel hi1]; exact he
    obtain ⟨n1, hdw⟩ := hfw.way _ _ _ _ g0 hp1 hd
    obtain ⟨n2, hew⟩ := hfw.way _ _ _ _ g1 g2 he
    refine W.dt [] 110 (decide (z < IntKind.i64.wrap ((cs.length : Int) - 1))) (by kernel_rfl) (decide_eq_true (by omega)) ?_
    refine W.ia [110] 2 bc oc cs.length c1 .i64 (i - 1) (IntKind.i64.wrap (z - 1)) (by rw [IntKind.wrap_i64]; omega) tbOk (by kernel_rfl) (by omega) ?_
    refine W.lds [] bc (oc + (i - 1) * 2) (dpc q0) tbOk (by kernel_rfl) (RA.rdn bc oc ((i - 1) * 2) (dp_atq g0)) ?_
    refine W.ia [] 2 bc oc cs.length c1 .i64 i z hz tbOk (by kernel_rfl) (by omega) ?_
    refine W.lds [] bc (oc + i * 2) (dpc q1) tbOk (by kernel_rfl) (RA.rdn bc oc (i * 2) (dp_atq g1)) ?_
    refine W.ia [] 2 bc oc cs.length c1 .i64 i z hz tbOk (by kernel_rfl) (by omega) ?_
    refine W.lds [] bc (oc + i * 2) (dpc q1) tbOk (by kernel_rfl) (RA.rdn bc oc (i * 2) (dp_atq g1)) ?_
    refine W.ia [] 2 bc oc cs.length c1 .i64 (i + 1) (IntKind.i64.wrap (z + 1)) (by rw [IntKind.wrap_i64]; omega) tbOk (by kernel_rfl) (by omega) ?_
    refine W.lds [] bc (oc + (i + 1) * 2) (dpc q2) tbOk (by kernel_rfl) (RA.rdn bc oc ((i + 1) * 2) (dp_atq g2)) ?_
    refine W.cl [] (by kernel_rfl) (r_way q0 q1 (hcr _ _ g0) (hcr _ _ g1) n1) ?_
    rintro _ _ ⟨rfl, rfl⟩
    refine W.cl [] (by kernel_rfl) (r_way q1 q2 (hcr _ _ g1) (hcr _ _ g2) n2) ?_
    rintro _ _ ⟨rfl, rfl⟩
    refine W.cl [] (by kernel_rfl) (r_dneg (wayv q1 q2) (way_in (hcr _ _ g1) (hcr _ _ g2) n2)) ?_
    rintro _ _ ⟨rfl, rfl⟩
    refine W.eqp [] 35 (wayv q0 q1) (negD (wayv q1 q2)) (by kernel_rfl) (by kernel_rfl) (by kernel_rfl) ?_
    by_cases hde : wayv q0 q1 = negD (wayv q1 q2)
    · refine W.dt [] 134 (decide (wayv q0 q1 = negD (wayv q1 q2))) (by kernel_rfl) (decide_eq_true hde) ?_
      have hb : backs (corn pts).2 = true := hbk.2 ⟨i - 1, d, e, hd, he1, by rw [hdw, hew]; exact negD_neg.1 hde⟩
      have he : oerr pts width kind bg en = 25 := by unfold oerr; rw [if_neg hlong, if_neg hga, if_neg hg7, if_neg hfew', if_pos hb]
      exact W.r [134] (.tuple #[.slice none 0 0, .int .i64 25]) (by kernel_rfl) (.inl ⟨by rw [he]; decide, by rw [he], rfl⟩) ent0
    · refine W.df [] 134 (decide (wayv q0 q1 = negD (wayv q1 q2))) (by kernel_rfl) (decide_eq_false hde) ?_
      refine close [134] _ _ (i + 1, IntKind.i64.wrap (z + 1)) (by kernel_rfl) (by kernel_rfl) ⟨by simp only [IntKind.wrap_i64]; omega, by simp only; omega, hlt, fun j d' e' hj hd' he' => ?_⟩ (by simp only; omega) (entC entK entE)
      by_cases hji : j + 1 < i
      · exact hall j d' e' hji hd' he'
      · obtain rfl : j = i - 1 := by simp only at hj; omega
        rw [hd] at hd'
        rw [he1] at he'
        injection hd' with hd'
        injection he' with he'
        subst hd' he'
        rw [hdw, hew]
        exact fun h => hde (negD_neg.2 h)
  obtain rfl : i = ws.length := by omega
  have hnb : ¬ backs (corn pts).2 = true := by
    rw [hbk]
    rintro ⟨j, d, e, hd, he, hn⟩
    exact hall j d e (List.getElem?_eq_some_iff.1 he).1 hd he hn
  have hoe : oerr pts width kind bg en = 0 := by unfold oerr; rw [if_neg hlong, if_neg hga, if_neg hg7, if_neg hfew', if_neg hnb]
  have htl : ∀ (i : Nat) (p : Dp), cs[i + 1]? = some p → cs.tail[i]? = some p := fun i p hp => by rw [List.getElem?_tail]; exact hp
  have hctl : cs.tail.length = ws.length := by rw [List.length_tail]; omega
  obtain ⟨p0, hp0⟩ := hcget 0 (by omega)
  obtain ⟨p1, hp1⟩ := hcget 1 (by omega)
  obtain ⟨w0, hw0⟩ := hwget 0 (by omega)
  obtain ⟨pn, hpn⟩ := hcget ws.length (by omega)
  obtain ⟨pm, hpm⟩ := hcget (ws.length - 1) (by omega)
  obtain ⟨wn, hwn1⟩ := hwget (ws.length - 1) (by omega)
  obtain ⟨hne01, hw0e⟩ := hfw.way _ _ _ _ hp0 hp1 hw0
  obtain ⟨hnemn, hwne⟩ := hfw.way _ _ _ _ hpm (by rw [Nat.sub_add_cancel (by omega)]; exact hpn) hwn1
  subst hw0e hwne
  have hw0i := way_in (hcr _ _ hp0) (hcr _ _ hp1) hne01
  have hwni := way_in (hcr _ _ hpm) (hcr _ _ hpn) hnemn
  obtain ⟨h, hh⟩ : ∃ h, h = Rat.divInt width 2 := ⟨_, rfl⟩
  have hplaces : ∀ b e, endsOf kind bg en h = (b, e) → rplaces cs ws width kind bg en = (rtip p0 (negD (wayv p0 p1)) h b (kind == 1)).drop ((rtip p0 (negD (wayv p0 p1)) h b (kind == 1)).length - 1) ++ rcorns h cs.tail ws ++ rtip pn (wayv pm pn) h e (kind == 1) ++ (rcorns (-h) cs.tail ws).reverse ++ (rtip p0 (negD (wayv p0 p1)) h b (kind == 1)).take ((rtip p0 (negD (wayv p0 p1)) h b (kind == 1)).length - 1) := fun b e hbe => by
    unfold rplaces
    simp only [← hh, hbe, List.getD_eq_getElem?_getD, hp0, hw0, hwn1, show cs.length - 1 = ws.length by omega, hpn, Option.getD_some]
  have hm1 := rcorns_len h cs.tail ws hctl
  have hm2 := rcorns_len (-h) cs.tail ws hctl
  refine W.df [] 110 (decide (z < IntKind.i64.wrap ((cs.length : Int) - 1))) (by kernel_rfl) (decide_eq_false (by omega)) ?_
  refine W.cl [110] (by kernel_rfl) (s_frach width 2 h hh (by omega) (by omega) (by omega) (by omega)) ?_
  rintro _ _ ⟨S4, s4, R4, t4, rfl, rfl⟩
  refine W.cl [] (by kernel_rfl) (s_of 0 (by omega) (by omega)) ?_
  rintro _ _ ⟨S5, s5, R5, t5, rfl, rfl⟩
  refine W.cl [] (by kernel_rfl) (s_of 0 (by omega) (by omega)) ?_
  rintro _ _ ⟨S6, s6, R6, t6, rfl, rfl⟩
  refine W.df [] 140 (kind == 2) (by kernel_rfl) (by rw [hk]; rfl) ?_
  refine W.dt [140] 144 (kind == 4) (by kernel_rfl) (by rw [hk]; rfl) ?_
  refine W.cl [144] (by kernel_rfl) (s_of bg (by omega) (by omega)) ?_
  rintro _ _ ⟨S7, s7, R7, t7, rfl, rfl⟩
  refine W.cl [] (by kernel_rfl) (s_of en (by omega) (by omega)) ?_
  rintro _ _ ⟨S8, s8, R8, t8, rfl, rfl⟩
  have hpl := hplaces (((bg : Int) : Rat)) (((en : Int) : Rat)) (by unfold endsOf; rw [if_neg (by omega), if_pos hk])
  refine W.ia [] 2 bc oc cs.length c1 .i64 0 0 rfl tbOk (by kernel_rfl) (by omega) ?_
  refine W.lds [] bc (oc + 0 * 2) (dpc p0) tbOk (by kernel_rfl) (RA.rdn bc oc (0 * 2) (dp_atq hp0)) ?_
  refine W.ia [] 2 bc oc cs.length c1 .i64 0 0 rfl tbOk (by kernel_rfl) (by omega) ?_
  refine W.lds [] bc (oc + 0 * 2) (dpc p0) tbOk (by kernel_rfl) (RA.rdn bc oc (0 * 2) (dp_atq hp0)) ?_
  refine W.ia [] 2 bc oc cs.length c1 .i64 1 1 rfl tbOk (by kernel_rfl) (by omega) ?_
  refine W.lds [] bc (oc + 1 * 2) (dpc p1) tbOk (by kernel_rfl) (RA.rdn bc oc (1 * 2) (dp_atq hp1)) ?_
  refine W.cl [] (by kernel_rfl) (r_way p0 p1 (hcr _ _ hp0) (hcr _ _ hp1) hne01) ?_
  rintro _ _ ⟨rfl, rfl⟩
  refine W.cl [] (by kernel_rfl) (r_dneg (wayv p0 p1) hw0i) ?_
  rintro _ _ ⟨rfl, rfl⟩
  refine W.cl [] (by kernel_rfl) (r_tipB p0 (negD (wayv p0 p1)) S4 s4 R4 t4 S7 s7 R7 t7 (h := h) (b := ((bg : Int) : Rat)) (kind == 1) hw0i.neg) ?_
  rintro _ _ ⟨bb, ob, cb, lb, rfl, hlb, hnb2, rfl⟩
  have hlbn := twn_len hnb2
  have hb00 := rtip_len p0 (negD (wayv p0 p1)) h (((bg : Int) : Rat)) (kind == 1)
  obtain ⟨el, hel⟩ : ∃ el, lb[lb.length - 1]? = some el := ⟨_, List.getElem?_eq_getElem (by omega)⟩
  have hdl : (rtip p0 (negD (wayv p0 p1)) h (((bg : Int) : Rat)) (kind == 1)).drop ((rtip p0 (negD (wayv p0 p1)) h (((bg : Int) : Rat)) (kind == 1)).length - 1) = [el.num] := by
    obtain ⟨hk, rfl⟩ := List.getElem?_eq_some_iff.1 hel
    rw [← hlbn, ← hnb2, ← List.map_drop, List.drop_eq_getElem_cons hk, List.drop_eq_nil_of_le (by omega)]
    rfl
  refine W.ia [] 26 bb ob lb.length cb .i64 (lb.length - 1) (IntKind.i64.wrap ((lb.length : Int) - 1)) (by rw [IntKind.wrap_i64]; omega) tbOk (by kernel_rfl) (by omega) ?_
  refine W.lds [] bb (ob + (lb.length - 1) * 26) (twc el) tbOk (by kernel_rfl) (TL.toldq hel) ?_
  refine W.bs [] 1 (twc el) tbOk (by kernel_rfl) (fun B1 => ?_)
  refine W.lpo [] [20, 21] (fun a : TSt => [(20, a.v), (21, .int .i64 a.z)]) (fun _ => []) (fun a => a.O) (fun a => [OS TwR (20, a.l), RA a.ao a.ys, RA (some ⟨bc, oc, none⟩) (cs.flatMap dpc), PF S4 s4 R4 t4 (6, h), PF S8 s8 R8 t8 (6, ((en : Int) : Rat)), OL TwR (some ⟨bb, ob, none⟩) (20, lb)]) (fun a => a.z = a.i ∧ 1 ≤ a.i ∧ a.i ≤ ws.length ∧ a.l.map TwE.num = [el.num] ++ (rcorns h cs.tail ws).take (a.i - 1) ∧ GrowZ 26 a.O a.v a.l.length (a.l.flatMap TwR.cells) a.ao a.ys) (fun a => ws.length - a.i) ⟨1, 1, .slice (some ⟨B1, 0, none⟩) 1 1, [], [el], some ⟨B1, 0, none⟩, twc el⟩ (by kernel_rfl) (by kernel_rfl) ⟨rfl, Nat.le_refl _, by simp only; omega, by simp only [Nat.sub_self, List.take_zero, List.append_nil]; rfl, .inl ⟨rfl, rfl, Nat.zero_lt_one, rfl, by simp [TwR]⟩⟩ (entC (entT1 (ao := some ⟨bb, ob, none⟩) hel) (entC entKR (entC entK (entC entK (entC entK (entC entK entE)))))) ?_
  rintro ⟨i, z1, v1, O1, l1, ao1, ys1⟩ K1 ⟨hz1, hi1', hi', hl1, hg1⟩ close1
  simp only at hz1 hi1' hi' hl1 hg1
  have hl1n := twn_len hl1
  rw [List.length_append, List.length_take, hm1] at hl1n
  simp only [List.length_cons, List.length_nil] at hl1n
  by_cases hlt1 : i < ws.length
  · obtain ⟨q0, g0⟩ := hcget (i - 1) (by omega)
    obtain ⟨q1, g1⟩ := hcget i (by omega)
    obtain ⟨q2, g2⟩ := hcget (i + 1) (by omega)
    obtain ⟨d, hd⟩ := hwget (i - 1) (by omega)
    obtain ⟨e, he⟩ := hwget i hlt1
    have he1 : ws[i - 1 + 1]? = some e := by rw [Nat.sub_add_cancel hi1']; exact he
    have hp1 : cs[i - 1 + 1]? = some q1 := by rw [Nat.sub_add_cancel hi1']; exact g1
    obtain ⟨n1, rfl⟩ := hfw.way _ _ _ _ g0 hp1 hd
    obtain ⟨n2, rfl⟩ := hfw.way _ _ _ _ g1 g2 he
    have hma := rcorns_at h cs.tail ws (i - 1) q1 _ _ (htl _ _ hp1) hd he1
    refine W.dt [] 174 (decide (z1 < IntKind.i64.wrap ((cs.length : Int) - 1))) (by kernel_rfl) (decide_eq_true (by omega)) ?_
    refine W.cl [174] (by kernel_rfl) (r_corner bc oc cs.length c1 cs i z1 hz1 S4 s4 R4 t4 (h := h) q0 q1 q2 (by omega) (by omega) (by omega) g0 g1 g2 (hcr _ _ g0) (hcr _ _ g1) (hcr _ _ g2) n1 n2) ?_
    rintro _ _ ⟨ec, rfl, hec, rfl⟩
    refine W.bs [] 1 (twc ec) tbOk (by kernel_rfl) (fun B2 => ?_)
    refine W.apz [] O1 26 336 l1.length 1 ao1 v1 (.slice (some ⟨B2, 0, none⟩) 1 1) (l1.flatMap TwR.cells) ys1 (twc ec) tbOk (by kernel_rfl) hg1 (by decide) (reads_row B2 O1 1 26 rfl 1) (two_one ec) (by omega) (by decide) (fun v' O' hg' => ?_)
    refine close1 [] _ _ ⟨i + 1, IntKind.i64.wrap (z1 + 1), v', O', l1 ++ [ec], none, []⟩ (by kernel_rfl) (by kernel_rfl) ⟨by simp only [IntKind.wrap_i64]; omega, by simp only; omega, hlt1, ?_, .inr ⟨?_, rfl, rfl⟩⟩ (by simp only; omega) (entC (entTs ec) (entC entRn (entC entK (entC entK (entC entK (entC entK entE))))))
    · simp only
      rw [List.map_append, hl1, Nat.add_sub_cancel, show i = i - 1 + 1 by omega, take_snoc hma, List.append_assoc, Nat.add_sub_cancel, ← hec]
      rfl
    · simp only [List.length_append, List.flatMap_append, List.length_cons, List.length_nil]
      exact Grow.cast (by simp [TwR]) rfl hg'
  obtain rfl : i = ws.length := by omega
  rw [List.take_of_length_le (by rw [hm1]; omega)] at hl1
  refine W.df [] 174 (decide (z1 < IntKind.i64.wrap ((cs.length : Int) - 1))) (by kernel_rfl) (decide_eq_false (by omega)) ?_
  refine W.ia [174] 2 bc oc cs.length c1 .i64 ws.length (IntKind.i64.wrap ((cs.length : Int) - 1)) (hnnd ▸ hnn) tbOk (by kernel_rfl) (by omega) ?_
  refine W.lds [] bc (oc + ws.length * 2) (dpc pn) tbOk (by kernel_rfl) (RA.rdn bc oc (ws.length * 2) (dp_atq hpn)) ?_
  refine W.ia [] 2 bc oc cs.length c1 .i64 (ws.length - 1) (IntKind.i64.wrap (IntKind.i64.wrap ((cs.length : Int) - 1) - 1)) (by rw [← hnnd, hnn, IntKind.wrap_i64]; omega) tbOk (by kernel_rfl) (by omega) ?_
  refine W.lds [] bc (oc + (ws.length - 1) * 2) (dpc pm) tbOk (by kernel_rfl) (RA.rdn bc oc ((ws.length - 1) * 2) (dp_atq hpm)) ?_
  refine W.ia [] 2 bc oc cs.length c1 .i64 ws.length (IntKind.i64.wrap ((cs.length : Int) - 1)) (hnnd ▸ hnn) tbOk (by kernel_rfl) (by omega) ?_
  refine W.lds [] bc (oc + ws.length * 2) (dpc pn) tbOk (by kernel_rfl) (RA.rdn bc oc (ws.length * 2) (dp_atq hpn)) ?_
  refine W.cl [] (by kernel_rfl) (r_way pm pn (hcr _ _ hpm) (hcr _ _ hpn) hnemn) ?_
  rintro _ _ ⟨rfl, rfl⟩
  refine W.cl [] (by kernel_rfl) (r_tipB pn (wayv pm pn) S4 s4 R4 t4 S8 s8 R8 t8 (h := h) (b := ((en : Int) : Rat)) (kind == 1) hwni) ?_
  rintro _ _ ⟨bt, ot, ct, lt, rfl, hlt2, hnt, rfl⟩
  have hltn := twn_len hnt
  have hbnn := rtip_len pn (wayv pm pn) h (((en : Int) : Rat)) (kind == 1)
  refine W.apz [] O1 26 336 l1.length lt.length ao1 v1 (.slice (some ⟨bt, ot, none⟩) lt.length ct) (l1.flatMap TwR.cells) ys1 ((lt.take lt.length).flatMap TwR.cells) tbOk (by kernel_rfl) hg1 (by omega) (reads_tw bt ot O1 lt.length ct (Nat.le_refl _)) tws_one (by omega) (by decide) (fun v2 O2 hg2 => ?_)
  have hl2 : (l1 ++ lt).map TwE.num = [el.num] ++ rcorns h cs.tail ws ++ rtip pn (wayv pm pn) h (((en : Int) : Rat)) (kind == 1) := by rw [List.map_append, hl1, hnt]
  refine W.lpo [] [20, 22] (fun a : TSt => [(20, a.v), (22, .int .i64 a.z)]) (fun _ => []) (fun a => a.O) (fun a => [OS TwR (20, a.l), RA (some ⟨bc, oc, none⟩) (cs.flatMap dpc), PF S4 s4 R4 t4 (6, h), OL TwR (some ⟨bb, ob, none⟩) (20, lb)]) (fun a => a.z = a.i ∧ a.i ≤ ws.length - 1 ∧ a.l.map TwE.num = [el.num] ++ rcorns h cs.tail ws ++ rtip pn (wayv pm pn) h (((en : Int) : Rat)) (kind == 1) ++ ((rcorns (-h) cs.tail ws).drop a.i).reverse ∧ Grow 26 a.O a.v a.l.length (a.l.flatMap TwR.cells)) (fun a => a.i) ⟨ws.length - 1, IntKind.i64.wrap (IntKind.i64.wrap ((cs.length : Int) - 1) - 1), v2, O2, l1 ++ lt, none, []⟩ (by kernel_rfl) (by kernel_rfl) ⟨by simp only; rw [← hnnd, hnn, IntKind.wrap_i64]; omega, Nat.le_refl _, ?_, Grow.cast (by simp [List.flatMap_append]) (by simp) hg2⟩ (entC (entTa (l := l1) (l2 := lt) (ao := some ⟨bt, ot, none⟩)) (entC entK (entC entK (entC entK entE)))) ?_
  · simp only
    rw [hl2, List.drop_eq_nil_of_le (by rw [hm2]; exact Nat.le_refl _), List.reverse_nil, List.append_nil]
  rintro ⟨i, z3, v3, O3, l3, ao3, ys3⟩ K2 ⟨hz3, hi3, hl3, hg3⟩ close2
  simp only at hz3 hi3 hl3 hg3
  have hl3n := twn_len hl3
  simp only [List.length_append, List.length_reverse, List.length_drop, hm1, hm2, List.length_cons, List.length_nil] at hl3n
  cases i with
  | succ i =>
    obtain ⟨q0, g0⟩ := hcget i (by omega)
    obtain ⟨q1, g1⟩ := hcget (i + 1) (by omega)
    obtain ⟨q2, g2⟩ := hcget (i + 1 + 1) (by omega)
    obtain ⟨d, hd⟩ := hwget i (by omega)
    obtain ⟨e, he⟩ := hwget (i + 1) (by omega)
    obtain ⟨n1, rfl⟩ := hfw.way _ _ _ _ g0 g1 hd
    obtain ⟨n2, rfl⟩ := hfw.way _ _ _ _ g1 g2 he
    have hma := rcorns_at (-h) cs.tail ws i q1 _ _ (htl _ _ g1) hd he
    refine W.dt [] 208 (decide (z3 > 0)) (by kernel_rfl) (decide_eq_true (by omega)) ?_
    refine W.cl [208] (by kernel_rfl) (s_neg S4 s4 R4 t4) ?_
    rintro _ _ ⟨S9, s9, R9, t9, rfl, rfl⟩
    refine W.cl [] (by kernel_rfl) (r_corner bc oc cs.length c1 cs (i + 1) z3 hz3 S9 s9 R9 t9 (h := -h) q0 q1 q2 (by omega) (by omega) (by omega) g0 g1 g2 (hcr _ _ g0) (hcr _ _ g1) (hcr _ _ g2) n1 n2) ?_
    rintro _ _ ⟨ec, rfl, hec, rfl⟩
    refine W.bs [] 1 (twc ec) tbOk (by kernel_rfl) (fun B2 => ?_)
    refine W.app [] O3 [] O3 [] 26 336 l3.length 1 v3 (.slice (some ⟨B2, 0, none⟩) 1 1) (l3.flatMap TwR.cells) (twc ec) tbOk (by kernel_rfl) (by simp) hg3 (reads_row B2 O3 1 26 rfl 1) (two_one ec) (by omega) (by decide) (fun v' O' hg' => ?_)
    refine close2 [] _ _ ⟨i, IntKind.i64.wrap (z3 - 1), v', O', l3 ++ [ec], none, []⟩ (by kernel_rfl) (by simp only [List.nil_append, List.append_nil]; kernel_rfl) ⟨by simp only [IntKind.wrap_i64]; omega, by simp only; omega, ?_, ?_⟩ (by simp only; omega) (entC (entTs ec) (entC entK (entC entK (entC entK entE))))
    · simp only
      rw [List.map_append, hl3, drop_snoc hma, ← List.append_assoc, ← hec]
      rfl
    · simp only [List.length_append, List.flatMap_append, List.length_cons, List.length_nil]
      exact Grow.cast (by simp [TwR]) rfl hg'
  | zero =>
    rw [List.drop_zero] at hl3
    refine W.df [] 208 (decide (z3 > 0)) (by kernel_rfl) (decide_eq_false (by omega)) ?_
    refine W.slp [208] 26 bb ob (lb.length - 1) lb.length cb (IntKind.i64.wrap ((lb.length : Int) - 1)) (by rw [IntKind.wrap_i64]; omega) tbOk (by kernel_rfl) (by omega) (by omega) ?_
    refine W.app [] O3 [] O3 [] 26 336 l3.length (lb.length - 1) v3 (.slice (some ⟨bb, ob, none⟩) (lb.length - 1) cb) (l3.flatMap TwR.cells) ((lb.take (lb.length - 1)).flatMap TwR.cells) tbOk (by kernel_rfl) (by simp) hg3 (reads_tw bb ob O3 (lb.length - 1) cb (by omega)) tws_one (by omega) (by decide) (fun v' O' hg' => ?_)
    have hlen9 : (l3 ++ lb.take (lb.length - 1)).length = l3.length + (lb.length - 1) := by rw [List.length_append, List.length_take, Nat.min_eq_left (by omega)]
    have hg9 : Grow 26 O' v' (l3 ++ lb.take (lb.length - 1)).length ((l3 ++ lb.take (lb.length - 1)).flatMap TwR.cells) := Grow.cast (by rw [List.flatMap_append]) hlen9.symm hg'
    obtain ⟨g9, cap9, cur9, hv9, hO9, _⟩ := hg9.own (by omega)
    subst hv9 hO9
    refine W.pubgr (by simp only [List.nil_append, List.append_nil]; kernel_rfl) hg9 (by kernel_rfl) (fun ao c' hv hc' => ?_)
    injection hv with hv1 _ hv3
    subst hv1 hv3
    refine W.more (by kernel_rfl) (entC (entTt (ao := some ⟨bb, ob, none⟩) (r := lb.length - 1) (l := l3) (l2 := lb)) entE) ?_
    refine W.r [] (.tuple #[.slice (some ⟨g9, 0, none⟩) (l3 ++ lb.take (lb.length - 1)).length cap9, .int .i64 0]) (by kernel_rfl) (.inr ⟨hoe, g9, 0, cap9, l3 ++ lb.take (lb.length - 1), rfl, hc', ?_, rfl⟩) (entC (fun I w hd hh => ⟨fun e he => (Has.p (k := OS TwR) (a := (20, l3 ++ lb.take (lb.length - 1))) inferInstance hh) e he, Has.p (k := RA (some ⟨g9, 0, none⟩)) inferInstance hh⟩) entE)
    rw [← hcs, ← hws, hpl, List.map_append, hl3, hdl, ← hlbn, ← hnb2, List.map_take]
theorem r_oof (ao : Option Addr) (n c : Nat) (pts : List Dp) (width kind bg en : Int) [Has (RA ao) (pts.flatMap dpc) Γ] (hn : n = pts.length) (ha : 0 < n → ∃ b off, ao = some ⟨b, off, none⟩) :
    PCalls tb Tryz.prog 6 [.slice ao n c, .int .i64 width, .int .i64 kind, .int .i64 bg, .int .i64 en] Γ (RfPost pts width kind bg en) := by
  by_cases hlong : 8191 < pts.length
  · refine PCalls.of_W tbOk Tryz.func6 rfl (by kernel_rfl) ?_
    refine W.dt [] 25 (decide ((n : Int) > 8191)) (by kernel_rfl) (decide_eq_true (by omega)) ?_
    have he : oerr pts width kind bg en = 2 := by unfold oerr; rw [if_pos hlong]
    exact W.r [25] (.tuple #[.slice none 0 0, .int .i64 2]) (by kernel_rfl) (.inl ⟨by rw [he]; decide, by rw [he], rfl⟩) ent0
  by_cases h0 : kind = 0
  · exact r_of0 ao n c pts width kind bg en hn ha hlong h0
  by_cases h1 : kind = 1
  · exact r_of1 ao n c pts width kind bg en hn ha hlong h1
  by_cases h2 : kind = 2
  · exact r_of2 ao n c pts width kind bg en hn ha hlong h2
  by_cases h4 : kind = 4
  · exact r_of4 ao n c pts width kind bg en hn ha hlong h4
  have hb : argBad width kind bg en = true := by
    rw [argBad_eq, decide_eq_false h0, decide_eq_false h1, decide_eq_false h2, decide_eq_false h4]
    simp
  refine PCalls.of_W tbOk Tryz.func6 rfl (by kernel_rfl) ?_
  refine W.df [] 25 (decide ((n : Int) > 8191)) (by kernel_rfl) (decide_eq_false (by omega)) ?_
  refine W.dt [25] 28 (kind != 0) (by kernel_rfl) (by simpa using h0) ?_
  refine W.dt [28] 32 (kind != 1) (by kernel_rfl) (by simpa using h1) ?_
  refine W.dt [32] 36 (kind != 2) (by kernel_rfl) (by simpa using h2) ?_
  refine W.dt [36] 40 (kind != 4) (by kernel_rfl) (by simpa using h4) ?_
  exact W.r [63, 60, 56, 52, 48, 44, 40] (.tuple #[.slice none 0 0, .int .i64 1]) (by kernel_rfl) (.inl ⟨by rw [oerr_arg hlong hb]; decide, by rw [oerr_arg hlong hb], rfl⟩) ent0
-->rof
end
end Go.Proofs.YtaafmafdnnjmdaaGreat
