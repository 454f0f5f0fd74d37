/- Paths of points: the contract of outline.Of. -/
import Derived.Test.YtaafmafdnnjmdaaPg
set_option linter.unusedSimpArgs false
set_option linter.unusedVariables false
namespace Go.Proofs.Ytaafmafdnnjmdaa
open Go.RowKit Go.IntWalk

def PlsQ (l0 : List (Sn × Sn)) (v : Value) (Δ : List Fact) : Prop := ∃ (b off c : Nat) (l : List PlE), v = .slice (some ⟨b, off, none⟩) l.length c ∧ l.length ≤ c ∧ l.map PlE.num = l0 ∧ Δ = [OL PlR (some ⟨b, off, none⟩) (130, l)]
/-- What outline.Of answers. -/
def OfPost (pts : List Dp) (width kind bg en : Int) (v : Value) (Δ : List Fact) : Prop :=
  (oerr pts width kind bg en ≠ 0 ∧ v = .tuple #[.slice none 0 0, .int .i64 (oerr pts width kind bg en)] ∧ Δ = []) ∨
  (oerr pts width kind bg en = 0 ∧ ∃ (ao : Option Addr) (c : Nat) (l : List PlE), v = .tuple #[.slice ao l.length c, .int .i64 0] ∧ l.length ≤ c ∧ l.map PlE.num = places (corn pts).1.reverse (corn pts).2.reverse width kind bg en ∧ Δ = [OL PlR ao (130, l)])
theorem tip_len (p d : Dp) (h b : Rat) (r : Bool) : 2 ≤ (tipL p d h b r).length ∧ (tipL p d h b r).length ≤ 5 := by
  cases r <;> simp [tipL]
theorem argBad_eq (width kind bg en : Int) : argBad width kind bg en = (!(decide (kind = 0) || decide (kind = 1) || decide (kind = 2) || decide (kind = 4)) || decide (width < 1) || decide (width > 2147483647) || decide (bg < -2147483647) || decide (bg > 2147483647) || decide (en < -2147483647) || decide (en > 2147483647)) := rfl
theorem oerr_arg {pts : List Dp} {width kind bg en : Int} (h : ¬ 8191 < pts.length) (ha : argBad width kind bg en = true) : oerr pts width kind bg en = 1 := by
  unfold oerr
  rw [if_neg h, if_pos ha]
theorem in_of {pts : List Dp} (h : pts.any outP = false) : ∀ p ∈ pts, inD 2147483648 p := fun p hp => by
  have : outP p = false := by
    cases ho : outP p with
    | false => rfl
    | true => rw [List.any_eq_true.2 ⟨p, hp, ho⟩] at h; simp at h
  simp only [outP, outB, Bool.or_eq_false_iff, decide_eq_false_iff_not] at this
  unfold inD
  omega
theorem dp_atq {l : List Dp} {k : Nat} {d : Dp} (h : l[k]? = some d) : ∀ (j : Nat) (v : Value), (dpc d)[j]? = some v → (l.flatMap dpc)[k * 2 + j]? = some v := fun j v hv => by
  obtain ⟨hk, rfl⟩ := List.getElem?_eq_some_iff.1 h
  exact dp_at hk hv
structure PSt where
  i : Nat
  z : Int
  v : Value
  O : List (Nat × List Value)
  l : List PlE
  ao : Option Addr
  ys : List Value
theorem num_len {l : List PlE} {q : List (Sn × Sn)} (h : l.map PlE.num = q) : l.length = q.length := by rw [← h, List.length_map]

section
variable {T : Tb} {P : Program} {fin : VS → List Fact → Prop} {c : Cfg} {Γ : List Fact}
theorem W.slp (D : List Nat) (z b off r len cap : Nat) (y : Int) (hy : y = r) (hT : T.Ok P) (h : readSls T (vstep T (Go.Proofs.Ytaafmafdnnjmdaa.runs T D 999 c)) = some (z, .slice (some ⟨b, off, none⟩) len cap, none, some (.int .i64 y))) (hrs : r ≤ cap) (h0 : 0 < cap)
    (hk : W T P fin (resume (vstep T (Go.Proofs.Ytaafmafdnnjmdaa.runs T D 999 c)) (.slice (some ⟨b, off, none⟩) r cap)) Γ) : W T P fin c Γ := by
  subst hy
  refine W.sls D z b off len cap none (some (.int .i64 (r : Int))) 0 r hT h (.inr ⟨rfl, rfl⟩) (.inl rfl) (Nat.zero_le _) hrs h0 ?_
  rw [Nat.zero_mul, Nat.sub_zero, Nat.sub_zero]
  exact hk
theorem OL.toldq {b off L : Nat} {l : List PlE} [h : Has (OL PlR (some ⟨b, off, none⟩)) (L, l) Γ] {k : Nat} {e : PlE} (he : l[k]? = some e) : ∀ I w, DataOK T I w → Holds Γ I w → ∀ j v, (PlR.cells e)[j]? = some v → w.cell? ⟨b, off + k * 40 + j, none⟩ = some v := fun I w hd hh j v hv => by
  obtain ⟨hk, rfl⟩ := List.getElem?_eq_some_iff.1 he
  exact OL.told (T := T) (Γ := Γ) PlR b off k hk I w hd hh j v hv
theorem reads_pl (b off : Nat) {l : List PlE} {L : Nat} [h : Has (OL PlR (some ⟨b, off, none⟩)) (L, l) Γ] (own : List (Nat × List Value)) (r c : Nat) (hr : r ≤ l.length) : Reads T Γ own (.slice (some ⟨b, off, none⟩) r c) r 40 ((l.take r).flatMap PlR.cells) :=
  ⟨some ⟨b, off, none⟩, c, rfl, by rw [row_len PlR, List.length_take, Nat.min_eq_left hr]; rfl, fun _ => ⟨⟨b, off, none⟩, rfl, fun I w _ hh _ j u hu => by
    rw [add_spot]
    refine RA.cell (h.p hh).2 ?_
    simp only
    rw [← List.take_append_drop r l, List.flatMap_append, List.getElem?_append_left (List.getElem?_eq_some_iff.1 hu).1]
    exact hu⟩⟩
end
section
variable {Γ : List Fact}
theorem pls_one {l : List PlE} : ∀ u ∈ l.flatMap PlR.cells, u.oneCell' = true := fun u hu => by
  obtain ⟨e, _, he⟩ := List.mem_flatMap.1 hu
  exact pl_one e u he
theorem entO1 {ao : Option Addr} {L k : Nat} {l : List PlE} {e : PlE} [h : Has (OL PlR ao) (L, l) Γ] (he : l[k]? = some e) : ∀ (I : Blk) (w : World), DataOK tb I w → Holds Γ I w → (OS PlR (L, [e])).p I w := fun I w _ hh x hx => by
  simp only [List.mem_cons, List.not_mem_nil, or_false] at hx
  subst hx
  obtain ⟨hk, rfl⟩ := List.getElem?_eq_some_iff.1 he
  exact (h.p hh).1 _ (List.getElem_mem hk)
theorem entOt {L r : Nat} {l l2 : List PlE} {ao : Option Addr} [h : Has (OS PlR) (L, l) Γ] [hx : Has (OL PlR ao) (L, l2) Γ] : ∀ (I : Blk) (w : World), DataOK tb I w → Holds Γ I w → (OS PlR (L, l ++ l2.take r)).p I w := fun I w _ hh x hx' => by
  rcases List.mem_append.1 hx' with h1 | h1
  · exact h.p hh x h1
  · exact (hx.p hh).1 x (List.mem_of_mem_take h1)
theorem entKR {b : Nat} {xs : List Value} [h : Has (RowF b) xs Γ] : ∀ (I : Blk) (w : World), DataOK tb I w → Holds Γ I w → (RA (some ⟨b, 0, none⟩) xs).p I w := fun I w _ hh => RA.of_row (h.p hh) (fun _ _ h => h)
theorem entRn : ∀ (I : Blk) (w : World), DataOK tb I w → Holds Γ I w → (RA none []).p I w := fun I w _ _ => RA.nil _ _ _
theorem p_tipQ (p d : Dp) (x y : Int) (hx : x = d.x) (hy : y = d.y) (hq bq : Qw) {h b : Rat} {L L1 : Nat} [Has (QG hq) (L, h) Γ] [Has (QG bq) (L1, b) Γ] (r : Bool) (hp : inD 2147483648 p) (hd : inD 4294967296 d) (h0 : sqD d ≠ 0) (hL : L ≤ 5 ∧ L1 ≤ 5 := by omega) :
    PCalls tb Try.prog 29 [dv p, .agg #[.int .i64 x, .int .i64 y], qv hq.n hq.a hq.m hq.b, qv bq.n bq.a bq.m bq.b, .bool r] Γ (PlsQ (tipL p d h b r)) := by
  refine (PCalls.info (PlsQ (tipL p d h b r)) (p_tipB p d x y hx hy hq bq r hp hd h0) ?_).post (fun _ _ h => h.2)
  rintro v Δ ⟨ao, c, l, rfl, hlc, hl, rfl⟩ I w hh
  have hln := num_len hl
  have ht := tip_len p d h b r
  obtain ⟨b0, off, rfl, _⟩ := hh.h0'.2 (by
    intro e
    have := row_len PlR l
    simp only at e
    rw [e] at this
    simp [PlR] at this
    omega)
  exact ⟨b0, off, c, l, rfl, hlc, hl, rfl⟩
theorem p_qofh (a b : Int) (h : Rat) (hh : h = Rat.divInt a b) (hb : b ≠ 0) (h1 : -9223372036854775808 ≤ a) (h2 : a < 9223372036854775808) (h3 : -9223372036854775808 ≤ b) (h4 : b < 9223372036854775808) :
    PCalls tb Try.prog 28 [.int .i64 a, .int .i64 b] Γ (QOk 2 h) := by
  subst hh
  exact p_qof a b hb h1 h2 h3 h4
theorem p_cornF (ao : Option Addr) (n c : Nat) (pts cs ws : List Dp) (hcs : cs = (corn pts).1.reverse) (hws : ws = (corn pts).2.reverse) [Has (RA ao) (pts.flatMap dpc) Γ] (hn : n = pts.length) (hn2 : n ≤ 8191) (hb : ∀ p ∈ pts, inD 2147483648 p) :
    PCalls tb Try.prog 27 [.slice ao n c] Γ (fun v Δ => ∃ (a1 a2 : Option Addr) (c1 c2 : Nat), v = .tuple #[.slice a1 cs.length c1, .slice a2 ws.length c2] ∧ Δ = [RA a1 (cs.flatMap dpc), RA a2 (ws.flatMap dpc)]) := by
  subst hcs hws
  rw [List.length_reverse, List.length_reverse]
  exact p_corners ao n c pts hn hn2 hb
--<outof
set_option maxHeartbeats 4000000 in
theorem p_outOf (ao : Option Addr) (n c : Nat) (pts : List Dp) (width kind bg en : Int) [Has (RA ao) (pts.flatMap dpc) Γ] (hn : n = pts.length) :
    PCalls tb Try.prog 7 [.slice ao n c, .int .i64 width, .int .i64 kind, .int .i64 bg, .int .i64 en] Γ (OfPost pts width kind bg en) := by
  obtain ⟨cs, hcs⟩ : ∃ cs, cs = (corn pts).1.reverse := ⟨_, rfl⟩
  obtain ⟨ws, hws⟩ : ∃ ws, ws = (corn pts).2.reverse := ⟨_, rfl⟩
  have hcl : (corn pts).1.length = cs.length := by rw [hcs, List.length_reverse]
  have hok : CornOk (corn pts).1 (corn pts).2 := corn_ok pts ([], []) rfl
  refine PCalls.of_W tbOk Try.func7 rfl (by kernel_rfl) ?_
  by_cases hlong : 8191 < pts.length
  · refine W.dt [] 24 (decide ((n : Int) > 8191)) (by kernel_rfl) (decide_eq_true (by omega)) ?_
    have he : oerr pts width kind bg en = 2 := by unfold oerr; rw [if_pos hlong]
    exact W.r [24] (.tuple #[.slice none 0 0, .int .i64 2]) (by kernel_rfl) (.inl ⟨by rw [he]; decide, by rw [he], rfl⟩) ent0
  refine W.df [] 24 (decide ((n : Int) > 8191)) (by kernel_rfl) (decide_eq_false (by omega)) ?_
  refine W.bs [24] 4 [.int .i64 0, .int .i64 1, .int .i64 2, .int .i64 4] tbOk (by kernel_rfl) (fun b1 => ?_)
  refine W.cl [] (by kernel_rfl) (p_kinds b1 kind) ?_
  rintro _ _ ⟨rfl, rfl⟩
  have hbad : argBad width kind bg en = true → OfPost pts width kind bg en (.tuple #[.slice none 0 0, .int .i64 1]) [] := fun h => .inl ⟨by rw [oerr_arg hlong h]; decide, by rw [oerr_arg hlong h], rfl⟩
  rw [argBad_eq] at hbad
  have hgood := argBad_eq width kind bg en
  refine W.d [] 33 (!(decide (kind = 0) || decide (kind = 1) || decide (kind = 2) || decide (kind = 4))) (by kernel_rfl) (fun h0 => ?_) (fun h0 => ?_)
  · exact W.r [28, 53, 49, 45, 41, 37, 33] (.tuple #[.slice none 0 0, .int .i64 1]) (by kernel_rfl) (hbad (by rw [h0]; simp)) ent0
  refine W.d [33] 37 (decide (width < 1)) (by kernel_rfl) (fun h1 => ?_) (fun h1 => ?_)
  · exact W.r [28, 53, 49, 45, 41, 37] (.tuple #[.slice none 0 0, .int .i64 1]) (by kernel_rfl) (hbad (by rw [h1]; simp)) ent0
  refine W.d [37] 41 (decide (width > 2147483647)) (by kernel_rfl) (fun h2 => ?_) (fun h2 => ?_)
  · exact W.r [28, 53, 49, 45, 41] (.tuple #[.slice none 0 0, .int .i64 1]) (by kernel_rfl) (hbad (by rw [h2]; simp)) ent0
  refine W.d [41] 45 (decide (bg < -2147483647)) (by kernel_rfl) (fun h3 => ?_) (fun h3 => ?_)
  · exact W.r [28, 53, 49, 45] (.tuple #[.slice none 0 0, .int .i64 1]) (by kernel_rfl) (hbad (by rw [h3]; simp)) ent0
  refine W.d [45] 49 (decide (bg > 2147483647)) (by kernel_rfl) (fun h4 => ?_) (fun h4 => ?_)
  · exact W.r [28, 53, 49] (.tuple #[.slice none 0 0, .int .i64 1]) (by kernel_rfl) (hbad (by rw [h4]; simp)) ent0
  refine W.d [49] 53 (decide (en < -2147483647)) (by kernel_rfl) (fun h5 => ?_) (fun h5 => ?_)
  · exact W.r [28, 53] (.tuple #[.slice none 0 0, .int .i64 1]) (by kernel_rfl) (hbad (by rw [h5]; simp)) ent0
  refine W.d [53] 28 (decide (en > 2147483647)) (by kernel_rfl) (fun h6 => ?_) (fun h6 => ?_)
  · exact W.r [28] (.tuple #[.slice none 0 0, .int .i64 1]) (by kernel_rfl) (hbad (by rw [h6]; simp)) ent0
  have hgd : argBad width kind bg en = false := by
    rw [hgood, h0, h1, h2, h3, h4, h5, h6]
    rfl
  clear hbad hgood
  have k1 := of_decide_eq_false h1
  have k2 := of_decide_eq_false h2
  have k3 := of_decide_eq_false h3
  have k4 := of_decide_eq_false h4
  have k5 := of_decide_eq_false h5
  have k6 := of_decide_eq_false h6
  have hga : ¬ argBad width kind bg en = true := by rw [hgd]; decide
  refine W.cl [28] (by kernel_rfl) (p_anyout ao n c pts hn (by omega)) ?_
  rintro _ _ ⟨rfl, rfl⟩
  refine W.d [] 57 (pts.any outP) (by kernel_rfl) (fun h7 => ?_) (fun h7 => ?_)
  · have he : oerr pts width kind bg en = 26 := by unfold oerr; rw [if_neg hlong, if_neg hga, if_pos h7]
    exact W.r [57] (.tuple #[.slice none 0 0, .int .i64 26]) (by kernel_rfl) (.inl ⟨by rw [he]; decide, by rw [he], rfl⟩) ent0
  have hg7 : ¬ pts.any outP = true := by rw [h7]; decide
  have hin := in_of h7
  refine W.cl [57] (by kernel_rfl) (p_cornF ao n c pts cs ws hcs hws hn (by omega) hin) ?_
  rintro _ _ ⟨a1, a2, c1, c2, rfl, rfl⟩
  by_cases hfew : cs.length < 2
  · refine W.dt [] 67 (decide ((cs.length : Int) < 2)) (by kernel_rfl) (decide_eq_true (by omega)) ?_
    have he : oerr pts width kind bg en = 7 := by unfold oerr; rw [if_neg hlong, if_neg hga, if_neg hg7, hcl, if_pos hfew]
    exact W.r [67] (.tuple #[.slice none 0 0, .int .i64 7]) (by kernel_rfl) (.inl ⟨by rw [he]; decide, by rw [he], rfl⟩) ent0
  have hfew' : ¬ (corn pts).1.length < 2 := by omega
  have hfw : FwOk cs ws := by
    rw [hcs, hws]
    exact fw_ok hok (by intro e; rw [e] at hfew'; simp at hfew')
  have hmem : ∀ p ∈ cs, inD 2147483648 p := fun p hp => by
    have := corn_mem pts ([], []) (Q := fun _ => False) (fun q hq => absurd hq (by simp)) p (by rw [hcs] at hp; exact List.mem_reverse.1 hp)
    exact hin p (by simpa using this)
  have hlen := hfw.len
  have hcmax : cs.length ≤ 8191 := by
    have := corn_len pts ([], [])
    simp only [List.length_nil, Nat.zero_add] at this
    have h9 : (corn pts).1.length ≤ pts.length := this
    omega
  have hway : ∀ (i : Nat) (d : Dp), ws[i]? = some d → inD 4294967296 d ∧ gcdD d = 1 := fun i d hd => by
    have hi := (List.getElem?_eq_some_iff.1 hd).1
    have e1 : cs[i]? = some (cs[i]'(by omega)) := List.getElem?_eq_getElem _
    have e2 : cs[i + 1]? = some (cs[i + 1]'(by omega)) := List.getElem?_eq_getElem _
    obtain ⟨hne, rfl⟩ := hfw.way i _ _ d e1 e2 hd
    exact ⟨way_in (hmem _ (List.getElem_mem _)) (hmem _ (List.getElem_mem _)) hne, prim_way hne⟩
  have hbk : backs (corn pts).2 = true ↔ ∃ (i : Nat) (d e : Dp), ws[i]? = some d ∧ ws[i + 1]? = some e ∧ e = negD d := by
    rw [hws]
    exact back_fw _
  have hwget : ∀ i, i < ws.length → ∃ d, ws[i]? = some d := fun i hi => ⟨_, List.getElem?_eq_getElem hi⟩
  have hcget : ∀ i, i < cs.length → ∃ d, cs[i]? = some d := fun i hi => ⟨_, List.getElem?_eq_getElem hi⟩
  have hcn : cs.flatMap dpc ≠ [] := by intro e; have := dp_len cs; rw [e] at this; simp at this; omega
  have hwn : ws.flatMap dpc ≠ [] := by intro e; have := dp_len ws; rw [e] at this; simp at this; omega
  refine W.df [] 67 (decide ((cs.length : Int) < 2)) (by kernel_rfl) (decide_eq_false (by omega)) ?_
  refine W.ra a1 (by kernel_rfl) hcn (fun bc oc e => ?_)
  subst e
  refine W.ra a2 (by kernel_rfl) hwn (fun bw ow e => ?_)
  subst e
  refine W.lp [67] [14] (fun a : Nat × Int => [(14, .int .i64 a.2)]) (fun _ => []) (fun _ => [RA (some ⟨bc, oc, none⟩) (cs.flatMap dpc), RA (some ⟨bw, ow, none⟩) (ws.flatMap dpc)]) (fun a => a.2 = a.1 ∧ 1 ≤ a.1 ∧ a.1 ≤ ws.length ∧ ∀ (j : Nat) (d e : Dp), j + 1 < a.1 → ws[j]? = some d → ws[j + 1]? = some e → e ≠ negD d) (fun a => ws.length - a.1) (1, 1) (by kernel_rfl) (by kernel_rfl) ⟨rfl, Nat.le_refl _, by simp only; omega, fun j d e h => by simp only at h; omega⟩ (entC entK (entC entK entE)) ?_
  rintro ⟨i, z⟩ K ⟨hz, hi1, hi, hall⟩ close
  simp only at hz hi1 hi hall
  by_cases hlt : i < ws.length
  · obtain ⟨d, hd⟩ := hwget (i - 1) (by omega)
    obtain ⟨e, he⟩ := hwget i hlt
    have hdb := (hway _ _ hd).1
    have hneg : (⟨IntKind.i64.wrap (0 - d.x), IntKind.i64.wrap (0 - d.y)⟩ : Dp) = negD d := by
      unfold inD at hdb
      refine Dp.eq_iff.2 ⟨?_, ?_⟩ <;> (simp only [IntKind.wrap_i64, negD]; omega)
    refine W.dt [] 71 (decide (z < (ws.length : Int))) (by kernel_rfl) (decide_eq_true (by omega)) ?_
    refine W.ia [71] 2 bw ow ws.length c2 .i64 i z hz tbOk (by kernel_rfl) hlt ?_
    refine W.lds [] bw (ow + i * 2) (dpc e) tbOk (by kernel_rfl) (RA.rdn bw ow (i * 2) (dp_atq he)) ?_
    refine W.ia [] 2 bw ow ws.length c2 .i64 (i - 1) (IntKind.i64.wrap (z - 1)) (by rw [IntKind.wrap_i64]; omega) tbOk (by kernel_rfl) (by omega) ?_
    refine W.fa [] 0 bw (ow + (i - 1) * 2) tbOk (by kernel_rfl) ?_
    refine W.ld [] 1 bw (ow + (i - 1) * 2 + 0) (.int .i64 d.x) tbOk (by kernel_rfl) (fun I w hI hh => RA.rdn bw ow ((i - 1) * 2) (dp_atq hd) I w hI hh 0 _ rfl) ?_
    refine W.ia [] 2 bw ow ws.length c2 .i64 (i - 1) (IntKind.i64.wrap (z - 1)) (by rw [IntKind.wrap_i64]; omega) tbOk (by kernel_rfl) (by omega) ?_
    refine W.fa [] 1 bw (ow + (i - 1) * 2) tbOk (by kernel_rfl) ?_
    refine W.ld [] 1 bw (ow + (i - 1) * 2 + 1) (.int .i64 d.y) tbOk (by kernel_rfl) (fun I w hI hh => RA.rdn bw ow ((i - 1) * 2) (dp_atq hd) I w hI hh 1 _ rfl) ?_
    refine W.eqp [] 84 e ⟨IntKind.i64.wrap (0 - d.x), IntKind.i64.wrap (0 - d.y)⟩ (by kernel_rfl) (by kernel_rfl) (by kernel_rfl) ?_
    by_cases hde : e = ⟨IntKind.i64.wrap (0 - d.x), IntKind.i64.wrap (0 - d.y)⟩
    · refine W.dt [] 93 (decide (e = ⟨IntKind.i64.wrap (0 - d.x), IntKind.i64.wrap (0 - d.y)⟩)) (by kernel_rfl) (decide_eq_true hde) ?_
      have hb : backs (corn pts).2 = true := hbk.2 ⟨i - 1, d, e, hd, by rw [Nat.sub_add_cancel hi1]; exact he, by rw [← hneg]; exact hde⟩
      have he : oerr pts width kind bg en = 25 := by unfold oerr; rw [if_neg hlong, if_neg hga, if_neg hg7, if_neg hfew', if_pos hb]
      exact W.r [93] (.tuple #[.slice none 0 0, .int .i64 25]) (by kernel_rfl) (.inl ⟨by rw [he]; decide, by rw [he], rfl⟩) ent0
    · refine W.df [] 93 (decide (e = ⟨IntKind.i64.wrap (0 - d.x), IntKind.i64.wrap (0 - d.y)⟩)) (by kernel_rfl) (decide_eq_false hde) ?_
      rw [hneg] at hde
      refine close [93] _ _ (i + 1, IntKind.i64.wrap (z + 1)) (by kernel_rfl) (by kernel_rfl) ⟨by simp only [IntKind.wrap_i64]; omega, by simp only; omega, hlt, fun j d' e' hj hd' he' => ?_⟩ (by simp only; omega) (entC entK (entC entK entE))
      by_cases hji : j + 1 < i
      · exact hall j d' e' hji hd' he'
      · obtain rfl : j = i - 1 := by simp only at hj; omega
        rw [hd] at hd'
        rw [Nat.sub_add_cancel hi1, he] at he'
        injection hd' with hd'
        injection he' with he'
        subst hd' he'
        exact hde
  obtain rfl : i = ws.length := by omega
  have hnb : ¬ backs (corn pts).2 = true := by
    rw [hbk]
    rintro ⟨j, d, e, hd, he, hn⟩
    exact hall j d e (List.getElem?_eq_some_iff.1 he).1 hd he hn
  have hoe : oerr pts width kind bg en = 0 := by unfold oerr; rw [if_neg hlong, if_neg hga, if_neg hg7, if_neg hfew', if_neg hnb]
  have hcross : ∀ (i : Nat) (d e : Dp), ws[i]? = some d → ws[i + 1]? = some e → dotD (leftD d) e ≠ 0 := fun i d e hd he =>
    cross_ne (hway _ _ hd).2 (hway _ _ he).2 (hfw.turn i d e hd he) (hall i d e (List.getElem?_eq_some_iff.1 he).1 hd he)
  have hcr : ∀ (i : Nat) (p : Dp), cs[i]? = some p → inD 2147483648 p := fun i p hp => by
    obtain ⟨_, rfl⟩ := List.getElem?_eq_some_iff.1 hp
    exact hmem _ (List.getElem_mem _)
  have htl : ∀ (i : Nat) (p : Dp), cs[i + 1]? = some p → cs.tail[i]? = some p := fun i p hp => by rw [List.getElem?_tail]; exact hp
  have hctl : cs.tail.length = ws.length := by rw [List.length_tail]; omega
  obtain ⟨p0, hp0⟩ := hcget 0 (by omega)
  obtain ⟨w0, hw0⟩ := hwget 0 (by omega)
  obtain ⟨pn, hpn⟩ := hcget ws.length (by omega)
  obtain ⟨wn, hwn1⟩ := hwget (ws.length - 1) (by omega)
  have hw0b := (hway _ _ hw0).1
  have hnx : IntKind.i64.wrap (0 - w0.x) = (negD w0).x := by unfold inD at hw0b; simp only [IntKind.wrap_i64, negD]; omega
  have hny : IntKind.i64.wrap (0 - w0.y) = (negD w0).y := by unfold inD at hw0b; simp only [IntKind.wrap_i64, negD]; omega
  have hq0 : sqD (negD w0) ≠ 0 := sqD_ne (by have := nz_prim (hway _ _ hw0).2; unfold negD; simp only; omega)
  have hqn : sqD wn ≠ 0 := sqD_ne (nz_prim (hway _ _ hwn1).2)
  obtain ⟨h, hh⟩ : ∃ h, h = Rat.divInt width 2 := ⟨_, rfl⟩
  have hplaces : ∀ b e, endsOf kind bg en h = (b, e) → places cs ws width kind bg en = (tipL p0 (negD w0) h b (kind == 1)).drop ((tipL p0 (negD w0) h b (kind == 1)).length - 1) ++ miters h cs.tail ws ++ tipL pn wn h e (kind == 1) ++ (miters (-h) cs.tail ws).reverse ++ (tipL p0 (negD w0) h b (kind == 1)).take ((tipL p0 (negD w0) h b (kind == 1)).length - 1) := fun b e hbe => by
    unfold places
    simp only [← hh, hbe, List.getD_eq_getElem?_getD, hp0, hw0, hwn1, show cs.length - 1 = ws.length by omega, hpn, Option.getD_some]
  have hm1 := miters_len h cs.tail ws hctl
  have hm2 := miters_len (-h) cs.tail ws hctl
  have hb0 := tip_len p0 (negD w0)
  have hbn := tip_len pn wn
  refine W.df [] 71 (decide (z < (ws.length : Int))) (by kernel_rfl) (decide_eq_false (by omega)) ?_
  refine W.cl [71] (by kernel_rfl) (p_qofh width 2 h hh (by omega) (by omega) (by omega) (by omega) (by omega)) ?_
  rintro _ _ ⟨n6, a6, m6, b6, rfl, rfl⟩
  refine W.d [] 100 (kind == 2) (by kernel_rfl) (fun hk2 => ?_) (fun hk2 => ?_)
  · have hk := eq_of_beq hk2
    have hpl := hplaces (h) (h) (by unfold endsOf; rw [if_pos hk])
    refine W.ia [100] 2 bc oc cs.length c1 .i64 0 0 rfl tbOk (by kernel_rfl) (by omega) ?_
    refine W.lds [] bc (oc + 0 * 2) (dpc p0) tbOk (by kernel_rfl) (RA.rdn bc oc (0 * 2) (dp_atq hp0)) ?_
    refine W.ia [] 2 bw ow ws.length c2 .i64 0 0 rfl tbOk (by kernel_rfl) (by omega) ?_
    refine W.fa [] 0 bw (ow + 0 * 2) tbOk (by kernel_rfl) ?_
    refine W.ld [] 1 bw (ow + 0 * 2 + 0) (.int .i64 w0.x) tbOk (by kernel_rfl) (fun I w hI hh => RA.rdn bw ow (0 * 2) (dp_atq hw0) I w hI hh 0 _ rfl) ?_
    refine W.ia [] 2 bw ow ws.length c2 .i64 0 0 rfl tbOk (by kernel_rfl) (by omega) ?_
    refine W.fa [] 1 bw (ow + 0 * 2) tbOk (by kernel_rfl) ?_
    refine W.ld [] 1 bw (ow + 0 * 2 + 1) (.int .i64 w0.y) tbOk (by kernel_rfl) (fun I w hI hh => RA.rdn bw ow (0 * 2) (dp_atq hw0) I w hI hh 1 _ rfl) ?_
    refine W.cl [] (by kernel_rfl) (p_tipQ p0 (negD w0) (IntKind.i64.wrap (0 - w0.x)) (IntKind.i64.wrap (0 - w0.y)) hnx hny ⟨n6, a6, m6, b6⟩ ⟨n6, a6, m6, b6⟩ (h := h) (b := h) (kind == 1) (hcr _ _ hp0) hw0b.neg hq0) ?_
    rintro _ _ ⟨bb, ob, cb, lb, rfl, hlb, hnb2, rfl⟩
    have hlbn := num_len hnb2
    have hb00 := hb0 h (h) (kind == 1)
    obtain ⟨el, hel⟩ : ∃ el, lb[lb.length - 1]? = some el := ⟨_, List.getElem?_eq_getElem (by omega)⟩
    have hdl : (tipL p0 (negD w0) h (h) (kind == 1)).drop ((tipL p0 (negD w0) h (h) (kind == 1)).length - 1) = [el.num] := by
      obtain ⟨hk, rfl⟩ := List.getElem?_eq_some_iff.1 hel
      rw [← hlbn, ← hnb2, ← List.map_drop, List.drop_eq_getElem_cons hk, List.drop_eq_nil_of_le (by omega)]
      rfl
    refine W.ia [] 40 bb ob lb.length cb .i64 (lb.length - 1) (IntKind.i64.wrap ((lb.length : Int) - 1)) (by rw [IntKind.wrap_i64]; omega) tbOk (by kernel_rfl) (by omega) ?_
    refine W.lds [] bb (ob + (lb.length - 1) * 40) (svc el.x ++ svc el.y) tbOk (by kernel_rfl) (OL.toldq hel) ?_
    refine W.bs [] 1 (svc el.x ++ svc el.y) tbOk (by kernel_rfl) (fun B1 => ?_)
    refine W.lpo [] [21, 22] (fun a : PSt => [(21, a.v), (22, .int .i64 a.z)]) (fun _ => []) (fun a => a.O) (fun a => [OS PlR (130, a.l), RA a.ao a.ys, RA (some ⟨bc, oc, none⟩) (cs.flatMap dpc), RA (some ⟨bw, ow, none⟩) (ws.flatMap dpc), QF n6 a6 m6 b6 (2, h), QG ⟨n6, a6, m6, b6⟩ (2, h), OL PlR (some ⟨bb, ob, none⟩) (130, lb)]) (fun a => a.z = a.i ∧ 1 ≤ a.i ∧ a.i ≤ ws.length ∧ a.l.map PlE.num = [el.num] ++ (miters h cs.tail ws).take (a.i - 1) ∧ GrowZ 40 a.O a.v a.l.length (a.l.flatMap PlR.cells) a.ao a.ys) (fun a => ws.length - a.i) ⟨1, 1, .slice (some ⟨B1, 0, none⟩) 1 1, [], [el], some ⟨B1, 0, none⟩, svc el.x ++ svc el.y⟩ (by kernel_rfl) (by kernel_rfl) ⟨rfl, Nat.le_refl _, by simp only; omega, by simp only [Nat.sub_self, List.take_zero, List.append_nil]; rfl, .inl ⟨rfl, rfl, Nat.zero_lt_one, rfl, rfl⟩⟩ (entC (entO1 (ao := some ⟨bb, ob, none⟩) hel) (entC entKR (entC entK (entC entK (entC entK (entC entK (entC entK entE))))))) ?_
    rintro ⟨i, z1, v1, O1, l1, ao1, ys1⟩ K1 ⟨hz1, hi1', hi', hl1, hg1⟩ close1
    simp only at hz1 hi1' hi' hl1 hg1
    have hl1n := num_len hl1
    rw [List.length_append, List.length_take, hm1] at hl1n
    simp only [List.length_cons, List.length_nil] at hl1n
    by_cases hlt1 : i < ws.length
    · obtain ⟨p, hp⟩ := hcget i (by omega)
      obtain ⟨d, hd⟩ := hwget (i - 1) (by omega)
      obtain ⟨e, he⟩ := hwget i hlt1
      have he1 : ws[i - 1 + 1]? = some e := by rw [Nat.sub_add_cancel hi1']; exact he
      have hp1 : cs[i - 1 + 1]? = some p := by rw [Nat.sub_add_cancel hi1']; exact hp
      have hma := miters_at h cs.tail ws (i - 1) p d e (htl _ _ hp1) hd he1
      refine W.dt [] 142 (decide (z1 < (ws.length : Int))) (by kernel_rfl) (decide_eq_true (by omega)) ?_
      refine W.ia [142] 2 bc oc cs.length c1 .i64 i z1 hz1 tbOk (by kernel_rfl) (by omega) ?_
      refine W.lds [] bc (oc + i * 2) (dpc p) tbOk (by kernel_rfl) (RA.rdn bc oc (i * 2) (dp_atq hp)) ?_
      refine W.ia [] 2 bw ow ws.length c2 .i64 (i - 1) (IntKind.i64.wrap (z1 - 1)) (by rw [IntKind.wrap_i64]; omega) tbOk (by kernel_rfl) (by omega) ?_
      refine W.lds [] bw (ow + (i - 1) * 2) (dpc d) tbOk (by kernel_rfl) (RA.rdn bw ow ((i - 1) * 2) (dp_atq hd)) ?_
      refine W.ia [] 2 bw ow ws.length c2 .i64 i z1 hz1 tbOk (by kernel_rfl) hlt1 ?_
      refine W.lds [] bw (ow + i * 2) (dpc e) tbOk (by kernel_rfl) (RA.rdn bw ow (i * 2) (dp_atq he)) ?_
      refine W.cl [] (by kernel_rfl) (p_miter p d e ⟨n6, a6, m6, b6⟩ (h := h) (hcr _ _ hp) (hway _ _ hd).1 (hway _ _ he).1 (hcross _ _ _ hd he1)) ?_
      rintro _ _ ⟨X, Y, rfl, rfl⟩
      refine W.bs [] 1 (svc X ++ svc Y) tbOk (by kernel_rfl) (fun B2 => ?_)
      refine W.apz [] O1 40 640 l1.length 1 ao1 v1 (.slice (some ⟨B2, 0, none⟩) 1 1) (l1.flatMap PlR.cells) ys1 (svc X ++ svc Y) tbOk (by kernel_rfl) hg1 (by decide) (reads_row B2 O1 1 40 rfl 1) (pl_one ⟨X, Y, ⟨0, 0, 0, 0, 0, 0⟩, ⟨0, 0, 0, 0, 0, 0⟩⟩) (by omega) (by decide) (fun v' O' hg' => ?_)
      refine close1 [] _ _ ⟨i + 1, IntKind.i64.wrap (z1 + 1), v', O', l1 ++ [⟨X, Y, (miterP p d e h).1, (miterP p d e h).2⟩], none, []⟩ (by kernel_rfl) (by kernel_rfl) ⟨by simp only [IntKind.wrap_i64]; omega, by simp only; omega, hlt1, ?_, .inr ⟨?_, rfl, rfl⟩⟩ (by simp only; omega) (entC (entOs ⟨X, Y, (miterP p d e h).1, (miterP p d e h).2⟩) (entC entRn (entC entK (entC entK (entC entK (entC entK (entC entK entE)))))))
      · simp only
        rw [List.map_append, hl1, Nat.add_sub_cancel, show i = i - 1 + 1 by omega, take_snoc hma, List.append_assoc, Nat.add_sub_cancel]
        rfl
      · simp only [List.length_append, List.flatMap_append, List.length_cons, List.length_nil]
        exact Grow.cast (by simp [PlR]) rfl hg'
    obtain rfl : i = ws.length := by omega
    rw [List.take_of_length_le (by rw [hm1]; omega)] at hl1
    refine W.df [] 142 (decide (z1 < (ws.length : Int))) (by kernel_rfl) (decide_eq_false (by omega)) ?_
    refine W.ia [142] 2 bc oc cs.length c1 .i64 ws.length (ws.length : Int) rfl tbOk (by kernel_rfl) (by omega) ?_
    refine W.lds [] bc (oc + ws.length * 2) (dpc pn) tbOk (by kernel_rfl) (RA.rdn bc oc (ws.length * 2) (dp_atq hpn)) ?_
    refine W.ia [] 2 bw ow ws.length c2 .i64 (ws.length - 1) (IntKind.i64.wrap ((ws.length : Int) - 1)) (by rw [IntKind.wrap_i64]; omega) tbOk (by kernel_rfl) (by omega) ?_
    refine W.lds [] bw (ow + (ws.length - 1) * 2) (dpc wn) tbOk (by kernel_rfl) (RA.rdn bw ow ((ws.length - 1) * 2) (dp_atq hwn1)) ?_
    refine W.cl [] (by kernel_rfl) (p_tipQ pn wn wn.x wn.y rfl rfl ⟨n6, a6, m6, b6⟩ ⟨n6, a6, m6, b6⟩ (h := h) (b := h) (kind == 1) (hcr _ _ hpn) (hway _ _ hwn1).1 hqn) ?_
    rintro _ _ ⟨bt, ot, ct, lt, rfl, hlt2, hnt, rfl⟩
    have hltn := num_len hnt
    have hbnn := hbn h (h) (kind == 1)
    refine W.apz [] O1 40 640 l1.length lt.length ao1 v1 (.slice (some ⟨bt, ot, none⟩) lt.length ct) (l1.flatMap PlR.cells) ys1 ((lt.take lt.length).flatMap PlR.cells) tbOk (by kernel_rfl) hg1 (by omega) (reads_pl bt ot O1 lt.length ct (Nat.le_refl _)) pls_one (by omega) (by decide) (fun v2 O2 hg2 => ?_)
    have hl2 : (l1 ++ lt).map PlE.num = [el.num] ++ miters h cs.tail ws ++ tipL pn wn h (h) (kind == 1) := by rw [List.map_append, hl1, hnt]
    refine W.lpo [] [21, 23] (fun a : PSt => [(21, a.v), (23, .int .i64 a.z)]) (fun _ => []) (fun a => a.O) (fun a => [OS PlR (130, a.l), RA (some ⟨bc, oc, none⟩) (cs.flatMap dpc), RA (some ⟨bw, ow, none⟩) (ws.flatMap dpc), QF n6 a6 m6 b6 (2, h), OL PlR (some ⟨bb, ob, none⟩) (130, lb)]) (fun a => a.z = a.i ∧ a.i ≤ ws.length - 1 ∧ a.l.map PlE.num = [el.num] ++ miters h cs.tail ws ++ tipL pn wn h (h) (kind == 1) ++ ((miters (-h) cs.tail ws).drop a.i).reverse ∧ Grow 40 a.O a.v a.l.length (a.l.flatMap PlR.cells)) (fun a => a.i) ⟨ws.length - 1, IntKind.i64.wrap ((ws.length : Int) - 1), v2, O2, l1 ++ lt, none, []⟩ (by kernel_rfl) (by kernel_rfl) ⟨by simp only [IntKind.wrap_i64]; omega, Nat.le_refl _, ?_, Grow.cast (by simp [List.flatMap_append]) (by simp) hg2⟩ (entC (entOa (l := l1) (l2 := lt) (ao := some ⟨bt, ot, none⟩)) (entC entK (entC entK (entC entK (entC entK entE))))) ?_
    · simp only
      rw [hl2, List.drop_eq_nil_of_le (by rw [hm2]; exact Nat.le_refl _), List.reverse_nil, List.append_nil]
    rintro ⟨i, z3, v3, O3, l3, ao3, ys3⟩ K2 ⟨hz3, hi3, hl3, hg3⟩ close2
    simp only at hz3 hi3 hl3 hg3
    have hl3n := num_len hl3
    simp only [List.length_append, List.length_reverse, List.length_drop, hm1, hm2, List.length_cons, List.length_nil] at hl3n
    cases i with
    | succ i =>
      obtain ⟨p, hp⟩ := hcget (i + 1) (by omega)
      obtain ⟨d, hd⟩ := hwget i (by omega)
      obtain ⟨e, he⟩ := hwget (i + 1) (by omega)
      have hma := miters_at (-h) cs.tail ws i p d e (htl _ _ hp) hd he
      refine W.dt [] 182 (decide (z3 > 0)) (by kernel_rfl) (decide_eq_true (by omega)) ?_
      refine W.ia [182] 2 bc oc cs.length c1 .i64 (i + 1) z3 hz3 tbOk (by kernel_rfl) (by omega) ?_
      refine W.lds [] bc (oc + (i + 1) * 2) (dpc p) tbOk (by kernel_rfl) (RA.rdn bc oc ((i + 1) * 2) (dp_atq hp)) ?_
      refine W.ia [] 2 bw ow ws.length c2 .i64 i (IntKind.i64.wrap (z3 - 1)) (by rw [IntKind.wrap_i64]; omega) tbOk (by kernel_rfl) (by omega) ?_
      refine W.lds [] bw (ow + i * 2) (dpc d) tbOk (by kernel_rfl) (RA.rdn bw ow (i * 2) (dp_atq hd)) ?_
      refine W.ia [] 2 bw ow ws.length c2 .i64 (i + 1) z3 hz3 tbOk (by kernel_rfl) (by omega) ?_
      refine W.lds [] bw (ow + (i + 1) * 2) (dpc e) tbOk (by kernel_rfl) (RA.rdn bw ow ((i + 1) * 2) (dp_atq he)) ?_
      refine W.cl [] (by kernel_rfl) (p_qneg n6 a6 m6 b6) ?_
      rintro _ _ ⟨n8, a8, m8, b8, rfl, rfl⟩
      refine W.cl [] (by kernel_rfl) (p_miter p d e ⟨n8, a8, m8, b8⟩ (h := -h) (hcr _ _ hp) (hway _ _ hd).1 (hway _ _ he).1 (hcross _ _ _ hd he)) ?_
      rintro _ _ ⟨X, Y, rfl, rfl⟩
      refine W.bs [] 1 (svc X ++ svc Y) tbOk (by kernel_rfl) (fun B2 => ?_)
      refine W.app [] O3 [] O3 [] 40 640 l3.length 1 v3 (.slice (some ⟨B2, 0, none⟩) 1 1) (l3.flatMap PlR.cells) (svc X ++ svc Y) tbOk (by kernel_rfl) (by simp) hg3 (reads_row B2 O3 1 40 rfl 1) (pl_one ⟨X, Y, ⟨0, 0, 0, 0, 0, 0⟩, ⟨0, 0, 0, 0, 0, 0⟩⟩) (by omega) (by decide) (fun v' O' hg' => ?_)
      refine close2 [] _ _ ⟨i, IntKind.i64.wrap (z3 - 1), v', O', l3 ++ [⟨X, Y, (miterP p d e (-h)).1, (miterP p d e (-h)).2⟩], none, []⟩ (by kernel_rfl) (by simp only [List.nil_append, List.append_nil]; kernel_rfl) ⟨by simp only [IntKind.wrap_i64]; omega, by simp only; omega, ?_, ?_⟩ (by simp only; omega) (entC (entOs ⟨X, Y, (miterP p d e (-h)).1, (miterP p d e (-h)).2⟩) (entC entK (entC entK (entC entK (entC entK entE)))))
      · simp only
        rw [List.map_append, hl3, drop_snoc hma, ← List.append_assoc]
        rfl
      · simp only [List.length_append, List.flatMap_append, List.length_cons, List.length_nil]
        exact Grow.cast (by simp [PlR]) rfl hg'
    | zero =>
      rw [List.drop_zero] at hl3
      refine W.df [] 182 (decide (z3 > 0)) (by kernel_rfl) (decide_eq_false (by omega)) ?_
      refine W.slp [182] 40 bb ob (lb.length - 1) lb.length cb (IntKind.i64.wrap ((lb.length : Int) - 1)) (by rw [IntKind.wrap_i64]; omega) tbOk (by kernel_rfl) (by omega) (by omega) ?_
      refine W.app [] O3 [] O3 [] 40 640 l3.length (lb.length - 1) v3 (.slice (some ⟨bb, ob, none⟩) (lb.length - 1) cb) (l3.flatMap PlR.cells) ((lb.take (lb.length - 1)).flatMap PlR.cells) tbOk (by kernel_rfl) (by simp) hg3 (reads_pl bb ob O3 (lb.length - 1) cb (by omega)) pls_one (by omega) (by decide) (fun v' O' hg' => ?_)
      have hg9 : Grow 40 O' v' (l3 ++ lb.take (lb.length - 1)).length ((l3 ++ lb.take (lb.length - 1)).flatMap PlR.cells) := Grow.cast (by rw [List.flatMap_append]) (by rw [List.length_append, List.length_take, Nat.min_eq_left (by omega)]) hg'
      refine W.pubgr (by simp only [List.nil_append, List.append_nil]; kernel_rfl) hg9 (by kernel_rfl) (fun ao c' hv hc' => ?_)
      subst hv
      refine W.more (by kernel_rfl) (entC (entOt (ao := some ⟨bb, ob, none⟩) (r := lb.length - 1) (l := l3) (l2 := lb) (L := 130)) entE) ?_
      refine W.r [] (.tuple #[.slice ao (l3 ++ lb.take (lb.length - 1)).length c', .int .i64 0]) (by kernel_rfl) (.inr ⟨hoe, ao, c', l3 ++ lb.take (lb.length - 1), rfl, hc', ?_, rfl⟩) (entPlsA (fun I w hd hh e he => (Has.p (k := OS PlR) (a := (130, l3 ++ lb.take (lb.length - 1))) inferInstance hh) e he))
      rw [← hcs, ← hws, hpl, List.map_append, hl3, hdl, ← hlbn, ← hnb2, List.map_take]
  have hkn2 : kind ≠ 2 := by intro e; rw [e] at hk2; simp at hk2
  refine W.d [100] 104 (kind == 4) (by kernel_rfl) (fun hk4 => ?_) (fun hk4 => ?_)
  · have hk := eq_of_beq hk4
    refine W.cl [104] (by kernel_rfl) (p_zof bg (by omega) (by omega)) ?_
    rintro _ _ ⟨u7, d7, rfl, rfl⟩
    refine W.cl [] (by kernel_rfl) (p_qwhole u7 d7) ?_
    rintro _ _ ⟨nb, ab, mb, bb2, rfl, rfl⟩
    refine W.cl [] (by kernel_rfl) (p_zof en (by omega) (by omega)) ?_
    rintro _ _ ⟨u9, d9, rfl, rfl⟩
    refine W.cl [] (by kernel_rfl) (p_qwhole u9 d9) ?_
    rintro _ _ ⟨ne, ae, me, be2, rfl, rfl⟩
    have hpl := hplaces (((bg : Int) : Rat)) (((en : Int) : Rat)) (by unfold endsOf; rw [if_neg hkn2, if_pos hk])
    refine W.ia [] 2 bc oc cs.length c1 .i64 0 0 rfl tbOk (by kernel_rfl) (by omega) ?_
    refine W.lds [] bc (oc + 0 * 2) (dpc p0) tbOk (by kernel_rfl) (RA.rdn bc oc (0 * 2) (dp_atq hp0)) ?_
    refine W.ia [] 2 bw ow ws.length c2 .i64 0 0 rfl tbOk (by kernel_rfl) (by omega) ?_
    refine W.fa [] 0 bw (ow + 0 * 2) tbOk (by kernel_rfl) ?_
    refine W.ld [] 1 bw (ow + 0 * 2 + 0) (.int .i64 w0.x) tbOk (by kernel_rfl) (fun I w hI hh => RA.rdn bw ow (0 * 2) (dp_atq hw0) I w hI hh 0 _ rfl) ?_
    refine W.ia [] 2 bw ow ws.length c2 .i64 0 0 rfl tbOk (by kernel_rfl) (by omega) ?_
    refine W.fa [] 1 bw (ow + 0 * 2) tbOk (by kernel_rfl) ?_
    refine W.ld [] 1 bw (ow + 0 * 2 + 1) (.int .i64 w0.y) tbOk (by kernel_rfl) (fun I w hI hh => RA.rdn bw ow (0 * 2) (dp_atq hw0) I w hI hh 1 _ rfl) ?_
    refine W.cl [] (by kernel_rfl) (p_tipQ p0 (negD w0) (IntKind.i64.wrap (0 - w0.x)) (IntKind.i64.wrap (0 - w0.y)) hnx hny ⟨n6, a6, m6, b6⟩ ⟨nb, ab, mb, bb2⟩ (h := h) (b := ((bg : Int) : Rat)) (kind == 1) (hcr _ _ hp0) hw0b.neg hq0) ?_
    rintro _ _ ⟨bb, ob, cb, lb, rfl, hlb, hnb2, rfl⟩
    have hlbn := num_len hnb2
    have hb00 := hb0 h (((bg : Int) : Rat)) (kind == 1)
    obtain ⟨el, hel⟩ : ∃ el, lb[lb.length - 1]? = some el := ⟨_, List.getElem?_eq_getElem (by omega)⟩
    have hdl : (tipL p0 (negD w0) h (((bg : Int) : Rat)) (kind == 1)).drop ((tipL p0 (negD w0) h (((bg : Int) : Rat)) (kind == 1)).length - 1) = [el.num] := by
      obtain ⟨hk, rfl⟩ := List.getElem?_eq_some_iff.1 hel
      rw [← hlbn, ← hnb2, ← List.map_drop, List.drop_eq_getElem_cons hk, List.drop_eq_nil_of_le (by omega)]
      rfl
    refine W.ia [] 40 bb ob lb.length cb .i64 (lb.length - 1) (IntKind.i64.wrap ((lb.length : Int) - 1)) (by rw [IntKind.wrap_i64]; omega) tbOk (by kernel_rfl) (by omega) ?_
    refine W.lds [] bb (ob + (lb.length - 1) * 40) (svc el.x ++ svc el.y) tbOk (by kernel_rfl) (OL.toldq hel) ?_
    refine W.bs [] 1 (svc el.x ++ svc el.y) tbOk (by kernel_rfl) (fun B1 => ?_)
    refine W.lpo [] [21, 22] (fun a : PSt => [(21, a.v), (22, .int .i64 a.z)]) (fun _ => []) (fun a => a.O) (fun a => [OS PlR (130, a.l), RA a.ao a.ys, RA (some ⟨bc, oc, none⟩) (cs.flatMap dpc), RA (some ⟨bw, ow, none⟩) (ws.flatMap dpc), QF n6 a6 m6 b6 (2, h), QG ⟨ne, ae, me, be2⟩ (2, ((en : Int) : Rat)), OL PlR (some ⟨bb, ob, none⟩) (130, lb)]) (fun a => a.z = a.i ∧ 1 ≤ a.i ∧ a.i ≤ ws.length ∧ a.l.map PlE.num = [el.num] ++ (miters h cs.tail ws).take (a.i - 1) ∧ GrowZ 40 a.O a.v a.l.length (a.l.flatMap PlR.cells) a.ao a.ys) (fun a => ws.length - a.i) ⟨1, 1, .slice (some ⟨B1, 0, none⟩) 1 1, [], [el], some ⟨B1, 0, none⟩, svc el.x ++ svc el.y⟩ (by kernel_rfl) (by kernel_rfl) ⟨rfl, Nat.le_refl _, by simp only; omega, by simp only [Nat.sub_self, List.take_zero, List.append_nil]; rfl, .inl ⟨rfl, rfl, Nat.zero_lt_one, rfl, rfl⟩⟩ (entC (entO1 (ao := some ⟨bb, ob, none⟩) hel) (entC entKR (entC entK (entC entK (entC entK (entC entK (entC entK entE))))))) ?_
    rintro ⟨i, z1, v1, O1, l1, ao1, ys1⟩ K1 ⟨hz1, hi1', hi', hl1, hg1⟩ close1
    simp only at hz1 hi1' hi' hl1 hg1
    have hl1n := num_len hl1
    rw [List.length_append, List.length_take, hm1] at hl1n
    simp only [List.length_cons, List.length_nil] at hl1n
    by_cases hlt1 : i < ws.length
    · obtain ⟨p, hp⟩ := hcget i (by omega)
      obtain ⟨d, hd⟩ := hwget (i - 1) (by omega)
      obtain ⟨e, he⟩ := hwget i hlt1
      have he1 : ws[i - 1 + 1]? = some e := by rw [Nat.sub_add_cancel hi1']; exact he
      have hp1 : cs[i - 1 + 1]? = some p := by rw [Nat.sub_add_cancel hi1']; exact hp
      have hma := miters_at h cs.tail ws (i - 1) p d e (htl _ _ hp1) hd he1
      refine W.dt [] 142 (decide (z1 < (ws.length : Int))) (by kernel_rfl) (decide_eq_true (by omega)) ?_
      refine W.ia [142] 2 bc oc cs.length c1 .i64 i z1 hz1 tbOk (by kernel_rfl) (by omega) ?_
      refine W.lds [] bc (oc + i * 2) (dpc p) tbOk (by kernel_rfl) (RA.rdn bc oc (i * 2) (dp_atq hp)) ?_
      refine W.ia [] 2 bw ow ws.length c2 .i64 (i - 1) (IntKind.i64.wrap (z1 - 1)) (by rw [IntKind.wrap_i64]; omega) tbOk (by kernel_rfl) (by omega) ?_
      refine W.lds [] bw (ow + (i - 1) * 2) (dpc d) tbOk (by kernel_rfl) (RA.rdn bw ow ((i - 1) * 2) (dp_atq hd)) ?_
      refine W.ia [] 2 bw ow ws.length c2 .i64 i z1 hz1 tbOk (by kernel_rfl) hlt1 ?_
      refine W.lds [] bw (ow + i * 2) (dpc e) tbOk (by kernel_rfl) (RA.rdn bw ow (i * 2) (dp_atq he)) ?_
      refine W.cl [] (by kernel_rfl) (p_miter p d e ⟨n6, a6, m6, b6⟩ (h := h) (hcr _ _ hp) (hway _ _ hd).1 (hway _ _ he).1 (hcross _ _ _ hd he1)) ?_
      rintro _ _ ⟨X, Y, rfl, rfl⟩
      refine W.bs [] 1 (svc X ++ svc Y) tbOk (by kernel_rfl) (fun B2 => ?_)
      refine W.apz [] O1 40 640 l1.length 1 ao1 v1 (.slice (some ⟨B2, 0, none⟩) 1 1) (l1.flatMap PlR.cells) ys1 (svc X ++ svc Y) tbOk (by kernel_rfl) hg1 (by decide) (reads_row B2 O1 1 40 rfl 1) (pl_one ⟨X, Y, ⟨0, 0, 0, 0, 0, 0⟩, ⟨0, 0, 0, 0, 0, 0⟩⟩) (by omega) (by decide) (fun v' O' hg' => ?_)
      refine close1 [] _ _ ⟨i + 1, IntKind.i64.wrap (z1 + 1), v', O', l1 ++ [⟨X, Y, (miterP p d e h).1, (miterP p d e h).2⟩], none, []⟩ (by kernel_rfl) (by kernel_rfl) ⟨by simp only [IntKind.wrap_i64]; omega, by simp only; omega, hlt1, ?_, .inr ⟨?_, rfl, rfl⟩⟩ (by simp only; omega) (entC (entOs ⟨X, Y, (miterP p d e h).1, (miterP p d e h).2⟩) (entC entRn (entC entK (entC entK (entC entK (entC entK (entC entK entE)))))))
      · simp only
        rw [List.map_append, hl1, Nat.add_sub_cancel, show i = i - 1 + 1 by omega, take_snoc hma, List.append_assoc, Nat.add_sub_cancel]
        rfl
      · simp only [List.length_append, List.flatMap_append, List.length_cons, List.length_nil]
        exact Grow.cast (by simp [PlR]) rfl hg'
    obtain rfl : i = ws.length := by omega
    rw [List.take_of_length_le (by rw [hm1]; omega)] at hl1
    refine W.df [] 142 (decide (z1 < (ws.length : Int))) (by kernel_rfl) (decide_eq_false (by omega)) ?_
    refine W.ia [142] 2 bc oc cs.length c1 .i64 ws.length (ws.length : Int) rfl tbOk (by kernel_rfl) (by omega) ?_
    refine W.lds [] bc (oc + ws.length * 2) (dpc pn) tbOk (by kernel_rfl) (RA.rdn bc oc (ws.length * 2) (dp_atq hpn)) ?_
    refine W.ia [] 2 bw ow ws.length c2 .i64 (ws.length - 1) (IntKind.i64.wrap ((ws.length : Int) - 1)) (by rw [IntKind.wrap_i64]; omega) tbOk (by kernel_rfl) (by omega) ?_
    refine W.lds [] bw (ow + (ws.length - 1) * 2) (dpc wn) tbOk (by kernel_rfl) (RA.rdn bw ow ((ws.length - 1) * 2) (dp_atq hwn1)) ?_
    refine W.cl [] (by kernel_rfl) (p_tipQ pn wn wn.x wn.y rfl rfl ⟨n6, a6, m6, b6⟩ ⟨ne, ae, me, be2⟩ (h := h) (b := ((en : Int) : Rat)) (kind == 1) (hcr _ _ hpn) (hway _ _ hwn1).1 hqn) ?_
    rintro _ _ ⟨bt, ot, ct, lt, rfl, hlt2, hnt, rfl⟩
    have hltn := num_len hnt
    have hbnn := hbn h (((en : Int) : Rat)) (kind == 1)
    refine W.apz [] O1 40 640 l1.length lt.length ao1 v1 (.slice (some ⟨bt, ot, none⟩) lt.length ct) (l1.flatMap PlR.cells) ys1 ((lt.take lt.length).flatMap PlR.cells) tbOk (by kernel_rfl) hg1 (by omega) (reads_pl bt ot O1 lt.length ct (Nat.le_refl _)) pls_one (by omega) (by decide) (fun v2 O2 hg2 => ?_)
    have hl2 : (l1 ++ lt).map PlE.num = [el.num] ++ miters h cs.tail ws ++ tipL pn wn h (((en : Int) : Rat)) (kind == 1) := by rw [List.map_append, hl1, hnt]
    refine W.lpo [] [21, 23] (fun a : PSt => [(21, a.v), (23, .int .i64 a.z)]) (fun _ => []) (fun a => a.O) (fun a => [OS PlR (130, a.l), RA (some ⟨bc, oc, none⟩) (cs.flatMap dpc), RA (some ⟨bw, ow, none⟩) (ws.flatMap dpc), QF n6 a6 m6 b6 (2, h), OL PlR (some ⟨bb, ob, none⟩) (130, lb)]) (fun a => a.z = a.i ∧ a.i ≤ ws.length - 1 ∧ a.l.map PlE.num = [el.num] ++ miters h cs.tail ws ++ tipL pn wn h (((en : Int) : Rat)) (kind == 1) ++ ((miters (-h) cs.tail ws).drop a.i).reverse ∧ Grow 40 a.O a.v a.l.length (a.l.flatMap PlR.cells)) (fun a => a.i) ⟨ws.length - 1, IntKind.i64.wrap ((ws.length : Int) - 1), v2, O2, l1 ++ lt, none, []⟩ (by kernel_rfl) (by kernel_rfl) ⟨by simp only [IntKind.wrap_i64]; omega, Nat.le_refl _, ?_, Grow.cast (by simp [List.flatMap_append]) (by simp) hg2⟩ (entC (entOa (l := l1) (l2 := lt) (ao := some ⟨bt, ot, none⟩)) (entC entK (entC entK (entC entK (entC entK entE))))) ?_
    · simp only
      rw [hl2, List.drop_eq_nil_of_le (by rw [hm2]; exact Nat.le_refl _), List.reverse_nil, List.append_nil]
    rintro ⟨i, z3, v3, O3, l3, ao3, ys3⟩ K2 ⟨hz3, hi3, hl3, hg3⟩ close2
    simp only at hz3 hi3 hl3 hg3
    have hl3n := num_len hl3
    simp only [List.length_append, List.length_reverse, List.length_drop, hm1, hm2, List.length_cons, List.length_nil] at hl3n
    cases i with
    | succ i =>
      obtain ⟨p, hp⟩ := hcget (i + 1) (by omega)
      obtain ⟨d, hd⟩ := hwget i (by omega)
      obtain ⟨e, he⟩ := hwget (i + 1) (by omega)
      have hma := miters_at (-h) cs.tail ws i p d e (htl _ _ hp) hd he
      refine W.dt [] 182 (decide (z3 > 0)) (by kernel_rfl) (decide_eq_true (by omega)) ?_
      refine W.ia [182] 2 bc oc cs.length c1 .i64 (i + 1) z3 hz3 tbOk (by kernel_rfl) (by omega) ?_
      refine W.lds [] bc (oc + (i + 1) * 2) (dpc p) tbOk (by kernel_rfl) (RA.rdn bc oc ((i + 1) * 2) (dp_atq hp)) ?_
      refine W.ia [] 2 bw ow ws.length c2 .i64 i (IntKind.i64.wrap (z3 - 1)) (by rw [IntKind.wrap_i64]; omega) tbOk (by kernel_rfl) (by omega) ?_
      refine W.lds [] bw (ow + i * 2) (dpc d) tbOk (by kernel_rfl) (RA.rdn bw ow (i * 2) (dp_atq hd)) ?_
      refine W.ia [] 2 bw ow ws.length c2 .i64 (i + 1) z3 hz3 tbOk (by kernel_rfl) (by omega) ?_
      refine W.lds [] bw (ow + (i + 1) * 2) (dpc e) tbOk (by kernel_rfl) (RA.rdn bw ow ((i + 1) * 2) (dp_atq he)) ?_
      refine W.cl [] (by kernel_rfl) (p_qneg n6 a6 m6 b6) ?_
      rintro _ _ ⟨n8, a8, m8, b8, rfl, rfl⟩
      refine W.cl [] (by kernel_rfl) (p_miter p d e ⟨n8, a8, m8, b8⟩ (h := -h) (hcr _ _ hp) (hway _ _ hd).1 (hway _ _ he).1 (hcross _ _ _ hd he)) ?_
      rintro _ _ ⟨X, Y, rfl, rfl⟩
      refine W.bs [] 1 (svc X ++ svc Y) tbOk (by kernel_rfl) (fun B2 => ?_)
      refine W.app [] O3 [] O3 [] 40 640 l3.length 1 v3 (.slice (some ⟨B2, 0, none⟩) 1 1) (l3.flatMap PlR.cells) (svc X ++ svc Y) tbOk (by kernel_rfl) (by simp) hg3 (reads_row B2 O3 1 40 rfl 1) (pl_one ⟨X, Y, ⟨0, 0, 0, 0, 0, 0⟩, ⟨0, 0, 0, 0, 0, 0⟩⟩) (by omega) (by decide) (fun v' O' hg' => ?_)
      refine close2 [] _ _ ⟨i, IntKind.i64.wrap (z3 - 1), v', O', l3 ++ [⟨X, Y, (miterP p d e (-h)).1, (miterP p d e (-h)).2⟩], none, []⟩ (by kernel_rfl) (by simp only [List.nil_append, List.append_nil]; kernel_rfl) ⟨by simp only [IntKind.wrap_i64]; omega, by simp only; omega, ?_, ?_⟩ (by simp only; omega) (entC (entOs ⟨X, Y, (miterP p d e (-h)).1, (miterP p d e (-h)).2⟩) (entC entK (entC entK (entC entK (entC entK entE)))))
      · simp only
        rw [List.map_append, hl3, drop_snoc hma, ← List.append_assoc]
        rfl
      · simp only [List.length_append, List.flatMap_append, List.length_cons, List.length_nil]
        exact Grow.cast (by simp [PlR]) rfl hg'
    | zero =>
      rw [List.drop_zero] at hl3
      refine W.df [] 182 (decide (z3 > 0)) (by kernel_rfl) (decide_eq_false (by omega)) ?_
      refine W.slp [182] 40 bb ob (lb.length - 1) lb.length cb (IntKind.i64.wrap ((lb.length : Int) - 1)) (by rw [IntKind.wrap_i64]; omega) tbOk (by kernel_rfl) (by omega) (by omega) ?_
      refine W.app [] O3 [] O3 [] 40 640 l3.length (lb.length - 1) v3 (.slice (some ⟨bb, ob, none⟩) (lb.length - 1) cb) (l3.flatMap PlR.cells) ((lb.take (lb.length - 1)).flatMap PlR.cells) tbOk (by kernel_rfl) (by simp) hg3 (reads_pl bb ob O3 (lb.length - 1) cb (by omega)) pls_one (by omega) (by decide) (fun v' O' hg' => ?_)
      have hg9 : Grow 40 O' v' (l3 ++ lb.take (lb.length - 1)).length ((l3 ++ lb.take (lb.length - 1)).flatMap PlR.cells) := Grow.cast (by rw [List.flatMap_append]) (by rw [List.length_append, List.length_take, Nat.min_eq_left (by omega)]) hg'
      refine W.pubgr (by simp only [List.nil_append, List.append_nil]; kernel_rfl) hg9 (by kernel_rfl) (fun ao c' hv hc' => ?_)
      subst hv
      refine W.more (by kernel_rfl) (entC (entOt (ao := some ⟨bb, ob, none⟩) (r := lb.length - 1) (l := l3) (l2 := lb) (L := 130)) entE) ?_
      refine W.r [] (.tuple #[.slice ao (l3 ++ lb.take (lb.length - 1)).length c', .int .i64 0]) (by kernel_rfl) (.inr ⟨hoe, ao, c', l3 ++ lb.take (lb.length - 1), rfl, hc', ?_, rfl⟩) (entPlsA (fun I w hd hh e he => (Has.p (k := OS PlR) (a := (130, l3 ++ lb.take (lb.length - 1))) inferInstance hh) e he))
      rw [← hcs, ← hws, hpl, List.map_append, hl3, hdl, ← hlbn, ← hnb2, List.map_take]
  have hkn4 : kind ≠ 4 := by intro e; rw [e] at hk4; simp at hk4
  refine W.more (by kernel_rfl) (entQ0 (L' := 0)) ?_
  have hpl := hplaces (0) (0) (by unfold endsOf; rw [if_neg hkn2, if_neg hkn4])
  refine W.ia [104] 2 bc oc cs.length c1 .i64 0 0 rfl tbOk (by kernel_rfl) (by omega) ?_
  refine W.lds [] bc (oc + 0 * 2) (dpc p0) tbOk (by kernel_rfl) (RA.rdn bc oc (0 * 2) (dp_atq hp0)) ?_
  refine W.ia [] 2 bw ow ws.length c2 .i64 0 0 rfl tbOk (by kernel_rfl) (by omega) ?_
  refine W.fa [] 0 bw (ow + 0 * 2) tbOk (by kernel_rfl) ?_
  refine W.ld [] 1 bw (ow + 0 * 2 + 0) (.int .i64 w0.x) tbOk (by kernel_rfl) (fun I w hI hh => RA.rdn bw ow (0 * 2) (dp_atq hw0) I w hI hh 0 _ rfl) ?_
  refine W.ia [] 2 bw ow ws.length c2 .i64 0 0 rfl tbOk (by kernel_rfl) (by omega) ?_
  refine W.fa [] 1 bw (ow + 0 * 2) tbOk (by kernel_rfl) ?_
  refine W.ld [] 1 bw (ow + 0 * 2 + 1) (.int .i64 w0.y) tbOk (by kernel_rfl) (fun I w hI hh => RA.rdn bw ow (0 * 2) (dp_atq hw0) I w hI hh 1 _ rfl) ?_
  refine W.cl [] (by kernel_rfl) (p_tipQ p0 (negD w0) (IntKind.i64.wrap (0 - w0.x)) (IntKind.i64.wrap (0 - w0.y)) hnx hny ⟨n6, a6, m6, b6⟩ nilQ (h := h) (b := 0) (kind == 1) (hcr _ _ hp0) hw0b.neg hq0) ?_
  rintro _ _ ⟨bb, ob, cb, lb, rfl, hlb, hnb2, rfl⟩
  have hlbn := num_len hnb2
  have hb00 := hb0 h (0) (kind == 1)
  obtain ⟨el, hel⟩ : ∃ el, lb[lb.length - 1]? = some el := ⟨_, List.getElem?_eq_getElem (by omega)⟩
  have hdl : (tipL p0 (negD w0) h (0) (kind == 1)).drop ((tipL p0 (negD w0) h (0) (kind == 1)).length - 1) = [el.num] := by
    obtain ⟨hk, rfl⟩ := List.getElem?_eq_some_iff.1 hel
    rw [← hlbn, ← hnb2, ← List.map_drop, List.drop_eq_getElem_cons hk, List.drop_eq_nil_of_le (by omega)]
    rfl
  refine W.ia [] 40 bb ob lb.length cb .i64 (lb.length - 1) (IntKind.i64.wrap ((lb.length : Int) - 1)) (by rw [IntKind.wrap_i64]; omega) tbOk (by kernel_rfl) (by omega) ?_
  refine W.lds [] bb (ob + (lb.length - 1) * 40) (svc el.x ++ svc el.y) tbOk (by kernel_rfl) (OL.toldq hel) ?_
  refine W.bs [] 1 (svc el.x ++ svc el.y) tbOk (by kernel_rfl) (fun B1 => ?_)
  refine W.lpo [] [21, 22] (fun a : PSt => [(21, a.v), (22, .int .i64 a.z)]) (fun _ => []) (fun a => a.O) (fun a => [OS PlR (130, a.l), RA a.ao a.ys, RA (some ⟨bc, oc, none⟩) (cs.flatMap dpc), RA (some ⟨bw, ow, none⟩) (ws.flatMap dpc), QF n6 a6 m6 b6 (2, h), QG nilQ (0, 0), OL PlR (some ⟨bb, ob, none⟩) (130, lb)]) (fun a => a.z = a.i ∧ 1 ≤ a.i ∧ a.i ≤ ws.length ∧ a.l.map PlE.num = [el.num] ++ (miters h cs.tail ws).take (a.i - 1) ∧ GrowZ 40 a.O a.v a.l.length (a.l.flatMap PlR.cells) a.ao a.ys) (fun a => ws.length - a.i) ⟨1, 1, .slice (some ⟨B1, 0, none⟩) 1 1, [], [el], some ⟨B1, 0, none⟩, svc el.x ++ svc el.y⟩ (by kernel_rfl) (by kernel_rfl) ⟨rfl, Nat.le_refl _, by simp only; omega, by simp only [Nat.sub_self, List.take_zero, List.append_nil]; rfl, .inl ⟨rfl, rfl, Nat.zero_lt_one, rfl, rfl⟩⟩ (entC (entO1 (ao := some ⟨bb, ob, none⟩) hel) (entC entKR (entC entK (entC entK (entC entK (entC entK (entC entK entE))))))) ?_
  rintro ⟨i, z1, v1, O1, l1, ao1, ys1⟩ K1 ⟨hz1, hi1', hi', hl1, hg1⟩ close1
  simp only at hz1 hi1' hi' hl1 hg1
  have hl1n := num_len hl1
  rw [List.length_append, List.length_take, hm1] at hl1n
  simp only [List.length_cons, List.length_nil] at hl1n
  by_cases hlt1 : i < ws.length
  · obtain ⟨p, hp⟩ := hcget i (by omega)
    obtain ⟨d, hd⟩ := hwget (i - 1) (by omega)
    obtain ⟨e, he⟩ := hwget i hlt1
    have he1 : ws[i - 1 + 1]? = some e := by rw [Nat.sub_add_cancel hi1']; exact he
    have hp1 : cs[i - 1 + 1]? = some p := by rw [Nat.sub_add_cancel hi1']; exact hp
    have hma := miters_at h cs.tail ws (i - 1) p d e (htl _ _ hp1) hd he1
    refine W.dt [] 142 (decide (z1 < (ws.length : Int))) (by kernel_rfl) (decide_eq_true (by omega)) ?_
    refine W.ia [142] 2 bc oc cs.length c1 .i64 i z1 hz1 tbOk (by kernel_rfl) (by omega) ?_
    refine W.lds [] bc (oc + i * 2) (dpc p) tbOk (by kernel_rfl) (RA.rdn bc oc (i * 2) (dp_atq hp)) ?_
    refine W.ia [] 2 bw ow ws.length c2 .i64 (i - 1) (IntKind.i64.wrap (z1 - 1)) (by rw [IntKind.wrap_i64]; omega) tbOk (by kernel_rfl) (by omega) ?_
    refine W.lds [] bw (ow + (i - 1) * 2) (dpc d) tbOk (by kernel_rfl) (RA.rdn bw ow ((i - 1) * 2) (dp_atq hd)) ?_
    refine W.ia [] 2 bw ow ws.length c2 .i64 i z1 hz1 tbOk (by kernel_rfl) hlt1 ?_
    refine W.lds [] bw (ow + i * 2) (dpc e) tbOk (by kernel_rfl) (RA.rdn bw ow (i * 2) (dp_atq he)) ?_
    refine W.cl [] (by kernel_rfl) (p_miter p d e ⟨n6, a6, m6, b6⟩ (h := h) (hcr _ _ hp) (hway _ _ hd).1 (hway _ _ he).1 (hcross _ _ _ hd he1)) ?_
    rintro _ _ ⟨X, Y, rfl, rfl⟩
    refine W.bs [] 1 (svc X ++ svc Y) tbOk (by kernel_rfl) (fun B2 => ?_)
    refine W.apz [] O1 40 640 l1.length 1 ao1 v1 (.slice (some ⟨B2, 0, none⟩) 1 1) (l1.flatMap PlR.cells) ys1 (svc X ++ svc Y) tbOk (by kernel_rfl) hg1 (by decide) (reads_row B2 O1 1 40 rfl 1) (pl_one ⟨X, Y, ⟨0, 0, 0, 0, 0, 0⟩, ⟨0, 0, 0, 0, 0, 0⟩⟩) (by omega) (by decide) (fun v' O' hg' => ?_)
    refine close1 [] _ _ ⟨i + 1, IntKind.i64.wrap (z1 + 1), v', O', l1 ++ [⟨X, Y, (miterP p d e h).1, (miterP p d e h).2⟩], none, []⟩ (by kernel_rfl) (by kernel_rfl) ⟨by simp only [IntKind.wrap_i64]; omega, by simp only; omega, hlt1, ?_, .inr ⟨?_, rfl, rfl⟩⟩ (by simp only; omega) (entC (entOs ⟨X, Y, (miterP p d e h).1, (miterP p d e h).2⟩) (entC entRn (entC entK (entC entK (entC entK (entC entK (entC entK entE)))))))
    · simp only
      rw [List.map_append, hl1, Nat.add_sub_cancel, show i = i - 1 + 1 by omega, take_snoc hma, List.append_assoc, Nat.add_sub_cancel]
      rfl
    · simp only [List.length_append, List.flatMap_append, List.length_cons, List.length_nil]
      exact Grow.cast (by simp [PlR]) rfl hg'
  obtain rfl : i = ws.length := by omega
  rw [List.take_of_length_le (by rw [hm1]; omega)] at hl1
  refine W.df [] 142 (decide (z1 < (ws.length : Int))) (by kernel_rfl) (decide_eq_false (by omega)) ?_
  refine W.ia [142] 2 bc oc cs.length c1 .i64 ws.length (ws.length : Int) rfl tbOk (by kernel_rfl) (by omega) ?_
  refine W.lds [] bc (oc + ws.length * 2) (dpc pn) tbOk (by kernel_rfl) (RA.rdn bc oc (ws.length * 2) (dp_atq hpn)) ?_
  refine W.ia [] 2 bw ow ws.length c2 .i64 (ws.length - 1) (IntKind.i64.wrap ((ws.length : Int) - 1)) (by rw [IntKind.wrap_i64]; omega) tbOk (by kernel_rfl) (by omega) ?_
  refine W.lds [] bw (ow + (ws.length - 1) * 2) (dpc wn) tbOk (by kernel_rfl) (RA.rdn bw ow ((ws.length - 1) * 2) (dp_atq hwn1)) ?_
  refine W.cl [] (by kernel_rfl) (p_tipQ pn wn wn.x wn.y rfl rfl ⟨n6, a6, m6, b6⟩ nilQ (h := h) (b := 0) (kind == 1) (hcr _ _ hpn) (hway _ _ hwn1).1 hqn) ?_
  rintro _ _ ⟨bt, ot, ct, lt, rfl, hlt2, hnt, rfl⟩
  have hltn := num_len hnt
  have hbnn := hbn h (0) (kind == 1)
  refine W.apz [] O1 40 640 l1.length lt.length ao1 v1 (.slice (some ⟨bt, ot, none⟩) lt.length ct) (l1.flatMap PlR.cells) ys1 ((lt.take lt.length).flatMap PlR.cells) tbOk (by kernel_rfl) hg1 (by omega) (reads_pl bt ot O1 lt.length ct (Nat.le_refl _)) pls_one (by omega) (by decide) (fun v2 O2 hg2 => ?_)
  have hl2 : (l1 ++ lt).map PlE.num = [el.num] ++ miters h cs.tail ws ++ tipL pn wn h (0) (kind == 1) := by rw [List.map_append, hl1, hnt]
  refine W.lpo [] [21, 23] (fun a : PSt => [(21, a.v), (23, .int .i64 a.z)]) (fun _ => []) (fun a => a.O) (fun a => [OS PlR (130, a.l), RA (some ⟨bc, oc, none⟩) (cs.flatMap dpc), RA (some ⟨bw, ow, none⟩) (ws.flatMap dpc), QF n6 a6 m6 b6 (2, h), OL PlR (some ⟨bb, ob, none⟩) (130, lb)]) (fun a => a.z = a.i ∧ a.i ≤ ws.length - 1 ∧ a.l.map PlE.num = [el.num] ++ miters h cs.tail ws ++ tipL pn wn h (0) (kind == 1) ++ ((miters (-h) cs.tail ws).drop a.i).reverse ∧ Grow 40 a.O a.v a.l.length (a.l.flatMap PlR.cells)) (fun a => a.i) ⟨ws.length - 1, IntKind.i64.wrap ((ws.length : Int) - 1), v2, O2, l1 ++ lt, none, []⟩ (by kernel_rfl) (by kernel_rfl) ⟨by simp only [IntKind.wrap_i64]; omega, Nat.le_refl _, ?_, Grow.cast (by simp [List.flatMap_append]) (by simp) hg2⟩ (entC (entOa (l := l1) (l2 := lt) (ao := some ⟨bt, ot, none⟩)) (entC entK (entC entK (entC entK (entC entK entE))))) ?_
  · simp only
    rw [hl2, List.drop_eq_nil_of_le (by rw [hm2]; exact Nat.le_refl _), List.reverse_nil, List.append_nil]
  rintro ⟨i, z3, v3, O3, l3, ao3, ys3⟩ K2 ⟨hz3, hi3, hl3, hg3⟩ close2
  simp only at hz3 hi3 hl3 hg3
  have hl3n := num_len hl3
  simp only [List.length_append, List.length_reverse, List.length_drop, hm1, hm2, List.length_cons, List.length_nil] at hl3n
  cases i with
  | succ i =>
    obtain ⟨p, hp⟩ := hcget (i + 1) (by omega)
    obtain ⟨d, hd⟩ := hwget i (by omega)
    obtain ⟨e, he⟩ := hwget (i + 1) (by omega)
    have hma := miters_at (-h) cs.tail ws i p d e (htl _ _ hp) hd he
    refine W.dt [] 182 (decide (z3 > 0)) (by kernel_rfl) (decide_eq_true (by omega)) ?_
    refine W.ia [182] 2 bc oc cs.length c1 .i64 (i + 1) z3 hz3 tbOk (by kernel_rfl) (by omega) ?_
    refine W.lds [] bc (oc + (i + 1) * 2) (dpc p) tbOk (by kernel_rfl) (RA.rdn bc oc ((i + 1) * 2) (dp_atq hp)) ?_
    refine W.ia [] 2 bw ow ws.length c2 .i64 i (IntKind.i64.wrap (z3 - 1)) (by rw [IntKind.wrap_i64]; omega) tbOk (by kernel_rfl) (by omega) ?_
    refine W.lds [] bw (ow + i * 2) (dpc d) tbOk (by kernel_rfl) (RA.rdn bw ow (i * 2) (dp_atq hd)) ?_
    refine W.ia [] 2 bw ow ws.length c2 .i64 (i + 1) z3 hz3 tbOk (by kernel_rfl) (by omega) ?_
    refine W.lds [] bw (ow + (i + 1) * 2) (dpc e) tbOk (by kernel_rfl) (RA.rdn bw ow ((i + 1) * 2) (dp_atq he)) ?_
    refine W.cl [] (by kernel_rfl) (p_qneg n6 a6 m6 b6) ?_
    rintro _ _ ⟨n8, a8, m8, b8, rfl, rfl⟩
    refine W.cl [] (by kernel_rfl) (p_miter p d e ⟨n8, a8, m8, b8⟩ (h := -h) (hcr _ _ hp) (hway _ _ hd).1 (hway _ _ he).1 (hcross _ _ _ hd he)) ?_
    rintro _ _ ⟨X, Y, rfl, rfl⟩
    refine W.bs [] 1 (svc X ++ svc Y) tbOk (by kernel_rfl) (fun B2 => ?_)
    refine W.app [] O3 [] O3 [] 40 640 l3.length 1 v3 (.slice (some ⟨B2, 0, none⟩) 1 1) (l3.flatMap PlR.cells) (svc X ++ svc Y) tbOk (by kernel_rfl) (by simp) hg3 (reads_row B2 O3 1 40 rfl 1) (pl_one ⟨X, Y, ⟨0, 0, 0, 0, 0, 0⟩, ⟨0, 0, 0, 0, 0, 0⟩⟩) (by omega) (by decide) (fun v' O' hg' => ?_)
    refine close2 [] _ _ ⟨i, IntKind.i64.wrap (z3 - 1), v', O', l3 ++ [⟨X, Y, (miterP p d e (-h)).1, (miterP p d e (-h)).2⟩], none, []⟩ (by kernel_rfl) (by simp only [List.nil_append, List.append_nil]; kernel_rfl) ⟨by simp only [IntKind.wrap_i64]; omega, by simp only; omega, ?_, ?_⟩ (by simp only; omega) (entC (entOs ⟨X, Y, (miterP p d e (-h)).1, (miterP p d e (-h)).2⟩) (entC entK (entC entK (entC entK (entC entK entE)))))
    · simp only
      rw [List.map_append, hl3, drop_snoc hma, ← List.append_assoc]
      rfl
    · simp only [List.length_append, List.flatMap_append, List.length_cons, List.length_nil]
      exact Grow.cast (by simp [PlR]) rfl hg'
  | zero =>
    rw [List.drop_zero] at hl3
    refine W.df [] 182 (decide (z3 > 0)) (by kernel_rfl) (decide_eq_false (by omega)) ?_
    refine W.slp [182] 40 bb ob (lb.length - 1) lb.length cb (IntKind.i64.wrap ((lb.length : Int) - 1)) (by rw [IntKind.wrap_i64]; omega) tbOk (by kernel_rfl) (by omega) (by omega) ?_
    refine W.app [] O3 [] O3 [] 40 640 l3.length (lb.length - 1) v3 (.slice (some ⟨bb, ob, none⟩) (lb.length - 1) cb) (l3.flatMap PlR.cells) ((lb.take (lb.length - 1)).flatMap PlR.cells) tbOk (by kernel_rfl) (by simp) hg3 (reads_pl bb ob O3 (lb.length - 1) cb (by omega)) pls_one (by omega) (by decide) (fun v' O' hg' => ?_)
    have hg9 : Grow 40 O' v' (l3 ++ lb.take (lb.length - 1)).length ((l3 ++ lb.take (lb.length - 1)).flatMap PlR.cells) := Grow.cast (by rw [List.flatMap_append]) (by rw [List.length_append, List.length_take, Nat.min_eq_left (by omega)]) hg'
    refine W.pubgr (by simp only [List.nil_append, List.append_nil]; kernel_rfl) hg9 (by kernel_rfl) (fun ao c' hv hc' => ?_)
    subst hv
    refine W.more (by kernel_rfl) (entC (entOt (ao := some ⟨bb, ob, none⟩) (r := lb.length - 1) (l := l3) (l2 := lb) (L := 130)) entE) ?_
    refine W.r [] (.tuple #[.slice ao (l3 ++ lb.take (lb.length - 1)).length c', .int .i64 0]) (by kernel_rfl) (.inr ⟨hoe, ao, c', l3 ++ lb.take (lb.length - 1), rfl, hc', ?_, rfl⟩) (entPlsA (fun I w hd hh e he => (Has.p (k := OS PlR) (a := (130, l3 ++ lb.take (lb.length - 1))) inferInstance hh) e he))
    rw [← hcs, ← hws, hpl, List.map_append, hl3, hdl, ← hlbn, ← hnb2, List.map_take]
-->outof
end
end Go.Proofs.Ytaafmafdnnjmdaa
