/- Every place of a path lies on its two lines, in the document's order, in its field. -/
import Derived.Test.YtaafmafdnnjmdaaGreatRows
import Derived.Test.YtaafmafdnnjmdaaGreatQc
import Derived.Test.YtaafmafdnnjmdaaGreatQf
import Derived.Test.YtaafmafdnnjmdaaGreatQg
import Derived.Test.YtaafmafdnnjmdaaGreatJn
import Derived.Test.YtaafmafdnnjmdaaGreatLawZ
import Derived.Test.YtaafmafdnnjmdaaGreatVs
set_option linter.unusedSimpArgs false
set_option linter.unusedVariables false
namespace Go.Proofs.YtaafmafdnnjmdaaGreat
open Go.RowKit Go.IntWalk
def InT (t : TwV) : Prop := (inD 2147483648 t.a.p ∧ inD 4294967296 t.a.d) ∧ inD 2147483648 t.b.p ∧ inD 4294967296 t.b.d
theorem rtip_in {p d : Dp} (hp : inD 2147483648 p) (hd : inD 4294967296 d) (h b : Rat) (r : Bool) : ∀ t ∈ rtip p d h b r, InT t := by
  have hl := (turn_in hd).1
  intro t ht
  unfold rtip at ht
  cases r with
  | false =>
    simp only [List.mem_cons, Bool.false_eq_true, if_false, List.nil_append, List.not_mem_nil, or_false] at ht
    rcases ht with rfl | rfl <;> exact ⟨⟨hp, hd⟩, hp, hl⟩
  | true =>
    simp only [List.mem_cons, if_true, List.mem_append, List.not_mem_nil, or_false] at ht
    rcases ht with rfl | (rfl | rfl | rfl) | rfl <;> exact ⟨⟨hp, hd⟩, hp, hl⟩
theorem rcorns_in (h : Rat) : ∀ (c w : List Dp), (∀ p ∈ c, inD 2147483648 p) → (∀ d ∈ w, inD 4294967296 d) → ∀ t ∈ rcorns h c w, InT t
  | p :: c, d :: e :: w, hc, hw => fun P hP => by
    simp only [rcorns, List.mem_cons] at hP
    rcases hP with rfl | hP
    · exact ⟨⟨hc p (by simp), (turn_in (hw d (by simp))).1⟩, hc p (by simp), (turn_in (hw e (by simp))).1⟩
    · exact rcorns_in h c (e :: w) (fun q hq => hc q (List.mem_cons_of_mem _ hq)) (fun q hq => hw q (List.mem_cons_of_mem _ hq)) P hP
  | [], _, _, _ => fun P hP => by simp [rcorns] at hP
  | _ :: _, [], _, _ => fun P hP => by simp [rcorns] at hP
  | _ :: _, [_], _, _ => fun P hP => by simp [rcorns] at hP
theorem rplaces_in {c w : List Dp} (hf : FwOk c w) (hw : 0 < w.length) (hc : ∀ p ∈ c, inD 2147483648 p) (width kind bg en : Int) : ∀ t ∈ rplaces c w width kind bg en, InT t := by
  have hl := hf.len
  have hin : ∀ d ∈ w, inD 4294967296 d := fun d hd => by
    obtain ⟨i, hi⟩ := List.getElem?_of_mem hd
    have hi' := (List.getElem?_eq_some_iff.1 hi).1
    obtain ⟨n1, e1⟩ := hf.way i _ _ d (List.getElem?_eq_getElem (by omega)) (List.getElem?_eq_getElem (by omega)) hi
    rw [e1]
    exact way_in (hc _ (List.getElem_mem _)) (hc _ (List.getElem_mem _)) n1
  have g0 : ∀ k, k < c.length → inD 2147483648 (c.getD k ⟨0, 0⟩) := fun k hk => by
    rw [List.getD_eq_getElem?_getD, List.getElem?_eq_getElem hk]
    exact hc _ (List.getElem_mem _)
  have g1 : ∀ k, k < w.length → inD 4294967296 (w.getD k ⟨0, 0⟩) := fun k hk => by
    rw [List.getD_eq_getElem?_getD, List.getElem?_eq_getElem hk]
    exact hin _ (List.getElem_mem _)
  have ht : ∀ p ∈ c.tail, inD 2147483648 p := fun p hp => hc p (List.mem_of_mem_tail hp)
  intro P hP
  unfold rplaces at hP
  simp only [List.mem_append, List.mem_reverse] at hP
  rcases hP with (((hP | hP) | hP) | hP) | hP
  · exact rtip_in (g0 0 (by omega)) (turn_in (g1 0 hw)).2.2 _ _ _ P (List.mem_of_mem_drop hP)
  · exact rcorns_in _ _ _ ht hin P hP
  · exact rtip_in (g0 _ (by omega)) (g1 _ (by omega)) _ _ _ P hP
  · exact rcorns_in _ _ _ ht hin P hP
  · exact rtip_in (g0 0 (by omega)) (turn_in (g1 0 hw)).2.2 _ _ _ P (List.mem_of_mem_take hP)
theorem corn_in : ∀ (pts : List Dp) (s : List Dp × List Dp), (∀ p ∈ pts, inD 2147483648 p) → (∀ p ∈ s.1, inD 2147483648 p) → ∀ p ∈ (pts.foldl push s).1, inD 2147483648 p
  | [], _, _, h => h
  | q :: r, s, hq, h => corn_in r (push s q) (fun p hp => hq p (List.mem_cons_of_mem _ hp)) (fun p hp => by
    obtain ⟨R, w⟩ := s
    match R, h with
    | [], h =>
      simp [push] at hp
      subst hp
      exact hq _ List.mem_cons_self
    | l :: R', h =>
      simp only [push] at hp
      split at hp
      · exact h p hp
      · split at hp
        · rcases List.mem_cons.1 hp with rfl | hp
          · exact hq _ List.mem_cons_self
          · exact h p (List.mem_cons_of_mem _ hp)
        · rcases List.mem_cons.1 hp with rfl | hp
          · exact hq _ List.mem_cons_self
          · exact h p hp)
/-- What the statement wants to know of each place. -/
theorem all_places {ps : List Dp} {width kind bg en : Int} (h0 : oerr ps width kind bg en = 0) :
    AllL (places (corn ps).1.reverse (corn ps).2.reverse width kind bg en) (rplaces (corn ps).1.reverse (corn ps).2.reverse width kind bg en) ∧ AllB (places (corn ps).1.reverse (corn ps).2.reverse width kind bg en) ∧ ∀ t ∈ rplaces (corn ps).1.reverse (corn ps).2.reverse width kind bg en, InT t := by
  obtain ⟨_, hb, ho, hc2, hbk⟩ := oerr_zero h0
  have hok : CornOk (corn ps).1 (corn ps).2 := corn_ok ps ([], []) rfl
  have hne : (corn ps).1 ≠ [] := fun e => by rw [e] at hc2; simp at hc2
  have hf := fw_ok hok hne
  have hw : 0 < (corn ps).2.reverse.length := by
    have := hf.len
    rw [List.length_reverse] at this
    omega
  have hin : ∀ p ∈ (corn ps).1.reverse, inD 2147483648 p := fun p hp => corn_in ps ([], []) (in_of ho) (by simp) p (List.mem_reverse.1 hp)
  have hnb : ¬ ∃ (i : Nat) (d e : Dp), (corn ps).2.reverse[i]? = some d ∧ (corn ps).2.reverse[i + 1]? = some e ∧ e = negD d := fun h => by
    rw [(back_fw _).2 h] at hbk
    simp at hbk
  obtain ⟨_, w1, w2, w3, w4, w5, w6⟩ := argBad_good.1 hb
  exact ⟨places_lies hf hw hnb _ _ _ _, places_bits hf hw hnb hin w1 w2 ⟨w3, w4⟩ ⟨w5, w6⟩, rplaces_in hf hw hin _ _ _ _⟩
theorem sub_get {l cs : List Value} {o : Nat} (h : (l.drop o).take cs.length = cs) : ∀ (j : Nat) (v : Value), cs[j]? = some v → l[o + j]? = some v := fun j v hv => by
  have hj := (List.getElem?_eq_some_iff.1 hv).1
  have e : ((l.drop o).take cs.length)[j]? = some v := by rw [h]; exact hv
  rw [List.getElem?_take_of_lt hj, List.getElem?_drop] at e
  exact e
section
variable {P : Program} {fin : VS → List Fact → Prop} {c : Cfg} {Γ : List Fact}
theorem TL.tolds {b off L : Nat} {l : List TwE} [h : Has (OL TwR (some ⟨b, off, none⟩)) (L, l) Γ] {k : Nat} {e : TwE} (he : l[k]? = some e) (o : Nat) {cs : List Value} (hcs : ((twc e).drop o).take cs.length = cs) : ∀ I w, DataOK tb I w → Holds Γ I w → ∀ j v, cs[j]? = some v → w.cell? ⟨b, off + k * 26 + o + j, none⟩ = some v := fun I w hd hh j v hv => by
  rw [Nat.add_assoc (off + k * 26)]
  exact TL.toldq (T := tb) (Γ := Γ) he I w hd hh (o + j) v (sub_get hcs j v hv)
/-- A place's lines of a row. -/
theorem W.elt (ao : Option Addr) {L : Nat} {l : List TwE} [h : Has (OL TwR ao) (L, l) Γ] {k : Nat} {e : TwE} (he : l[k]? = some e) (hm : midOps c.k = false)
    (hk : W tb P fin c (PF e.a.S e.a.s e.a.R e.a.t (L, e.va) :: YF e.a.M e.a.u (L, e.ma) :: PF e.b.S e.b.s e.b.R e.b.t (L, e.vb) :: YF e.b.M e.b.u (L, e.mb) :: YF e.M e.u (L, e.m) :: YF e.N e.v (L, e.n) :: Γ)) : W tb P fin c Γ :=
  W.more (Δ := [PF e.a.S e.a.s e.a.R e.a.t (L, e.va), YF e.a.M e.a.u (L, e.ma), PF e.b.S e.b.s e.b.R e.b.t (L, e.vb), YF e.b.M e.b.u (L, e.mb), YF e.M e.u (L, e.m), YF e.N e.v (L, e.n)]) hm (fun I w _ hh => by
    obtain ⟨⟨f1, f2⟩, ⟨f3, f4⟩, f5, f6⟩ := (h.p hh).1 e (by obtain ⟨_, rfl⟩ := List.getElem?_eq_some_iff.1 he; exact List.getElem_mem _)
    exact Holds.cons f1 (Holds.cons f2 (Holds.cons f3 (Holds.cons f4 (Holds.cons f5 (Holds.cons f6 (Holds.nil _ _))))))) hk
end
structure FSt where
  i : Nat
  z : Int
set_option maxHeartbeats 4000000 in
theorem p_outlinePlaces (ao : Option Addr) (n c : Nat) (pts : List Dp) (hn : n = pts.length) (hc : n ≤ c) (hpw : ∀ p ∈ pts, (Lit.int .i64 p.x).wf = true ∧ (Lit.int .i64 p.y).wf = true) (width kind bg en : Int) (ww : (Lit.int .i64 width).wf = true) (wk : (Lit.int .i64 kind).wf = true) (wb : (Lit.int .i64 bg).wf = true) (we : (Lit.int .i64 en).wf = true) :
    PCalls tb Tryz.prog 3 [.agg #[.slice ao n c, .int .i64 width, .int .i64 kind, .int .i64 bg, .int .i64 en]] [RA ao (pts.flatMap dpc)] (IsV (.bool true)) := by
  obtain ⟨ps, hps⟩ : ∃ ps, ps = pts.take 12 := ⟨_, rfl⟩
  have hpl : ps.length ≤ 12 := by rw [hps, List.length_take]; omega
  refine PCalls.of_W tbOk Tryz.func3 rfl (by kernel_rfl) ?_
  refine W.ad ao rfl (fun had => ?_)
  have hadn : 0 < ps.length → ∃ b off, ao = some ⟨b, off, none⟩ := fun h => had (dpc_ne (by rw [hps, List.length_take] at h; omega))
  clear had
  refine W.cl [] (by kernel_rfl) (p_olfewP ao n c pts ps width kind bg en hn hc hps) ?_
  rintro _ _ ⟨n1, c1, rfl, hn1, hc1, rfl⟩
  refine W.bs0 [] tbOk (by kernel_rfl) (fun b1 => ?_)
  refine W.apt0 [] [] 2 16 n1 b1 0 (.slice ao n1 c1) (ps.flatMap dpc) tbOk (by kernel_rfl) (reads_ra ao [] n1 2 c1 (by rw [dp_len, hn1]) (fun h => hadn (by omega))) (by omega) (by decide) (fun a2 c2 hc2 => ?_)
  refine W.code 999 ?_
  refine W.ad a2 (by kernel_rfl) (fun had2 => ?_)
  have hadn2 : 0 < n1 → ∃ b off, a2 = some ⟨b, off, none⟩ := fun h => had2 (dpc_ne (by omega))
  clear had2
  refine W.cl [] (by kernel_rfl) (p_outOfQ ao n1 c1 ps width kind bg en hn1) ?_
  rintro _ _ (⟨h0, rfl, rfl⟩ | ⟨h0, bl, ol, cl, l, rfl, hlc, hl, rfl⟩)
  · refine W.cl [] (by kernel_rfl) (r_oof a2 n1 c2 ps width kind bg en hn1 hadn2) ?_
    rintro _ _ (⟨h1, rfl, rfl⟩ | ⟨h1, _⟩)
    · refine W.cl [] (by kernel_rfl) p_olknown ?_
      rintro _ _ ⟨rfl, rfl⟩
      refine W.df [49] 54 (oerr ps width kind bg en != oerr ps width kind bg en) (by kernel_rfl) (by simp) ?_
      refine W.lp [54, 60] [2, 8] (fun a : FSt => [(2, .bool false), (8, .int .i64 a.z)]) (fun _ => []) (fun _ => [RA ao (ps.flatMap dpc), RA a2 (ps.flatMap dpc)]) (fun a => a.z = a.i ∧ a.i ≤ n1) (fun a => n1 - a.i) ⟨0, 0⟩ (by kernel_rfl) (by kernel_rfl) ⟨rfl, Nat.zero_le _⟩ (entC entK (entC entK entE)) ?_
      rintro ⟨i, z⟩ K ⟨hz, hi⟩ close
      simp only at hz hi
      by_cases hlt : i < n1
      · obtain ⟨p, hp⟩ : ∃ p, ps[i]? = some p := ⟨_, List.getElem?_eq_getElem (by omega)⟩
        obtain ⟨ba, oa, e1⟩ := hadn (by omega)
        obtain ⟨bb, ob, e2⟩ := hadn2 (by omega)
        subst e1 e2
        refine W.dt [] 64 (decide (z < (n1 : Int))) (by kernel_rfl) (decide_eq_true (by omega)) ?_
        refine W.ia [64] 2 bb ob n1 c2 .i64 i z hz tbOk (by kernel_rfl) hlt ?_
        refine W.lds [] bb (ob + i * 2) (dpc p) tbOk (by kernel_rfl) (RA.rdn bb ob (i * 2) (dp_atq hp)) ?_
        refine W.ia [] 2 ba oa n1 c1 .i64 i z hz tbOk (by kernel_rfl) hlt ?_
        refine W.lds [] ba (oa + i * 2) (dpc p) tbOk (by kernel_rfl) (RA.rdn ba oa (i * 2) (dp_atq hp)) ?_
        refine W.nep [] 35 p p (by kernel_rfl) (by kernel_rfl) (by kernel_rfl) ?_
        refine W.df [] 76 (!decide (p = p)) (by kernel_rfl) (by rw [decide_eq_true rfl]; rfl) ?_
        exact close [76] _ _ ⟨i + 1, IntKind.i64.wrap (z + 1)⟩ (by kernel_rfl) (by kernel_rfl) ⟨by simp only [IntKind.wrap_i64]; omega, hlt⟩ (by simp only; omega) (entC entK (entC entK entE))
      · refine W.df [] 64 (decide (z < (n1 : Int))) (by kernel_rfl) (decide_eq_false (by omega)) ?_
        refine W.unr [64] 1 (by kernel_rfl) ?_
        exact W.r [80] (.bool true) (by kernel_rfl) ⟨rfl, rfl⟩ ent0
    · exact absurd h1 h0
  obtain ⟨hAL, hAB, hIn⟩ := all_places h0
  refine W.cl [] (by kernel_rfl) (r_oof a2 n1 c2 ps width kind bg en hn1 hadn2) ?_
  rintro _ _ (⟨h1, rfl, rfl⟩ | ⟨h1, bw, ow, cw, w, rfl, hwc, hw, rfl⟩)
  · exact absurd h0 h1
  have hlw : l.length = w.length := by
    have e1 : l.length = (l.map PlE.num).length := (List.length_map _).symm
    have e2 : w.length = (w.map TwE.num).length := (List.length_map _).symm
    rw [e1, e2, hl, hw]
    exact hAL.1
  have hle : l.length ≤ 1000 := by
    have h3 := places_le (corn ps).1.reverse (corn ps).2.reverse width kind bg en
    have h8 := corn_le ps
    rw [← hl, List.length_map] at h3
    simp only [List.length_reverse] at h3
    omega
  refine W.cl [] (by kernel_rfl) p_olknown ?_
  rintro _ _ ⟨rfl, rfl⟩
  refine W.df [49, 54] 60 ((l.length : Int) != (w.length : Int)) (by kernel_rfl) (by rw [hlw]; simp) ?_
  refine W.lp [60] [2, 8] (fun a : FSt => [(2, .bool false), (8, .int .i64 a.z)]) (fun _ => []) (fun _ => [RA ao (ps.flatMap dpc), RA a2 (ps.flatMap dpc), OL PlR (some ⟨bl, ol, none⟩) (130, l), OL TwR (some ⟨bw, ow, none⟩) (20, w)]) (fun a => a.z = a.i ∧ a.i ≤ n1) (fun a => n1 - a.i) ⟨0, 0⟩ (by kernel_rfl) (by kernel_rfl) ⟨rfl, Nat.zero_le _⟩ (entC entK (entC entK (entC entK (entC entK entE)))) ?_
  rintro ⟨i, z⟩ K ⟨hz, hi⟩ close
  simp only at hz hi
  by_cases hlt : i < n1
  · obtain ⟨p, hp⟩ : ∃ p, ps[i]? = some p := ⟨_, List.getElem?_eq_getElem (by omega)⟩
    obtain ⟨ba, oa, e1⟩ := hadn (by omega)
    obtain ⟨bb, ob, e2⟩ := hadn2 (by omega)
    subst e1 e2
    refine W.dt [] 64 (decide (z < (n1 : Int))) (by kernel_rfl) (decide_eq_true (by omega)) ?_
    refine W.ia [64] 2 bb ob n1 c2 .i64 i z hz tbOk (by kernel_rfl) hlt ?_
    refine W.lds [] bb (ob + i * 2) (dpc p) tbOk (by kernel_rfl) (RA.rdn bb ob (i * 2) (dp_atq hp)) ?_
    refine W.ia [] 2 ba oa n1 c1 .i64 i z hz tbOk (by kernel_rfl) hlt ?_
    refine W.lds [] ba (oa + i * 2) (dpc p) tbOk (by kernel_rfl) (RA.rdn ba oa (i * 2) (dp_atq hp)) ?_
    refine W.nep [] 35 p p (by kernel_rfl) (by kernel_rfl) (by kernel_rfl) ?_
    refine W.df [] 76 (!decide (p = p)) (by kernel_rfl) (by rw [decide_eq_true rfl]; rfl) ?_
    exact close [76] _ _ ⟨i + 1, IntKind.i64.wrap (z + 1)⟩ (by kernel_rfl) (by kernel_rfl) ⟨by simp only [IntKind.wrap_i64]; omega, hlt⟩ (by simp only; omega) (entC entK (entC entK (entC entK (entC entK entE))))
  refine W.df [] 64 (decide (z < (n1 : Int))) (by kernel_rfl) (decide_eq_false (by omega)) ?_
  refine W.lp [64] [2, 9] (fun a : FSt => [(2, .bool false), (9, .int .i64 a.z)]) (fun _ => []) (fun _ => [OL PlR (some ⟨bl, ol, none⟩) (130, l), OL TwR (some ⟨bw, ow, none⟩) (20, w)]) (fun a => a.z = a.i ∧ a.i ≤ l.length) (fun a => l.length - a.i) ⟨0, 0⟩ (by kernel_rfl) (by kernel_rfl) ⟨rfl, Nat.zero_le _⟩ (entC entK (entC entK entE)) ?_
  rintro ⟨k, y⟩ K2 ⟨hy, hk⟩ close2
  simp only at hy hk
  by_cases hlt2 : k < l.length
  · obtain ⟨x, hx⟩ : ∃ x, l[k]? = some x := ⟨_, List.getElem?_eq_getElem hlt2⟩
    obtain ⟨e, he⟩ : ∃ e, w[k]? = some e := ⟨_, List.getElem?_eq_getElem (by omega)⟩
    have ex : (places (corn ps).1.reverse (corn ps).2.reverse width kind bg en)[k]? = some x.num := by rw [← hl, List.getElem?_map, hx]; rfl
    have ee : (rplaces (corn ps).1.reverse (corn ps).2.reverse width kind bg en)[k]? = some e.num := by rw [← hw, List.getElem?_map, he]; rfl
    have hli := hAL.2 k x.num e.num ex ee
    have hbi := hAB x.num (List.mem_of_getElem? ex)
    obtain ⟨⟨ip, id⟩, jp, jd⟩ := hIn e.num (List.mem_of_getElem? ee)
    obtain ⟨xm, xn, ym, yn, m0, n0, la, lb⟩ := hli
    have xm' : x.X.m = e.m := xm
    have xn' : x.X.n = e.n := xn
    have ym' : x.Y.m = e.m := ym
    have yn' : x.Y.n = e.n := yn
    have m0' : 0 ≤ x.X.m := by rw [xm']; exact m0
    have n0' : 0 ≤ x.X.n := by rw [xn']; exact n0
    refine W.elp (some ⟨bl, ol, none⟩) hx rfl (fun _ _ _ => ?_)
    refine W.elt (some ⟨bw, ow, none⟩) he rfl ?_
    refine W.dt [] 80 (decide (y < (l.length : Int))) (by kernel_rfl) (decide_eq_true (by omega)) ?_
    refine W.ia [80] 40 bl ol l.length cl .i64 k y hy tbOk (by kernel_rfl) hlt2 ?_
    refine W.fa [] 0 bl (ol + k * 40) tbOk (by kernel_rfl) ?_
    refine W.lds [] bl (ol + k * 40 + 0) (svc x.x) tbOk (by kernel_rfl) (OL.toldx hx) ?_
    refine W.cl [] (by kernel_rfl) (p_olnum x.x (S := x.X) pbits (by decide) hbi.1) ?_
    rintro _ _ ⟨X1, rfl, rfl⟩
    refine W.ia [] 40 bl ol l.length cl .i64 k y hy tbOk (by kernel_rfl) hlt2 ?_
    refine W.fa [] 20 bl (ol + k * 40) tbOk (by kernel_rfl) ?_
    refine W.lds [] bl (ol + k * 40 + 20) (svc x.y) tbOk (by kernel_rfl) (OL.toldy hx) ?_
    refine W.cl [] (by kernel_rfl) (p_olnum x.y (S := x.Y) pbits (by decide) hbi.2) ?_
    rintro _ _ ⟨Y1, rfl, rfl⟩
    refine W.code 999 ?_
    refine W.tf X1 (by kernel_rfl) ?_
    refine W.tf Y1 (by kernel_rfl) ?_
    refine W.ia [103, 107] 26 bw ow w.length cw .i64 k y hy tbOk (by kernel_rfl) (by omega) ?_
    refine W.fa [107] 22 bw (ow + k * 26) tbOk (by kernel_rfl) ?_
    refine W.lds [107] bw (ow + k * 26 + 22) [.int .i64 e.M, .slice e.u.ao e.u.n e.u.c] tbOk (by kernel_rfl) (TL.tolds he 22 rfl) ?_
    refine W.cl [107] (by kernel_rfl) (p_ycmp X1.d X1.u e.M e.u) ?_
    rintro _ _ ⟨rfl, rfl⟩
    refine W.df [107] 118 (cmpZ x.X.m e.m != 0) (by kernel_rfl) (by rw [cmpZ_eq.2 xm']; rfl) ?_
    refine W.ia [118] 26 bw ow w.length cw .i64 k y hy tbOk (by kernel_rfl) (by omega) ?_
    refine W.fa [118] 24 bw (ow + k * 26) tbOk (by kernel_rfl) ?_
    refine W.lds [118] bw (ow + k * 26 + 24) [.int .i64 e.N, .slice e.v.ao e.v.n e.v.c] tbOk (by kernel_rfl) (TL.tolds he 24 rfl) ?_
    refine W.cl [118] (by kernel_rfl) (p_ycmp X1.e X1.v e.N e.v) ?_
    rintro _ _ ⟨rfl, rfl⟩
    refine W.df [118] 129 (cmpZ x.X.n e.n != 0) (by kernel_rfl) (by rw [cmpZ_eq.2 xn']; rfl) ?_
    refine W.ia [129] 26 bw ow w.length cw .i64 k y hy tbOk (by kernel_rfl) (by omega) ?_
    refine W.fa [129] 22 bw (ow + k * 26) tbOk (by kernel_rfl) ?_
    refine W.lds [129] bw (ow + k * 26 + 22) [.int .i64 e.M, .slice e.u.ao e.u.n e.u.c] tbOk (by kernel_rfl) (TL.tolds he 22 rfl) ?_
    refine W.cl [129] (by kernel_rfl) (p_ycmp Y1.d Y1.u e.M e.u) ?_
    rintro _ _ ⟨rfl, rfl⟩
    refine W.df [129] 140 (cmpZ x.Y.m e.m != 0) (by kernel_rfl) (by rw [cmpZ_eq.2 ym']; rfl) ?_
    refine W.ia [140] 26 bw ow w.length cw .i64 k y hy tbOk (by kernel_rfl) (by omega) ?_
    refine W.fa [140] 24 bw (ow + k * 26) tbOk (by kernel_rfl) ?_
    refine W.lds [140] bw (ow + k * 26 + 24) [.int .i64 e.N, .slice e.v.ao e.v.n e.v.c] tbOk (by kernel_rfl) (TL.tolds he 24 rfl) ?_
    refine W.cl [140] (by kernel_rfl) (p_ycmp Y1.e Y1.v e.N e.v) ?_
    rintro _ _ ⟨rfl, rfl⟩
    refine W.df [140] 150 (cmpZ x.Y.n e.n != 0) (by kernel_rfl) (by rw [cmpZ_eq.2 yn']; rfl) ?_
    refine W.ia [150] 26 bw ow w.length cw .i64 k y hy tbOk (by kernel_rfl) (by omega) ?_
    refine W.fa [] 0 bw (ow + k * 26) tbOk (by kernel_rfl) ?_
    refine W.lds [] bw (ow + k * 26 + 0) (lnc e.a) tbOk (by kernel_rfl) (TL.tolds he 0 rfl) ?_
    refine W.cl [] (by kernel_rfl) (r_on9 e.a X1 Y1 (r := e.va) (Mz := e.ma) (SX := x.X) (SY := x.Y) ip id m0' n0' la) ?_
    rintro _ _ ⟨rfl, rfl⟩
    refine W.ia [160] 26 bw ow w.length cw .i64 k y hy tbOk (by kernel_rfl) (by omega) ?_
    refine W.fa [160] 11 bw (ow + k * 26) tbOk (by kernel_rfl) ?_
    refine W.lds [160] bw (ow + k * 26 + 11) (lnc e.b) tbOk (by kernel_rfl) (TL.tolds he 11 rfl) ?_
    refine W.cl [160] (by kernel_rfl) (r_on9 e.b X1 Y1 (r := e.vb) (Mz := e.mb) (SX := x.X) (SY := x.Y) jp jd m0' n0' lb) ?_
    rintro _ _ ⟨rfl, rfl⟩
    exact close2 [160, 170] _ _ ⟨k + 1, IntKind.i64.wrap (y + 1)⟩ (by kernel_rfl) (by kernel_rfl) ⟨by simp only [IntKind.wrap_i64]; omega, hlt2⟩ (by simp only; omega) (entC entK (entC entK entE))
  · refine W.df [] 80 (decide (y < (l.length : Int))) (by kernel_rfl) (decide_eq_false (by omega)) ?_
    exact W.r [80] (.bool true) (by kernel_rfl) ⟨rfl, rfl⟩ ent0

end Go.Proofs.YtaafmafdnnjmdaaGreat
namespace Go.Proofs.YtaafmafdnnjmdaaGreat.outlinePlaces
open Go.ChangeShapes Go.WideShapes Go.ChangeAt Go.RowKit
open Go.ChangeMaps (open_string shut_string)

theorem closed : joinedFacts Tryz.pinned.checked.prog 3 Tryz.f3 Rows.outlinePlacesSpec Rows.outlinePlacesRow = true := by
  unfold joinedFacts
  rw [show Tryz.pinned.checked.prog.mayEnter = true from jn_enter, show (Rows.outlinePlacesRow.lifted == Tryz.pinned.checked.prog.liftsFinal) = true from jn_lift, show (Tryz.pinned.checked.prog.make == some Rows.outlinePlacesRow.make) = true from jn_make,
    show laidOutB Tryz.pinned.checked.prog = true from jn_laid, show mapsRowed Tryz.pinned.checked.prog = true from jn_maps]
  kernel_rfl

set_option maxRecDepth 100000 in
set_option maxHeartbeats 2000000 in
theorem lifted (os : Os) (started : os.Started) (H : Type) (enc : TypeId × Value → H) :
    ReturnsInHanded {} Tryz.checked os 3 .any (Rows.outlinePlacesSpec.pre6 enc Tryz.prog Tryz.f3 Rows.outlinePlacesRow.domain false) (Rows.outlinePlacesSpec.post enc Tryz.prog Tryz.f3 false true false false) := by
  refine returnsInHanded_of_change (C := Tryz.checked) jn_own started (by kernel_rfl) Tryz.func3
    (ChangeSpec.witness6 (enc := enc) (C := Tryz.checked) false ⟨#[], #[.agg #[.slice none 0 0, .int .i64 0, .int .i64 0, .int .i64 0, .int .i64 0]], []⟩ 8 (by kernel_rfl) (by kernel_rfl) (by kernel_rfl) (by kernel_rfl)) ?_
  intro W base args ds gs before hval0 hW hcnd _
  have hval : ∀ (j : Nat) t v, Tryz.f3.params[j]? = some t → args[j]? = some v → Value.okWide Tryz.prog W .any base t v := hval0
  have hW' := hW
  obtain ⟨p, q, hA0, hV, rfl, hfz, hnd⟩ := hW
  have hA : DataW.TrodAll enc Tryz.prog W 0 (fun _ => true) true Tryz.f3.params.toList args.toList ds p := hA0
  have hK := hA
  rw [Tryz.params3] at hA hval hK
  obtain ⟨v0, vs0, d0, ds0, p0, q0, hargs, rfl, rfl, h0, r0⟩ := trodAll_cons hA
  obtain ⟨rfl, rfl, rfl⟩ := trodAll_nil r0
  obtain rfl : args = #[v0] := by cases args; simp_all
  obtain ⟨rfl, rfl⟩ := trodVars_none hV
  obtain ⟨ao0, n0, c0, a0, M0, N0, B0, E0, rfl, e0, hc0, hp0, wM0, wN0, wB0, wE0, g0⟩ := open_path Tryz.underlying24 (by kernel_rfl) ⟨rfl, rfl⟩ ⟨rfl, rfl⟩ ⟨rfl, rfl⟩ ⟨rfl, rfl⟩ ⟨rfl, rfl⟩ Tryz.underlying22 (by kernel_rfl) Tryz.underlying3 (by kernel_rfl) Tryz.underlying35 (by kernel_rfl) ⟨rfl, rfl⟩ ⟨rfl, rfl⟩ (hval 0 24 v0 rfl rfl) h0
  clear hA0 hval0
  simp only [List.append_nil] at hW' hK
  refine (law_calls' (p_outlinePlaces ao0 n0 c0 a0 e0 hc0 hp0 M0 N0 B0 E0 wM0 wN0 wB0 wE0) W (Holds.cons g0 (Holds.nil _ _))).mono fun e W' ⟨he, hg⟩ => ?_
  subst he
  exact ⟨_, rfl, law_post hW' rfl (fun _ _ _ => (trodAll_cons_mk (shut_bool Tryz.underlying4 _) trodAll_mk0)) (fun sp hsp => trodAll_stays jn_laid hg (by kernel_rfl) hK (fun x hx => hW'.lt x (by first | exact hx | simpa using hx)) (fun x hx => hsp x (by first | exact hx | simpa using hx))) rfl hg⟩

theorem over : Rows.outlinePlacesRow.holds Tryz.pinned (OpenSpec.ofChange Rows.outlinePlacesSpec) :=
  OpenClaim.holds_of_wide 3 Tryz.f3 rfl rfl rfl rfl rfl rfl rfl ⟨rfl, rfl, rfl, rfl, rfl⟩ rfl rfl rfl rfl rfl (by kernel_rfl) Tryz.func3 closed
    (of_decide_eq_true (by kernel_rfl)) (by unfold Func.isWrapper; first | (rw [if_pos (by decide +kernel)]; kernel_rfl) | (rw [if_neg (by decide +kernel)]; exact ⟨rfl, rfl⟩))
    (fun os started H enc _ => lifted os started H enc)
end Go.Proofs.YtaafmafdnnjmdaaGreat.outlinePlaces
namespace Go.Proofs.YtaafmafdnnjmdaaGreat

/-- The statement. -/
theorem outlinePlaces_holds : Rows.OutlinePlacesSaid := outlinePlaces.over
end Go.Proofs.YtaafmafdnnjmdaaGreat
