
/- A number of a field out of its parts. -/
import Derived.Test.YtabpaiboodllbaaGreatSb
set_option linter.unusedSimpArgs false
set_option linter.unusedVariables false
namespace Go.Proofs.YtabpaiboodllbaaGreat
open Go.RowKit Go.IntWalk

def qAt (l : List QE) (i : Nat) : Qw := match l[i]? with
  | some e => ⟨e.n, e.nb, e.d, e.db⟩
  | none => nilQ
def rAt (l : List QE) (i : Nat) : Rat := match l[i]? with
  | some e => e.q
  | none => 0
theorem qAt_fact {l : List QE} {L L' : Nat} {I : Blk} {w : World} (hd : DataOK tb I w) (h : ∀ e ∈ l, (QR.fact L e).p I w) (hL : L ≤ L') (i : Nat) : (QG (qAt l i) (L', rAt l i)).p I w := by
  unfold qAt rAt
  cases hi : l[i]? with
  | none => exact (entQ0 (Γ := []) (L' := L') I w hd (Holds.nil _ _)).h0'
  | some e =>
    have := h e (List.mem_of_getElem? hi)
    exact QF.up2 this hL

section
variable {fin : VS → List Fact → Prop} {Γ : List Fact} {L M K : Nat}

set_option maxHeartbeats 2000000 in
theorem p_xof (u : Sl) (d : Bool) (v : Sl) (e : Bool) (ao : Option Addr) (n c : Nat) {l : List QE} {p q : Int} [hu : Has (ZF u d) (L, p) Γ] [hv : Has (ZF v e) (M, q) Γ] [h : Has (OL QR ao) (K, l) Γ] (hn : n = l.length) (hl : n ≤ 4) (hp : 0 ≤ p) (hq : 0 ≤ q)
    (hL : L ≤ 100000 := by omega) (hM : M ≤ 100000 := by omega) :
    PCalls tb Tryz.prog 37 [zv u d, zv v e, .slice ao n c] Γ (SOk (max (max L M) K) ⟨p, q, rAt l 0, rAt l 1, rAt l 2, rAt l 3⟩) := by
  subst hn
  refine PCalls.of_W tbOk Tryz.func37 rfl (by kernel_rfl) ?_
  refine W.more (Δ := [RA ao (l.flatMap QR.cells)]) rfl (fun I w _ hh => holds1 (h.p hh).2) ?_
  refine W.know (l.flatMap QR.cells ≠ [] → ∃ b off, ao = some ⟨b, off, none⟩) rfl (fun I w _ hh hne => by
    obtain ⟨b, off, ha, _⟩ := (h.p (fun F hF => hh F (by simp [hF]))).2 hne
    exact ⟨b, off, ha⟩) (fun hao => ?_)
  refine W.cl [] (by kernel_rfl) (p_zsign u d) ?_
  rintro _ _ ⟨rfl, rfl⟩
  refine W.df [] 12 (decide ((p).sign < 0)) (by kernel_rfl) (by rw [decide_eq_false_iff_not, Int.sign_neg_iff]; omega) ?_
  refine W.cl [12] (by kernel_rfl) (p_zsign v e) ?_
  rintro _ _ ⟨rfl, rfl⟩
  refine W.df [12] 17 (decide ((q).sign < 0)) (by kernel_rfl) (by rw [decide_eq_false_iff_not, Int.sign_neg_iff]; omega) ?_
  refine W.df [17] 21 (decide (((l.length : Nat) : Int) > 4)) (by kernel_rfl) (by rw [decide_eq_false_iff_not]; omega) ?_
  refine W.rev 8 (by kernel_rfl) (fun b => ?_)
  refine W.fa [] 4 b 0 tbOk (by kernel_rfl) ?_
  refine W.sla [] 4 4 b 4 none none 0 4 tbOk (by kernel_rfl) (.inr ⟨rfl, rfl⟩) (.inr ⟨rfl, rfl⟩) (by decide) (by decide) (by decide) ?_
  have hone : ∀ z ∈ l.flatMap QR.cells, z.oneCell' = true := by
    intro z hz
    obtain ⟨e, _, hz⟩ := List.mem_flatMap.1 hz
    simp [QR] at hz
    rcases hz with rfl | rfl | rfl | rfl <;> rfl
  have hlen := row_len QR l
  have hz : QR.z = 4 := rfl
  refine W.cpy [] [(b, (sv ⟨u, d, v, e, nilQ, nilQ, nilQ, nilQ⟩).cells.toList)] [] [] 4 b 4 4 4 l.length (sv ⟨u, d, v, e, nilQ, nilQ, nilQ, nilQ⟩).cells.toList (.slice ao l.length c) (l.flatMap QR.cells) tbOk (by kernel_rfl) rfl
    (reads_ra ao _ l.length 4 c hlen (fun h0 => hao (by intro e; have h2 := congrArg List.length e; rw [hlen, hz] at h2; simp only [List.length_nil] at h2; omega))) hone hl (by rw [hlen, hz]; show _ ≤ 20; omega) ?_
  have key : ∀ (X : Sw), X = ⟨u, d, v, e, qAt l 0, qAt l 1, qAt l 2, qAt l 3⟩ → ((((sv ⟨u, d, v, e, nilQ, nilQ, nilQ, nilQ⟩).cells.toList.take 4 ++ l.flatMap QR.cells ++ (sv ⟨u, d, v, e, nilQ, nilQ, nilQ, nilQ⟩).cells.toList.drop (4 + (l.flatMap QR.cells).length)).drop 0).take 20 = (sv X).cells.toList) := by
    rintro X rfl
    rcases l with _ | ⟨e0, _ | ⟨e1, _ | ⟨e2, _ | ⟨e3, _ | ⟨e4, l⟩⟩⟩⟩⟩
    · rfl
    · rfl
    · rfl
    · rfl
    · rfl
    · simp at hl
  refine W.ldo [] ([] ++ (b, (sv ⟨u, d, v, e, nilQ, nilQ, nilQ, nilQ⟩).cells.toList.take 4 ++ l.flatMap QR.cells ++ (sv ⟨u, d, v, e, nilQ, nilQ, nilQ, nilQ⟩).cells.toList.drop (4 + (l.flatMap QR.cells).length)) :: []) b 0 20 _ (sv ⟨u, d, v, e, qAt l 0, qAt l 1, qAt l 2, qAt l 3⟩).cells.toList tbOk (by kernel_rfl) (by simp) (key _ rfl) rfl ?_
  exact W.r [] (.tuple #[sv ⟨u, d, v, e, qAt l 0, qAt l 1, qAt l 2, qAt l 3⟩, .int .i64 0]) (by kernel_rfl) ⟨_, rfl, rfl⟩ (fun I w hd hh => by
    have f1 := Has.p (k := ZF u d) (a := (L, p)) inferInstance hh
    have f2 := Has.p (k := ZF v e) (a := (M, q)) inferInstance hh
    have f3 := (Has.p (k := OL QR ao) (a := (K, l)) inferInstance hh).1
    exact holds1 ⟨ZF.up2 f1 (by omega), ZF.up2 f2 (by omega), qAt_fact hd f3 (by omega) 0, qAt_fact hd f3 (by omega) 1, qAt_fact hd f3 (by omega) 2, qAt_fact hd f3 (by omega) 3⟩)

/-- One that may not be. -/
theorem p_xofE (u : Sl) (d : Bool) (v : Sl) (e : Bool) (ao : Option Addr) (n c : Nat) {p q : Int} [hu : Has (ZF u d) (L, p) Γ] [hv : Has (ZF v e) (M, q) Γ] (hb : p < 0 ∨ q < 0 ∨ 4 < n)
    (hL : L ≤ 100000 := by omega) (hM : M ≤ 100000 := by omega) :
    PCalls tb Tryz.prog 37 [zv u d, zv v e, .slice ao n c] Γ (IsV (.tuple #[sv nilS, .int .i64 1])) := by
  refine PCalls.of_W tbOk Tryz.func37 rfl (by kernel_rfl) ?_
  refine W.cl [] (by kernel_rfl) (p_zsign u d) ?_
  rintro _ _ ⟨rfl, rfl⟩
  by_cases h1 : p < 0
  · refine W.dt [] 12 (decide ((p).sign < 0)) (by kernel_rfl) (by rw [decide_eq_true_iff, Int.sign_neg_iff]; omega) ?_
    exact W.r [21, 17, 12] (.tuple #[sv nilS, .int .i64 1]) (by kernel_rfl) ⟨rfl, rfl⟩ ent0
  · refine W.df [] 12 (decide ((p).sign < 0)) (by kernel_rfl) (by rw [decide_eq_false_iff_not, Int.sign_neg_iff]; omega) ?_
    refine W.cl [12] (by kernel_rfl) (p_zsign v e) ?_
    rintro _ _ ⟨rfl, rfl⟩
    by_cases h2 : q < 0
    · refine W.dt [12] 17 (decide ((q).sign < 0)) (by kernel_rfl) (by rw [decide_eq_true_iff, Int.sign_neg_iff]; omega) ?_
      exact W.r [21, 17] (.tuple #[sv nilS, .int .i64 1]) (by kernel_rfl) ⟨rfl, rfl⟩ ent0
    · refine W.df [12] 17 (decide ((q).sign < 0)) (by kernel_rfl) (by rw [decide_eq_false_iff_not, Int.sign_neg_iff]; omega) ?_
      refine W.dt [17] 21 (decide ((n : Int) > 4)) (by kernel_rfl) (by rw [decide_eq_true_iff]; omega) ?_
      exact W.r [21] (.tuple #[sv nilS, .int .i64 1]) (by kernel_rfl) ⟨rfl, rfl⟩ ent0
set_option maxHeartbeats 2000000 in
theorem p_xnear (x : Sw) {S : Sn} [Has (SF x) (L, S) Γ] (hf : S.half.floors = true) (hL : L ≤ 280 := by omega) :
    PCalls tb Tryz.prog 17 [sv x] Γ (ZPost (10 * L + 500) S.near) := by
  refine PCalls.of_W tbOk Tryz.func17 rfl (by kernel_rfl) ?_
  refine W.sf x rfl ?_
  refine W.cl [] (by kernel_rfl) (p_qof 1 2 (by omega) (by omega) (by omega) (by omega) (by omega)) ?_
  rintro _ _ ⟨n1, a1, m1, b1, rfl, rfl⟩   -- (Rat.divInt 1 2)
  refine W.cl [] (by kernel_rfl) (p_qadd x.p.n x.p.a x.p.m x.p.b n1 a1 m1 b1) ?_
  rintro _ _ ⟨n2, a2, m2, b2, rfl, rfl⟩   -- (S.p + (Rat.divInt 1 2))
  refine W.cx [] (by kernel_rfl) (entS (x := ⟨x.u, x.d, x.v, x.e, ⟨n2, a2, m2, b2⟩, x.q, x.r, x.s⟩) (L' := L + 10) (S := S.half) rfl rfl rfl rfl rfl rfl (by omega)) (p_xfloor ⟨x.u, x.d, x.v, x.e, ⟨n2, a2, m2, b2⟩, x.q, x.r, x.s⟩ hf) ?_
  rintro _ _ ⟨u3, d3, rfl, rfl⟩   -- S.half.low
  refine W.cl [] (by kernel_rfl) (p_qwhole u3 d3) ?_
  rintro _ _ ⟨n4, a4, m4, b4, rfl, rfl⟩   -- (S.half.low : Rat)
  refine W.cl [] (by kernel_rfl) (p_qsub n2 a2 m2 b2 n4 a4 m4 b4) ?_
  rintro _ _ ⟨n5, a5, m5, b5, rfl, rfl⟩   -- ((S.p + (Rat.divInt 1 2)) - (S.half.low : Rat))
  refine W.cl [] (by kernel_rfl) (p_zof 2 (by omega) (by omega)) ?_
  rintro _ _ ⟨u6, d6, rfl, rfl⟩   -- 2
  refine W.cl [] (by kernel_rfl) (p_zfloor u3 d3 u6 d6 (by omega)) ?_
  rintro _ _ ⟨u7, d7, v7, e7, rfl, rfl⟩   -- (S.half.low / 2) (S.half.low % 2)
  refine W.cx [] (by kernel_rfl) (entS (x := ⟨x.u, x.d, x.v, x.e, ⟨n5, a5, m5, b5⟩, x.q, x.r, x.s⟩) (L' := 12 * L + 400) (S := (S.half.lessq S.half.low)) rfl rfl rfl rfl rfl rfl (by omega)) (p_xsign ⟨x.u, x.d, x.v, x.e, ⟨n5, a5, m5, b5⟩, x.q, x.r, x.s⟩) ?_
  rintro _ _ ⟨rfl, rfl⟩
  refine W.d [] 42 ((S.half.lessq S.half.low).sg == 0) (by kernel_rfl) (fun hb => ?_) (fun hb => ?_)
  · have hb' := hb
    refine W.cl [42] (by kernel_rfl) (p_zsign v7 e7) ?_
    rintro _ _ ⟨rfl, rfl⟩
    refine W.d [42] 46 (((S.half.low % 2)).sign != 0) (by kernel_rfl) (fun hb => ?_) (fun hb => ?_)
    · skip
      refine W.cl [46] (by kernel_rfl) (p_zof 1 (by omega) (by omega)) ?_
      rintro _ _ ⟨u10, d10, rfl, rfl⟩   -- 1
      refine W.cl [] (by kernel_rfl) (p_zsub u3 d3 u10 d10) ?_
      rintro _ _ ⟨u11, d11, rfl, rfl⟩   -- (S.half.low - 1)
      exact W.r [] (zv u11 d11) (by kernel_rfl) ⟨_, _, rfl, rfl⟩ (entZ (by omega) (by unfold Sn.near; rw [if_pos ⟨eq_of_beq hb', fun h => by rw [h] at hb; simp at hb⟩]))
    · skip
      exact W.r [46] (zv u3 d3) (by kernel_rfl) ⟨_, _, rfl, rfl⟩ (entZ (by omega) (by unfold Sn.near; rw [if_neg (fun h => h.2 (by simpa using hb))]))
  · skip
    exact W.r [46, 42] (zv u3 d3) (by kernel_rfl) ⟨_, _, rfl, rfl⟩ (entZ (by omega) (by unfold Sn.near; rw [if_neg (fun h => ne_of_beq_false hb h.1)]))
end
end Go.Proofs.YtabpaiboodllbaaGreat
