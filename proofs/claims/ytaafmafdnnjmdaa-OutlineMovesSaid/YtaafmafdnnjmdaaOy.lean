/- Paths of points: the contract of outline's ends. -/
import Derived.Test.YtaafmafdnnjmdaaOx
set_option linter.unusedSimpArgs false
set_option linter.unusedVariables false
namespace Go.Proofs.Ytaafmafdnnjmdaa
open Go.RowKit Go.IntWalk

section
variable {T : Tb} {P : Program} {fin : VS → List Fact → Prop} {c : Cfg} {Γ : List Fact}
/-- A row that grew is given away, where no operation is under way. -/
theorem W.pubgr {z n : Nat} {O : List (Nat × List Value)} {v : Value} {xs : List Value} (ho : (runCode T 999 c).s.own = O) (hg : Grow z O v n xs) (hm : midOps (runCode T 999 c).k = false)
    (hk : ∀ ao c', v = .slice ao n c' → n ≤ c' → W T P fin ⟨⟨(runCode T 999 c).s.tmps, (runCode T 999 c).s.boxes, []⟩, (runCode T 999 c).k⟩ (RA ao xs :: Γ)) : W T P fin c Γ := by
  refine W.code 999 ?_
  obtain ⟨hl, hg'⟩ := hg
  refine W.pubg (s := (runCode T 999 c).s) (k := (runCode T 999 c).k) ho ⟨hl, hg'⟩ hm (fun ao c' hv => hk ao c' hv ?_)
  rcases hg' with ⟨rfl, rfl, rfl⟩ | ⟨g, cap, cur, rfl, rfl, hnc, _⟩
  · omega
  · injection hv with _ _ h3
    omega
theorem take_row {cur ys : List Value} {n : Nat} (h : cur.take n = ys) : ∀ (i : Nat) (v : Value), ys[i]? = some v → cur[i]? = some v := fun i v hv => by
  rw [← h, List.getElem?_take] at hv
  split at hv
  · exact hv
  · simp at hv
end
section
variable {Γ : List Fact} {L M : Nat}
theorem entPls {g : Nat} {cur : List Value} {l : List PlE} [h : Has (RowF g) cur Γ] (hc : ∀ (i : Nat) (v : Value), (l.flatMap PlR.cells)[i]? = some v → cur[i]? = some v)
    (hf : ∀ (I : Blk) (w : World), DataOK tb I w → Holds Γ I w → ∀ e ∈ l, (PlR.fact 130 e).p I w) : ∀ (I : Blk) (w : World), DataOK tb I w → Holds Γ I w → Holds [OL PlR (some ⟨g, 0, none⟩) (130, l)] I w := fun I w hd hh =>
  Holds.cons ⟨hf I w hd hh, RA.of_row (h.p hh) hc⟩ (Holds.nil _ _)
theorem entPlsA {ao : Option Addr} {xs : List Value} {l : List PlE} [h : Has (RA ao) xs Γ]
    (hf : ∀ (I : Blk) (w : World), DataOK tb I w → Holds Γ I w → ∀ e ∈ l, (PlR.fact 130 e).p I w) (hx : xs = l.flatMap PlR.cells := by rfl) : ∀ (I : Blk) (w : World), DataOK tb I w → Holds Γ I w → Holds [OL PlR ao (130, l)] I w := fun I w hd hh => by
  subst hx
  exact Holds.cons ⟨hf I w hd hh, h.p hh⟩ (Holds.nil _ _)
theorem p_unitW (d : Dp) (x y : Int) (hx : x = d.x) (hy : y = d.y) (n : Sl) (a : Bool) (m : Sl) (b : Bool) {q : Rat} [Has (QF n a m b) (L, q) Γ] (hd : inD 4294967296 d) (h0 : sqD d ≠ 0) (hL : L ≤ 1000 := by omega) :
    PCalls tb Try.prog 66 [.agg #[.int .i64 x, .int .i64 y], qv n a m b] Γ (fun v Δ => ∃ Q : Qw, v = .agg (pac ⟨x, y⟩ nilQ Q nilQ nilQ).toArray ∧ Δ = [QG Q (L + 14, (unitP d q).b)]) := by
  subst hx hy
  exact p_unit d n a m b hd h0
theorem p_slantW (d : Dp) (x y : Int) (hx : x = d.x) (hy : y = d.y) (n : Sl) (a : Bool) (m : Sl) (b : Bool) {q : Rat} [Has (QF n a m b) (L, q) Γ] (hd : inD 4294967296 d) (h0 : sqD d ≠ 0) (hL : L ≤ 1000 := by omega) :
    PCalls tb Try.prog 67 [.agg #[.int .i64 x, .int .i64 y], qv n a m b] Γ (fun v Δ => ∃ Q : Qw, v = .agg (pac ⟨x, y⟩ nilQ nilQ nilQ Q).toArray ∧ Δ = [QG Q (L + 16, (slantP d q).e)]) := by
  subst hx hy
  exact p_slant d n a m b hd h0
--<tip
theorem p_tipF (p d : Dp) (hq bq : Qw) {h b : Rat} {L1 : Nat} [Has (QG hq) (L, h) Γ] [Has (QG bq) (L1, b) Γ] (hp : inD 2147483648 p) (hd : inD 4294967296 d) (h0 : sqD d ≠ 0) (hL : L ≤ 5 ∧ L1 ≤ 5 := by omega) :
    PCalls tb Try.prog 29 [dv p, dv d, qv hq.n hq.a hq.m hq.b, qv bq.n bq.a bq.m bq.b, .bool false] Γ (PlsP (tipL p d h b false)) := by
  have h0l : sqD (leftD d) ≠ 0 := by rw [sqD_left]; exact h0
  have h0r : sqD (rightD d) ≠ 0 := by rw [sqD_right]; exact h0
  have hz : 0 ≤ sqD d ∧ (0 : Int) ≤ 2 := ⟨sqD_nn d, by decide⟩
  have hwr : IntKind.i64.wrap (0 - d.x) = -d.x := by unfold inD at hd; rw [IntKind.wrap_i64]; omega
  have hre : (⟨d.y, IntKind.i64.wrap (0 - d.x)⟩ : Dp) = rightD d := by rw [hwr]; rfl
  have hrw : inD 4294967296 ⟨d.y, IntKind.i64.wrap (0 - d.x)⟩ := by rw [hre]; exact hd.right
  refine PCalls.of_W tbOk Try.func29 rfl (by kernel_rfl) ?_
  refine W.cl [] (by kernel_rfl) (p_wsq d hd) ?_
  rintro _ _ ⟨u1, d1, rfl, rfl⟩
  refine W.cl [] (by kernel_rfl) (p_zof 2 (by omega) (by omega)) ?_
  rintro _ _ ⟨u2, d2, rfl, rfl⟩
  refine W.cl [] (by kernel_rfl) (p_wleft d hd) ?_
  rintro _ _ ⟨rfl, rfl⟩
  refine W.cl [] (by kernel_rfl) (p_unit d bq.n bq.a bq.m bq.b hd h0) ?_
  rintro _ _ ⟨Q1, rfl, rfl⟩
  refine W.cl [] (by kernel_rfl) (p_unit (leftD d) hq.n hq.a hq.m hq.b hd.left h0l) ?_
  rintro _ _ ⟨Q2, rfl, rfl⟩
  refine W.bs [] 2 (pac d nilQ Q1 nilQ nilQ ++ pac (leftD d) nilQ Q2 nilQ nilQ) tbOk (by kernel_rfl) (fun B1 => ?_)
  refine W.cx [] (by kernel_rfl) (entQ0 (L' := 0)) (p_along2 p u1 d1 u2 d2 B1 d (leftD d) nilQ Q1 nilQ nilQ nilQ Q2 nilQ nilQ hp hd hd.left hz) ?_
  rintro _ _ ⟨X1, Y1, rfl, rfl⟩
  refine W.bs [] 1 (svc X1 ++ svc Y1) tbOk (by kernel_rfl) (fun C1 => ?_)
  refine W.code 999 ?_
  refine W.more (by kernel_rfl) (entRA (b := C1) (xs := (svc X1 ++ svc Y1)) (fun _ _ h => h)) ?_
  refine W.cl [39] (by kernel_rfl) (p_unit d bq.n bq.a bq.m bq.b hd h0) ?_
  rintro _ _ ⟨Q3, rfl, rfl⟩
  refine W.cl [] (by kernel_rfl) (p_unitW (rightD d) d.y (IntKind.i64.wrap (0 - d.x)) rfl hwr hq.n hq.a hq.m hq.b hd.right h0r) ?_
  rintro _ _ ⟨Q4, rfl, rfl⟩
  refine W.bs [] 2 (pac d nilQ Q3 nilQ nilQ ++ pac ⟨d.y, IntKind.i64.wrap (0 - d.x)⟩ nilQ Q4 nilQ nilQ) tbOk (by kernel_rfl) (fun B5 => ?_)
  refine W.cx [] (by kernel_rfl) (entQ0 (L' := 0)) (p_along2 p u1 d1 u2 d2 B5 d ⟨d.y, IntKind.i64.wrap (0 - d.x)⟩ nilQ Q3 nilQ nilQ nilQ Q4 nilQ nilQ hp hd hrw hz) ?_
  rintro _ _ ⟨X5, Y5, rfl, rfl⟩
  refine W.bs [] 1 (svc X5 ++ svc Y5) tbOk (by kernel_rfl) (fun C5 => ?_)
  refine W.apo [] [] 40 640 1 1 (some ⟨C1, 0, none⟩) (.slice (some ⟨C5, 0, none⟩) 1 1) (svc X1 ++ svc Y1) (svc X5 ++ svc Y5) tbOk (by kernel_rfl) rfl (by decide) (by decide) (reads_row C5 [] 1 40 rfl 1) (by decide) (by decide) (fun g cap cur h1 h2 h3 h4 => ?_)
  refine W.pubr [] [] g cur (by kernel_rfl) (by kernel_rfl) ?_
  refine W.r [] (.slice (some ⟨g, 0, none⟩) (1 + 1) cap) (by kernel_rfl) ⟨some ⟨g, 0, none⟩, cap, [⟨X1, Y1, (al (sqD d) 2 p [unitP d b, unitP (leftD d) h]).1, (al (sqD d) 2 p [unitP d b, unitP (leftD d) h]).2⟩, ⟨X5, Y5, (al (sqD d) 2 p [unitP d b, ⟨⟨d.y, IntKind.i64.wrap (0 - d.x)⟩, 0, (unitP (rightD d) h).b, 0, 0⟩]).1, (al (sqD d) 2 p [unitP d b, ⟨⟨d.y, IntKind.i64.wrap (0 - d.x)⟩, 0, (unitP (rightD d) h).b, 0, 0⟩]).2⟩], rfl, h1, by rw [hre]; rfl, rfl⟩ (entPls (g := g) (take_row h4) (fun I w hd hh e he => ?_))
  simp only [List.mem_cons, List.not_mem_nil, or_false] at he
  rcases he with rfl | rfl
  · exact ⟨Has.p (k := SF X1) (a := (130, _)) inferInstance hh, Has.p (k := SF Y1) (a := (130, _)) inferInstance hh⟩
  · exact ⟨Has.p (k := SF X5) (a := (130, _)) inferInstance hh, Has.p (k := SF Y5) (a := (130, _)) inferInstance hh⟩

set_option maxHeartbeats 1000000 in
theorem p_tipT (p d : Dp) (hq bq : Qw) {h b : Rat} {L1 : Nat} [Has (QG hq) (L, h) Γ] [Has (QG bq) (L1, b) Γ] (hp : inD 2147483648 p) (hd : inD 4294967296 d) (h0 : sqD d ≠ 0) (hL : L ≤ 5 ∧ L1 ≤ 5 := by omega) :
    PCalls tb Try.prog 29 [dv p, dv d, qv hq.n hq.a hq.m hq.b, qv bq.n bq.a bq.m bq.b, .bool true] Γ (PlsP (tipL p d h b true)) := by
  have h0l : sqD (leftD d) ≠ 0 := by rw [sqD_left]; exact h0
  have h0r : sqD (rightD d) ≠ 0 := by rw [sqD_right]; exact h0
  have hz : 0 ≤ sqD d ∧ (0 : Int) ≤ 2 := ⟨sqD_nn d, by decide⟩
  have hwr : IntKind.i64.wrap (0 - d.x) = -d.x := by unfold inD at hd; rw [IntKind.wrap_i64]; omega
  have hre : (⟨d.y, IntKind.i64.wrap (0 - d.x)⟩ : Dp) = rightD d := by rw [hwr]; rfl
  have hrw : inD 4294967296 ⟨d.y, IntKind.i64.wrap (0 - d.x)⟩ := by rw [hre]; exact hd.right
  refine PCalls.of_W tbOk Try.func29 rfl (by kernel_rfl) ?_
  refine W.cl [] (by kernel_rfl) (p_wsq d hd) ?_
  rintro _ _ ⟨u1, d1, rfl, rfl⟩
  refine W.cl [] (by kernel_rfl) (p_zof 2 (by omega) (by omega)) ?_
  rintro _ _ ⟨u2, d2, rfl, rfl⟩
  refine W.cl [] (by kernel_rfl) (p_wleft d hd) ?_
  rintro _ _ ⟨rfl, rfl⟩
  refine W.cl [] (by kernel_rfl) (p_unit d bq.n bq.a bq.m bq.b hd h0) ?_
  rintro _ _ ⟨Q1, rfl, rfl⟩
  refine W.cl [] (by kernel_rfl) (p_unit (leftD d) hq.n hq.a hq.m hq.b hd.left h0l) ?_
  rintro _ _ ⟨Q2, rfl, rfl⟩
  refine W.bs [] 2 (pac d nilQ Q1 nilQ nilQ ++ pac (leftD d) nilQ Q2 nilQ nilQ) tbOk (by kernel_rfl) (fun B1 => ?_)
  refine W.cx [] (by kernel_rfl) (entQ0 (L' := 0)) (p_along2 p u1 d1 u2 d2 B1 d (leftD d) nilQ Q1 nilQ nilQ nilQ Q2 nilQ nilQ hp hd hd.left hz) ?_
  rintro _ _ ⟨X1, Y1, rfl, rfl⟩
  refine W.bs [] 1 (svc X1 ++ svc Y1) tbOk (by kernel_rfl) (fun C1 => ?_)
  refine W.code 999 ?_
  refine W.more (by kernel_rfl) (entRA (b := C1) (xs := (svc X1 ++ svc Y1)) (fun _ _ h => h)) ?_
  refine W.cl [39] (by kernel_rfl) (p_slant d hq.n hq.a hq.m hq.b hd h0) ?_
  rintro _ _ ⟨Q3, rfl, rfl⟩
  refine W.cl [] (by kernel_rfl) (p_slant (leftD d) hq.n hq.a hq.m hq.b hd.left h0l) ?_
  rintro _ _ ⟨Q4, rfl, rfl⟩
  refine W.bs [] 2 (pac d nilQ nilQ nilQ Q3 ++ pac (leftD d) nilQ nilQ nilQ Q4) tbOk (by kernel_rfl) (fun B2 => ?_)
  refine W.cx [] (by kernel_rfl) (entQ0 (L' := 0)) (p_along2 p u1 d1 u2 d2 B2 d (leftD d) nilQ nilQ nilQ Q3 nilQ nilQ nilQ Q4 hp hd hd.left hz) ?_
  rintro _ _ ⟨X2, Y2, rfl, rfl⟩
  refine W.cl [] (by kernel_rfl) (p_unit d hq.n hq.a hq.m hq.b hd h0) ?_
  rintro _ _ ⟨Q5, rfl, rfl⟩
  refine W.bs [] 1 (pac d nilQ Q5 nilQ nilQ) tbOk (by kernel_rfl) (fun B3 => ?_)
  refine W.cx [] (by kernel_rfl) (entQ0 (L' := 0)) (p_along1 p u1 d1 u2 d2 B3 d nilQ Q5 nilQ nilQ hp hd hz) ?_
  rintro _ _ ⟨X3, Y3, rfl, rfl⟩
  refine W.cl [] (by kernel_rfl) (p_slant d hq.n hq.a hq.m hq.b hd h0) ?_
  rintro _ _ ⟨Q6, rfl, rfl⟩
  refine W.cl [] (by kernel_rfl) (p_slantW (rightD d) d.y (IntKind.i64.wrap (0 - d.x)) rfl hwr hq.n hq.a hq.m hq.b hd.right h0r) ?_
  rintro _ _ ⟨Q7, rfl, rfl⟩
  refine W.bs [] 2 (pac d nilQ nilQ nilQ Q6 ++ pac ⟨d.y, IntKind.i64.wrap (0 - d.x)⟩ nilQ nilQ nilQ Q7) tbOk (by kernel_rfl) (fun B4 => ?_)
  refine W.cx [] (by kernel_rfl) (entQ0 (L' := 0)) (p_along2 p u1 d1 u2 d2 B4 d ⟨d.y, IntKind.i64.wrap (0 - d.x)⟩ nilQ nilQ nilQ Q6 nilQ nilQ nilQ Q7 hp hd hrw hz) ?_
  rintro _ _ ⟨X4, Y4, rfl, rfl⟩
  refine W.bs [] 3 ((svc X2 ++ svc Y2) ++ (svc X3 ++ svc Y3) ++ (svc X4 ++ svc Y4)) tbOk (by kernel_rfl) (fun C2 => ?_)
  refine W.apo [] [] 40 640 1 3 (some ⟨C1, 0, none⟩) (.slice (some ⟨C2, 0, none⟩) 3 3) (svc X1 ++ svc Y1) ((svc X2 ++ svc Y2) ++ (svc X3 ++ svc Y3) ++ (svc X4 ++ svc Y4)) tbOk (by kernel_rfl) rfl (by decide) (by decide) (reads_row C2 [] 3 40 rfl 3) (by decide) (by decide) (fun g cap cur h1 h2 h3 h4 => ?_)
  refine W.cl [] (by kernel_rfl) (p_unit d bq.n bq.a bq.m bq.b hd h0) ?_
  rintro _ _ ⟨Q8, rfl, rfl⟩
  refine W.cl [] (by kernel_rfl) (p_unitW (rightD d) d.y (IntKind.i64.wrap (0 - d.x)) rfl hwr hq.n hq.a hq.m hq.b hd.right h0r) ?_
  rintro _ _ ⟨Q9, rfl, rfl⟩
  refine W.bs [] 2 (pac d nilQ Q8 nilQ nilQ ++ pac ⟨d.y, IntKind.i64.wrap (0 - d.x)⟩ nilQ Q9 nilQ nilQ) tbOk (by kernel_rfl) (fun B5 => ?_)
  refine W.cx [] (by kernel_rfl) (entQ0 (L' := 0)) (p_along2 p u1 d1 u2 d2 B5 d ⟨d.y, IntKind.i64.wrap (0 - d.x)⟩ nilQ Q8 nilQ nilQ nilQ Q9 nilQ nilQ hp hd hrw hz) ?_
  rintro _ _ ⟨X5, Y5, rfl, rfl⟩
  refine W.bs [] 1 (svc X5 ++ svc Y5) tbOk (by kernel_rfl) (fun C5 => ?_)
  refine W.app [] [(g, cur)] [] [(g, cur)] [] 40 640 (1 + 3) 1 (.slice (some ⟨g, 0, none⟩) (1 + 3) cap) (.slice (some ⟨C5, 0, none⟩) 1 1) ((svc X1 ++ svc Y1) ++ ((svc X2 ++ svc Y2) ++ (svc X3 ++ svc Y3) ++ (svc X4 ++ svc Y4))) (svc X5 ++ svc Y5) tbOk (by kernel_rfl) rfl ⟨rfl, .inr ⟨g, cap, cur, rfl, rfl, h1, h2, h3, h4⟩⟩ (reads_row C5 [(g, cur)] 1 40 rfl 1) (pl_one ⟨X5, Y5, ⟨0, 0, 0, 0, 0, 0⟩, ⟨0, 0, 0, 0, 0, 0⟩⟩) (by decide) (by decide) (fun v' O' hg => ?_)
  refine W.pubgr (by simp only [List.nil_append, List.append_nil]; kernel_rfl) hg (by kernel_rfl) (fun ao c' hv hc' => ?_)
  subst hv
  refine W.r [] (.slice ao (1 + 3 + 1) c') (by kernel_rfl) ⟨ao, c', [⟨X1, Y1, (al (sqD d) 2 p [unitP d b, unitP (leftD d) h]).1, (al (sqD d) 2 p [unitP d b, unitP (leftD d) h]).2⟩, ⟨X2, Y2, (al (sqD d) 2 p [slantP d h, slantP (leftD d) h]).1, (al (sqD d) 2 p [slantP d h, slantP (leftD d) h]).2⟩, ⟨X3, Y3, (al (sqD d) 2 p [unitP d h]).1, (al (sqD d) 2 p [unitP d h]).2⟩, ⟨X4, Y4, (al (sqD d) 2 p [slantP d h, ⟨⟨d.y, IntKind.i64.wrap (0 - d.x)⟩, 0, 0, 0, (slantP (rightD d) h).e⟩]).1, (al (sqD d) 2 p [slantP d h, ⟨⟨d.y, IntKind.i64.wrap (0 - d.x)⟩, 0, 0, 0, (slantP (rightD d) h).e⟩]).2⟩, ⟨X5, Y5, (al (sqD d) 2 p [unitP d b, ⟨⟨d.y, IntKind.i64.wrap (0 - d.x)⟩, 0, (unitP (rightD d) h).b, 0, 0⟩]).1, (al (sqD d) 2 p [unitP d b, ⟨⟨d.y, IntKind.i64.wrap (0 - d.x)⟩, 0, (unitP (rightD d) h).b, 0, 0⟩]).2⟩], rfl, hc', by rw [hre]; rfl, rfl⟩ (entPlsA (fun I w hd hh e he => ?_))
  simp only [List.mem_cons, List.not_mem_nil, or_false] at he
  rcases he with rfl | rfl | rfl | rfl | rfl
  · exact ⟨Has.p (k := SF X1) (a := (130, _)) inferInstance hh, Has.p (k := SF Y1) (a := (130, _)) inferInstance hh⟩
  · exact ⟨Has.p (k := SF X2) (a := (130, _)) inferInstance hh, Has.p (k := SF Y2) (a := (130, _)) inferInstance hh⟩
  · exact ⟨Has.p (k := SF X3) (a := (130, _)) inferInstance hh, Has.p (k := SF Y3) (a := (130, _)) inferInstance hh⟩
  · exact ⟨Has.p (k := SF X4) (a := (130, _)) inferInstance hh, Has.p (k := SF Y4) (a := (130, _)) inferInstance hh⟩
  · exact ⟨Has.p (k := SF X5) (a := (130, _)) inferInstance hh, Has.p (k := SF Y5) (a := (130, _)) inferInstance hh⟩
-->tip
end
end Go.Proofs.Ytaafmafdnnjmdaa
