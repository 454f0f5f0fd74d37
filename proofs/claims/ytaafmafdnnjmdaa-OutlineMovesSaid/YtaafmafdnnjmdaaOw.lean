/- Paths of points: the contracts of outline's small functions. -/
import Derived.Test.YtaafmafdnnjmdaaOv
import Derived.Test.YtaafmafdnnjmdaaVu
import Derived.Test.YtaafmafdnnjmdaaWe
import Derived.Test.YtaafmafdnnjmdaaGr
set_option linter.unusedSimpArgs false
set_option linter.unusedVariables false
namespace Go.Proofs.Ytaafmafdnnjmdaa
open Go.RowKit Go.IntWalk

abbrev dv (d : Dp) : Value := .agg #[.int .i64 d.x, .int .i64 d.y]
def inD (B : Int) (d : Dp) : Prop := -B ≤ d.x ∧ d.x ≤ B ∧ -B ≤ d.y ∧ d.y ≤ B
/-- The cells of a part. -/
abbrev pac (d : Dp) (a b c f : Qw) : List Value := [.int .i64 d.x, .int .i64 d.y, .slice a.n.ao a.n.n a.n.c, .bool a.a, .slice a.m.ao a.m.n a.m.c, .bool a.b, .slice b.n.ao b.n.n b.n.c, .bool b.a, .slice b.m.ao b.m.n b.m.c, .bool b.b,
  .slice c.n.ao c.n.n c.n.c, .bool c.a, .slice c.m.ao c.m.n c.m.c, .bool c.b, .slice f.n.ao f.n.n f.n.c, .bool f.a, .slice f.m.ao f.m.n f.m.c, .bool f.b]

section
variable {Γ : List Fact} {L M : Nat}
theorem p_wdot (d e : Dp) (hd : inD 4294967296 d) (he : inD 4294967296 e) : PCalls tb Try.prog 68 [dv d, dv e] Γ (ZPost 9 (dotD d e)) := by
  unfold inD at *
  refine PCalls.of_W tbOk Try.func68 rfl (by kernel_rfl) ?_
  refine W.cl [] (by kernel_rfl) (p_zof d.x (by omega) (by omega)) ?_
  rintro _ _ ⟨u1, d1, rfl, rfl⟩
  refine W.cl [] (by kernel_rfl) (p_zof e.x (by omega) (by omega)) ?_
  rintro _ _ ⟨u2, d2, rfl, rfl⟩
  refine W.cl [] (by kernel_rfl) (p_zmul u1 d1 u2 d2) ?_
  rintro _ _ ⟨u3, d3, rfl, rfl⟩
  refine W.cl [] (by kernel_rfl) (p_zof d.y (by omega) (by omega)) ?_
  rintro _ _ ⟨u4, d4, rfl, rfl⟩
  refine W.cl [] (by kernel_rfl) (p_zof e.y (by omega) (by omega)) ?_
  rintro _ _ ⟨u5, d5, rfl, rfl⟩
  refine W.cl [] (by kernel_rfl) (p_zmul u4 d4 u5 d5) ?_
  rintro _ _ ⟨u6, d6, rfl, rfl⟩
  refine W.cl [] (by kernel_rfl) (p_zadd u3 d3 u6 d6) ?_
  rintro _ _ ⟨u7, d7, rfl, rfl⟩
  exact W.r [] (zv u7 d7) (by kernel_rfl) ⟨u7, d7, rfl, rfl⟩ (entZ (by omega) rfl)
theorem p_wsq (d : Dp) (hd : inD 4294967296 d) : PCalls tb Try.prog 63 [dv d] Γ (ZPost 9 (sqD d)) := by
  refine PCalls.of_W tbOk Try.func63 rfl (by kernel_rfl) ?_
  refine W.cl [] (by kernel_rfl) (p_wdot d d hd hd) ?_
  rintro _ _ ⟨u1, d1, rfl, rfl⟩
  exact W.r [] (zv u1 d1) (by kernel_rfl) ⟨u1, d1, rfl, rfl⟩ (entZ (by omega) rfl)
theorem p_wleft (d : Dp) (hd : inD 4294967296 d) : PCalls tb Try.prog 64 [dv d] Γ (IsV (dv (leftD d))) := by
  unfold inD at *
  refine PCalls.of_W tbOk Try.func64 rfl (by kernel_rfl) ?_
  refine W.r [] (.agg #[.int .i64 (IntKind.i64.wrap (0 - d.y)), .int .i64 d.x]) (by kernel_rfl) ⟨?_, rfl⟩ ent0
  rw [show IntKind.i64.wrap (0 - d.y) = -d.y by rw [IntKind.wrap_i64]; omega]
  rfl
theorem p_over (u : Sl) (d : Bool) (v : Sl) (e : Bool) {x y : Int} [Has (ZF u d) (L, x) Γ] [Has (ZF v e) (M, y) Γ] (hy : y ≠ 0) (hL : L ≤ 1000000000 := by omega) (hM : M ≤ 1000000000 := by omega) :
    PCalls tb Try.prog 100 [zv u d, zv v e] Γ (QPost (max L M) (Rat.divInt x y)) := by
  refine PCalls.of_W tbOk Try.func100 rfl (by kernel_rfl) ?_
  refine W.cl [] (by kernel_rfl) (p_qmake u d v e hy) ?_
  rintro _ _ ⟨n1, a1, m1, b1, rfl, rfl⟩
  exact W.r [] (qv n1 a1 m1 b1) (by kernel_rfl) ⟨n1, a1, m1, b1, rfl, rfl⟩ (entQ (by omega) rfl)
theorem p_unit (d : Dp) (n : Sl) (a : Bool) (m : Sl) (b : Bool) {q : Rat} [Has (QF n a m b) (L, q) Γ] (hd : inD 4294967296 d) (h0 : sqD d ≠ 0) (hL : L ≤ 1000 := by omega) :
    PCalls tb Try.prog 66 [dv d, qv n a m b] Γ (fun v Δ => ∃ Q : Qw, v = .agg (pac d nilQ Q nilQ nilQ).toArray ∧ Δ = [QG Q (L + 14, (unitP d q).b)]) := by
  refine PCalls.of_W tbOk Try.func66 rfl (by kernel_rfl) ?_
  refine W.cl [] (by kernel_rfl) (p_zof 1 (by omega) (by omega)) ?_
  rintro _ _ ⟨u1, d1, rfl, rfl⟩
  refine W.cl [] (by kernel_rfl) (p_wsq d hd) ?_
  rintro _ _ ⟨u2, d2, rfl, rfl⟩
  refine W.cl [] (by kernel_rfl) (p_over u1 d1 u2 d2 h0) ?_
  rintro _ _ ⟨n3, a3, m3, b3, rfl, rfl⟩
  refine W.cl [] (by kernel_rfl) (p_qmul n a m b n3 a3 m3 b3) ?_
  rintro _ _ ⟨n4, a4, m4, b4, rfl, rfl⟩
  exact W.r [] (.agg (pac d nilQ ⟨n4, a4, m4, b4⟩ nilQ nilQ).toArray) (by kernel_rfl) ⟨⟨n4, a4, m4, b4⟩, rfl, rfl⟩ (entQ (by omega) rfl)
theorem p_slant (d : Dp) (n : Sl) (a : Bool) (m : Sl) (b : Bool) {q : Rat} [Has (QF n a m b) (L, q) Γ] (hd : inD 4294967296 d) (h0 : sqD d ≠ 0) (hL : L ≤ 1000 := by omega) :
    PCalls tb Try.prog 67 [dv d, qv n a m b] Γ (fun v Δ => ∃ Q : Qw, v = .agg (pac d nilQ nilQ nilQ Q).toArray ∧ Δ = [QG Q (L + 16, (slantP d q).e)]) := by
  refine PCalls.of_W tbOk Try.func67 rfl (by kernel_rfl) ?_
  refine W.cl [] (by kernel_rfl) (p_zof 1 (by omega) (by omega)) ?_
  rintro _ _ ⟨u1, d1, rfl, rfl⟩
  refine W.cl [] (by kernel_rfl) (p_wsq d hd) ?_
  rintro _ _ ⟨u2, d2, rfl, rfl⟩
  refine W.cl [] (by kernel_rfl) (p_zof 2 (by omega) (by omega)) ?_
  rintro _ _ ⟨u3, d3, rfl, rfl⟩
  refine W.cl [] (by kernel_rfl) (p_zmul u2 d2 u3 d3) ?_
  rintro _ _ ⟨u4, d4, rfl, rfl⟩
  refine W.cl [] (by kernel_rfl) (p_over u1 d1 u4 d4 (by omega)) ?_
  rintro _ _ ⟨n5, a5, m5, b5, rfl, rfl⟩
  refine W.cl [] (by kernel_rfl) (p_qmul n a m b n5 a5 m5 b5) ?_
  rintro _ _ ⟨n6, a6, m6, b6, rfl, rfl⟩
  exact W.r [] (.agg (pac d nilQ nilQ nilQ ⟨n6, a6, m6, b6⟩).toArray) (by kernel_rfl) ⟨⟨n6, a6, m6, b6⟩, rfl, rfl⟩ (entQ (by omega) rfl)
theorem p_outside (n : Int) : PCalls tb Try.prog 26 [.int .i64 n] Γ (IsV (.bool (outB n))) := by
  refine PCalls.of_W tbOk Try.func26 rfl (by kernel_rfl) ?_
  refine W.d [] 5 (decide (n < -2147483648)) (by kernel_rfl) (fun hb => ?_) (fun hb => ?_)
  · exact W.r [5] (.bool true) (by kernel_rfl) ⟨by unfold outB; rw [hb]; rfl, rfl⟩ ent0
  · refine W.r [5] (.bool (decide (n > 2147483647))) (by kernel_rfl) ⟨?_, rfl⟩ ent0
    unfold outB
    rw [hb]
    simp
theorem p_outP (p : Dp) : PCalls tb Try.prog 25 [dv p] Γ (IsV (.bool (outP p))) := by
  refine PCalls.of_W tbOk Try.func25 rfl (by kernel_rfl) ?_
  refine W.cl [] (by kernel_rfl) (p_outside p.x) ?_
  rintro _ _ ⟨rfl, rfl⟩
  refine W.d [] 6 (outB p.x) (by kernel_rfl) (fun hb => ?_) (fun hb => ?_)
  · exact W.r [6] (.bool true) (by kernel_rfl) ⟨by unfold outP; rw [hb]; rfl, rfl⟩ ent0
  · refine W.cl [6] (by kernel_rfl) (p_outside p.y) ?_
    rintro _ _ ⟨rfl, rfl⟩
    exact W.r [6] (.bool (outB p.y)) (by kernel_rfl) ⟨by unfold outP; rw [hb]; rfl, rfl⟩ ent0

theorem bound_mul {g a b : Int} (hg : 0 < g) (h : a = g * b) (h1 : -4294967296 ≤ a) (h2 : a ≤ 4294967296) : -4294967296 ≤ b ∧ b ≤ 4294967296 := by
  have k1 : b.natAbs ≤ a.natAbs := by
    rw [h, Int.natAbs_mul]
    exact Nat.le_mul_of_pos_left _ (by omega)
  omega
theorem max_abs (x : Int) (h : -9223372036854775807 ≤ x) (h2 : x ≤ 9223372036854775807) : max x (IntKind.i64.wrap (0 - x)) = (x.natAbs : Int) := by
  rw [IntKind.wrap_i64]
  omega
theorem p_between (p q : Dp) (hp : inD 2147483648 p) (hq : inD 2147483648 q) (hne : p ≠ q) : PCalls tb Try.prog 61 [dv p, dv q] Γ (IsV (dv (wayv p q))) := by
  have hv := ne_sub hne
  have hg := gcdD_pos hv
  have hdv := gcdD_dvd ⟨q.x - p.x, q.y - p.y⟩
  have hgd : gcdD ⟨q.x - p.x, q.y - p.y⟩ = ((Nat.gcd (q.x - p.x).natAbs (q.y - p.y).natAbs : Nat) : Int) := rfl
  simp only at hv hdv
  unfold inD at *
  have e1 : IntKind.i64.wrap (q.x - p.x) = q.x - p.x := by rw [IntKind.wrap_i64]; omega
  have e2 : IntKind.i64.wrap (q.y - p.y) = q.y - p.y := by rw [IntKind.wrap_i64]; omega
  refine PCalls.of_W tbOk Try.func61 rfl (by kernel_rfl) ?_
  refine W.mx [] .i64 (IntKind.i64.wrap (q.x - p.x)) (IntKind.i64.wrap (0 - IntKind.i64.wrap (q.x - p.x))) ((q.x - p.x).natAbs : Int) (by kernel_rfl) (by rw [e1]; exact max_abs _ (by omega) (by omega)) ?_
  refine W.mx [] .i64 (IntKind.i64.wrap (q.y - p.y)) (IntKind.i64.wrap (0 - IntKind.i64.wrap (q.y - p.y))) ((q.y - p.y).natAbs : Int) (by kernel_rfl) (by rw [e2]; exact max_abs _ (by omega) (by omega)) ?_
  refine W.lp [] [7, 8] (fun a : Nat × Nat => [(7, .int .i64 (a.1 : Int)), (8, .int .i64 (a.2 : Int))]) (fun _ => []) (fun _ => []) (fun a => Nat.gcd a.1 a.2 = Nat.gcd (q.x - p.x).natAbs (q.y - p.y).natAbs) (fun a => a.2) ((q.x - p.x).natAbs, (q.y - p.y).natAbs) (by kernel_rfl) (by kernel_rfl) rfl ent0 ?_
  rintro ⟨a, b⟩ R hab close
  simp only at hab
  refine W.d [] 28 (decide ((b : Int) > 0)) (by kernel_rfl) (fun hb => ?_) (fun hb => ?_)
  · have hk := of_decide_eq_true hb
    refine W.rem [28] (a : Int) (b : Int) ((a % b : Nat) : Int) (by kernel_rfl) (by omega) (by rw [Int.tmod_eq_emod_of_nonneg (by omega), Int.natCast_emod]) ?_
    refine close [] _ _ (b, a % b) (by kernel_rfl) (by kernel_rfl) (by rw [← hab, Nat.gcd_comm a b, Nat.gcd_rec b a, Nat.gcd_comm]) (Nat.mod_lt _ (by omega)) ent0
  · have hk := of_decide_eq_false hb
    have hb0 : b = 0 := by omega
    subst hb0
    rw [Nat.gcd_zero_right] at hab
    subst hab
    rw [← hgd] at *
    have hgx : (q.x - p.x).tdiv (gcdD ⟨q.x - p.x, q.y - p.y⟩) = (wayv p q).x := Int.tdiv_eq_ediv_of_dvd hdv.1
    have hgy : (q.y - p.y).tdiv (gcdD ⟨q.x - p.x, q.y - p.y⟩) = (wayv p q).y := Int.tdiv_eq_ediv_of_dvd hdv.2
    have hm := dir_mul ⟨q.x - p.x, q.y - p.y⟩
    simp only at hm
    have bx : -4294967296 ≤ (wayv p q).x ∧ (wayv p q).x ≤ 4294967296 := bound_mul hg hm.1 (by omega) (by omega)
    have byy : -4294967296 ≤ (wayv p q).y ∧ (wayv p q).y ≤ 4294967296 := bound_mul hg hm.2 (by omega) (by omega)
    refine W.quo [28] (IntKind.i64.wrap (q.x - p.x)) (gcdD ⟨q.x - p.x, q.y - p.y⟩) (wayv p q).x (by kernel_rfl) (by omega) (by rw [e1, hgx, IntKind.wrap_i64]; omega) ?_
    refine W.quo [] (IntKind.i64.wrap (q.y - p.y)) (gcdD ⟨q.x - p.x, q.y - p.y⟩) (wayv p q).y (by kernel_rfl) (by omega) (by rw [e2, hgy, IntKind.wrap_i64]; omega) ?_
    exact W.r [] (dv (wayv p q)) (by kernel_rfl) ⟨rfl, rfl⟩ ent0

theorem p_xof4 (u : Sl) (d : Bool) (v : Sl) (e : Bool) (B : Nat) (a b c f : Qw) {m n : Int} {x y z w : Rat} {K L1 L2 L3 L4 : Nat} [h1 : Has (ZF u d) (L, m) Γ] [h2 : Has (ZF v e) (M, n) Γ]
    [hr : Has (RowF B) ([(⟨a.n, a.a, a.m, a.b, x⟩ : QE), (⟨b.n, b.a, b.m, b.b, y⟩ : QE), (⟨c.n, c.a, c.m, c.b, z⟩ : QE), (⟨f.n, f.a, f.m, f.b, w⟩ : QE)].flatMap QR.cells) Γ]
    [ha : Has (QG a) (L1, x) Γ] [hb : Has (QG b) (L2, y) Γ] [hc : Has (QG c) (L3, z) Γ] [hf : Has (QG f) (L4, w) Γ] (hm : 0 ≤ m) (hn : 0 ≤ n)
    (hL : L ≤ 100000 := by omega) (hM : M ≤ 100000 := by omega) (hK : L1 ≤ K ∧ L2 ≤ K ∧ L3 ≤ K ∧ L4 ≤ K := by omega) :
    PCalls tb Try.prog 54 [zv u d, zv v e, .slice (some ⟨B, 0, none⟩) 4 4] Γ (SOk (max (max L M) K) ⟨m, n, x, y, z, w⟩) :=
  (p_xof (Γ := OL QR (some ⟨B, 0, none⟩) (K, [(⟨a.n, a.a, a.m, a.b, x⟩ : QE), (⟨b.n, b.a, b.m, b.b, y⟩ : QE), (⟨c.n, c.a, c.m, c.b, z⟩ : QE), (⟨f.n, f.a, f.m, f.b, w⟩ : QE)]) :: Γ) u d v e (some ⟨B, 0, none⟩) 4 4 rfl (by omega) hm hn).weak (fun I w hd hh => Holds.cons ⟨fun q hq => by
    simp at hq
    rcases hq with rfl | rfl | rfl | rfl
    · exact QF.up2 (ha.p hh) hK.1
    · exact QF.up2 (hb.p hh) hK.2.1
    · exact QF.up2 (hc.p hh) hK.2.2.1
    · exact QF.up2 (hf.p hh) hK.2.2.2, RA.of_row (hr.p hh) (fun _ _ h => h)⟩ hh) (fun _ _ h => h)
--<al
set_option maxHeartbeats 4000000 in
theorem p_along1 (p : Dp) (u : Sl) (d : Bool) (v : Sl) (e : Bool) (B : Nat) (g : Dp) (A1 A2 A3 A4 : Qw) {m n : Int} {x1 x2 x3 x4 : Rat} {K1 K2 K3 K4 : Nat} [Has (ZF u d) (L, m) Γ] [Has (ZF v e) (M, n) Γ] [Has (RowF B) (pac g A1 A2 A3 A4) Γ]
    [Has (QG A1) (K1, x1) Γ] [Has (QG A2) (K2, x2) Γ] [Has (QG A3) (K3, x3) Γ] [Has (QG A4) (K4, x4) Γ] (hp : inD 2147483648 p) (hg : inD 4294967296 g) (h0 : 0 ≤ m ∧ 0 ≤ n) (hL : L ≤ 10 ∧ M ≤ 10 := by omega) (hK : K1 ≤ 45 ∧ K2 ≤ 45 ∧ K3 ≤ 45 ∧ K4 ≤ 45 := by omega) :
    PCalls tb Try.prog 65 [dv p, zv u d, zv v e, .slice (some ⟨B, 0, none⟩) 1 1] Γ (PlPost 130 (alX m n p.x [⟨g, x1, x2, x3, x4⟩]) (alY m n p.y [⟨g, x1, x2, x3, x4⟩])) := by
  unfold inD at *
  refine PCalls.of_W tbOk Try.func65 rfl (by kernel_rfl) ?_
  refine W.cl [] (by kernel_rfl) (p_zof p.x (by omega) (by omega)) ?_
  rintro _ _ ⟨ux, dx, rfl, rfl⟩
  refine W.cl [] (by kernel_rfl) (p_qwhole ux dx) ?_
  rintro _ _ ⟨nx, ax, mx, bbx, rfl, rfl⟩
  refine W.bs [] 1 ([(⟨nx, ax, mx, bbx, ((p.x : Int) : Rat)⟩ : QE)].flatMap QR.cells) tbOk (by kernel_rfl) (fun Bx => ?_)
  refine W.cl [] (by kernel_rfl) (p_xof1 u d v e Bx ⟨nx, ax, mx, bbx⟩ h0.1 h0.2) ?_
  rintro _ _ ⟨X, rfl, rfl⟩
  refine W.cl [] (by kernel_rfl) (p_zof p.y (by omega) (by omega)) ?_
  rintro _ _ ⟨uy, dy, rfl, rfl⟩
  refine W.cl [] (by kernel_rfl) (p_qwhole uy dy) ?_
  rintro _ _ ⟨ny, ay, my, bby, rfl, rfl⟩
  refine W.bs [] 1 ([(⟨ny, ay, my, bby, ((p.y : Int) : Rat)⟩ : QE)].flatMap QR.cells) tbOk (by kernel_rfl) (fun By => ?_)
  refine W.cl [] (by kernel_rfl) (p_xof1 u d v e By ⟨ny, ay, my, bby⟩ h0.1 h0.2) ?_
  rintro _ _ ⟨Y, rfl, rfl⟩
  refine W.unr [] 5 (by kernel_rfl) ?_
  refine W.ia [47] 18 B 0 1 1 .i64 0 0 rfl tbOk (by kernel_rfl) (by decide) ?_
  refine W.ldr [] B (0 + 0 * 18) (pac g A1 A2 A3 A4) tbOk (by kernel_rfl) rfl ?_
  refine W.unr [] 5 (by kernel_rfl) ?_
  refine W.cl [55] (by kernel_rfl) (p_zof g.x (by omega) (by omega)) ?_
  rintro _ _ ⟨us00, ds00, rfl, rfl⟩
  refine W.cl [] (by kernel_rfl) (p_qwhole us00 ds00) ?_
  rintro _ _ ⟨ns00, as00, ms00, bs00, rfl, rfl⟩
  refine W.cl [] (by kernel_rfl) (p_qmul A1.n A1.a A1.m A1.b ns00 as00 ms00 bs00) ?_
  rintro _ _ ⟨ns00', as00', ms00', bs00', rfl, rfl⟩
  refine W.cl [] (by kernel_rfl) (p_zof g.y (by omega) (by omega)) ?_
  rintro _ _ ⟨ut00, dt00, rfl, rfl⟩
  refine W.cl [] (by kernel_rfl) (p_qwhole ut00 dt00) ?_
  rintro _ _ ⟨nt00, at00, mt00, bt00, rfl, rfl⟩
  refine W.cl [] (by kernel_rfl) (p_qmul A1.n A1.a A1.m A1.b nt00 at00 mt00 bt00) ?_
  rintro _ _ ⟨nt00', at00', mt00', bt00', rfl, rfl⟩
  refine W.cl [55] (by kernel_rfl) (p_zof g.x (by omega) (by omega)) ?_
  rintro _ _ ⟨us01, ds01, rfl, rfl⟩
  refine W.cl [] (by kernel_rfl) (p_qwhole us01 ds01) ?_
  rintro _ _ ⟨ns01, as01, ms01, bs01, rfl, rfl⟩
  refine W.cl [] (by kernel_rfl) (p_qmul A2.n A2.a A2.m A2.b ns01 as01 ms01 bs01) ?_
  rintro _ _ ⟨ns01', as01', ms01', bs01', rfl, rfl⟩
  refine W.cl [] (by kernel_rfl) (p_zof g.y (by omega) (by omega)) ?_
  rintro _ _ ⟨ut01, dt01, rfl, rfl⟩
  refine W.cl [] (by kernel_rfl) (p_qwhole ut01 dt01) ?_
  rintro _ _ ⟨nt01, at01, mt01, bt01, rfl, rfl⟩
  refine W.cl [] (by kernel_rfl) (p_qmul A2.n A2.a A2.m A2.b nt01 at01 mt01 bt01) ?_
  rintro _ _ ⟨nt01', at01', mt01', bt01', rfl, rfl⟩
  refine W.cl [55] (by kernel_rfl) (p_zof g.x (by omega) (by omega)) ?_
  rintro _ _ ⟨us02, ds02, rfl, rfl⟩
  refine W.cl [] (by kernel_rfl) (p_qwhole us02 ds02) ?_
  rintro _ _ ⟨ns02, as02, ms02, bs02, rfl, rfl⟩
  refine W.cl [] (by kernel_rfl) (p_qmul A3.n A3.a A3.m A3.b ns02 as02 ms02 bs02) ?_
  rintro _ _ ⟨ns02', as02', ms02', bs02', rfl, rfl⟩
  refine W.cl [] (by kernel_rfl) (p_zof g.y (by omega) (by omega)) ?_
  rintro _ _ ⟨ut02, dt02, rfl, rfl⟩
  refine W.cl [] (by kernel_rfl) (p_qwhole ut02 dt02) ?_
  rintro _ _ ⟨nt02, at02, mt02, bt02, rfl, rfl⟩
  refine W.cl [] (by kernel_rfl) (p_qmul A3.n A3.a A3.m A3.b nt02 at02 mt02 bt02) ?_
  rintro _ _ ⟨nt02', at02', mt02', bt02', rfl, rfl⟩
  refine W.cl [55] (by kernel_rfl) (p_zof g.x (by omega) (by omega)) ?_
  rintro _ _ ⟨us03, ds03, rfl, rfl⟩
  refine W.cl [] (by kernel_rfl) (p_qwhole us03 ds03) ?_
  rintro _ _ ⟨ns03, as03, ms03, bs03, rfl, rfl⟩
  refine W.cl [] (by kernel_rfl) (p_qmul A4.n A4.a A4.m A4.b ns03 as03 ms03 bs03) ?_
  rintro _ _ ⟨ns03', as03', ms03', bs03', rfl, rfl⟩
  refine W.cl [] (by kernel_rfl) (p_zof g.y (by omega) (by omega)) ?_
  rintro _ _ ⟨ut03, dt03, rfl, rfl⟩
  refine W.cl [] (by kernel_rfl) (p_qwhole ut03 dt03) ?_
  rintro _ _ ⟨nt03, at03, mt03, bt03, rfl, rfl⟩
  refine W.cl [] (by kernel_rfl) (p_qmul A4.n A4.a A4.m A4.b nt03 at03 mt03 bt03) ?_
  rintro _ _ ⟨nt03', at03', mt03', bt03', rfl, rfl⟩
  refine W.revp 15 ([(⟨ns00', as00', ms00', bs00', x1 * ((g.x : Int) : Rat)⟩ : QE), (⟨ns01', as01', ms01', bs01', x2 * ((g.x : Int) : Rat)⟩ : QE), (⟨ns02', as02', ms02', bs02', x3 * ((g.x : Int) : Rat)⟩ : QE), (⟨ns03', as03', ms03', bs03', x4 * ((g.x : Int) : Rat)⟩ : QE)].flatMap QR.cells) (by kernel_rfl) (by kernel_rfl) (fun bu0 => ?_)
  refine W.revp 16 ([(⟨nt00', at00', mt00', bt00', x1 * ((g.y : Int) : Rat)⟩ : QE), (⟨nt01', at01', mt01', bt01', x2 * ((g.y : Int) : Rat)⟩ : QE), (⟨nt02', at02', mt02', bt02', x3 * ((g.y : Int) : Rat)⟩ : QE), (⟨nt03', at03', mt03', bt03', x4 * ((g.y : Int) : Rat)⟩ : QE)].flatMap QR.cells) (by kernel_rfl) (by kernel_rfl) (fun bv0 => ?_)
  refine W.sla [55] 4 4 bu0 0 none none 0 4 tbOk (by kernel_rfl) (.inr ⟨rfl, rfl⟩) (.inr ⟨rfl, rfl⟩) (by decide) (by decide) (by decide) ?_
  refine W.cl [] (by kernel_rfl) (p_xof4 u d v e bu0 ⟨ns00', as00', ms00', bs00'⟩ ⟨ns01', as01', ms01', bs01'⟩ ⟨ns02', as02', ms02', bs02'⟩ ⟨ns03', as03', ms03', bs03'⟩ (K := 52) h0.1 h0.2) ?_
  rintro _ _ ⟨S0, rfl, rfl⟩
  refine W.sla [] 4 4 bv0 0 none none 0 4 tbOk (by kernel_rfl) (.inr ⟨rfl, rfl⟩) (.inr ⟨rfl, rfl⟩) (by decide) (by decide) (by decide) ?_
  refine W.cl [] (by kernel_rfl) (p_xof4 u d v e bv0 ⟨nt00', at00', mt00', bt00'⟩ ⟨nt01', at01', mt01', bt01'⟩ ⟨nt02', at02', mt02', bt02'⟩ ⟨nt03', at03', mt03', bt03'⟩ (K := 52) h0.1 h0.2) ?_
  rintro _ _ ⟨T0, rfl, rfl⟩
  refine W.cl [] (by kernel_rfl) (p_xadd X (S := (⟨m, n, ((p.x : Int) : Rat), 0, 0, 0⟩ : Sn)) S0 (T := ⟨m, n, x1 * ((g.x : Int) : Rat), x2 * ((g.x : Int) : Rat), x3 * ((g.x : Int) : Rat), x4 * ((g.x : Int) : Rat)⟩) rfl rfl) ?_
  rintro _ _ ⟨X0, rfl, rfl⟩
  refine W.cl [] (by kernel_rfl) (p_xadd Y (S := (⟨m, n, ((p.y : Int) : Rat), 0, 0, 0⟩ : Sn)) T0 (T := ⟨m, n, x1 * ((g.y : Int) : Rat), x2 * ((g.y : Int) : Rat), x3 * ((g.y : Int) : Rat), x4 * ((g.y : Int) : Rat)⟩) rfl rfl) ?_
  rintro _ _ ⟨Y0, rfl, rfl⟩
  exact W.r [47] (plv X0 Y0) (by kernel_rfl) ⟨X0, Y0, rfl, rfl⟩ (entAll (Δ := [_]) (Δ' := [_]) (entS' (by omega) rfl) (entS' (by omega) rfl))

set_option maxHeartbeats 4000000 in
theorem p_along2 (p : Dp) (u : Sl) (d : Bool) (v : Sl) (e : Bool) (B : Nat) (g : Dp) (k : Dp) (A1 A2 A3 A4 B1 B2 B3 B4 : Qw) {m n : Int} {x1 x2 x3 x4 y1 y2 y3 y4 : Rat} {K1 K2 K3 K4 J1 J2 J3 J4 : Nat} [Has (ZF u d) (L, m) Γ] [Has (ZF v e) (M, n) Γ] [Has (RowF B) (pac g A1 A2 A3 A4 ++ pac k B1 B2 B3 B4) Γ]
    [Has (QG A1) (K1, x1) Γ] [Has (QG A2) (K2, x2) Γ] [Has (QG A3) (K3, x3) Γ] [Has (QG A4) (K4, x4) Γ] [Has (QG B1) (J1, y1) Γ] [Has (QG B2) (J2, y2) Γ] [Has (QG B3) (J3, y3) Γ] [Has (QG B4) (J4, y4) Γ] (hp : inD 2147483648 p) (hg : inD 4294967296 g) (hk : inD 4294967296 k) (h0 : 0 ≤ m ∧ 0 ≤ n) (hL : L ≤ 10 ∧ M ≤ 10 := by omega) (hK : K1 ≤ 45 ∧ K2 ≤ 45 ∧ K3 ≤ 45 ∧ K4 ≤ 45 ∧ J1 ≤ 45 ∧ J2 ≤ 45 ∧ J3 ≤ 45 ∧ J4 ≤ 45 := by omega) :
    PCalls tb Try.prog 65 [dv p, zv u d, zv v e, .slice (some ⟨B, 0, none⟩) 2 2] Γ (PlPost 130 (alX m n p.x [⟨g, x1, x2, x3, x4⟩, ⟨k, y1, y2, y3, y4⟩]) (alY m n p.y [⟨g, x1, x2, x3, x4⟩, ⟨k, y1, y2, y3, y4⟩])) := by
  unfold inD at *
  refine PCalls.of_W tbOk Try.func65 rfl (by kernel_rfl) ?_
  refine W.cl [] (by kernel_rfl) (p_zof p.x (by omega) (by omega)) ?_
  rintro _ _ ⟨ux, dx, rfl, rfl⟩
  refine W.cl [] (by kernel_rfl) (p_qwhole ux dx) ?_
  rintro _ _ ⟨nx, ax, mx, bbx, rfl, rfl⟩
  refine W.bs [] 1 ([(⟨nx, ax, mx, bbx, ((p.x : Int) : Rat)⟩ : QE)].flatMap QR.cells) tbOk (by kernel_rfl) (fun Bx => ?_)
  refine W.cl [] (by kernel_rfl) (p_xof1 u d v e Bx ⟨nx, ax, mx, bbx⟩ h0.1 h0.2) ?_
  rintro _ _ ⟨X, rfl, rfl⟩
  refine W.cl [] (by kernel_rfl) (p_zof p.y (by omega) (by omega)) ?_
  rintro _ _ ⟨uy, dy, rfl, rfl⟩
  refine W.cl [] (by kernel_rfl) (p_qwhole uy dy) ?_
  rintro _ _ ⟨ny, ay, my, bby, rfl, rfl⟩
  refine W.bs [] 1 ([(⟨ny, ay, my, bby, ((p.y : Int) : Rat)⟩ : QE)].flatMap QR.cells) tbOk (by kernel_rfl) (fun By => ?_)
  refine W.cl [] (by kernel_rfl) (p_xof1 u d v e By ⟨ny, ay, my, bby⟩ h0.1 h0.2) ?_
  rintro _ _ ⟨Y, rfl, rfl⟩
  refine W.unr [] 5 (by kernel_rfl) ?_
  refine W.ia [47] 18 B 0 2 2 .i64 0 0 rfl tbOk (by kernel_rfl) (by decide) ?_
  refine W.ldr [] B (0 + 0 * 18) (pac g A1 A2 A3 A4) tbOk (by kernel_rfl) rfl ?_
  refine W.unr [] 5 (by kernel_rfl) ?_
  refine W.cl [55] (by kernel_rfl) (p_zof g.x (by omega) (by omega)) ?_
  rintro _ _ ⟨us00, ds00, rfl, rfl⟩
  refine W.cl [] (by kernel_rfl) (p_qwhole us00 ds00) ?_
  rintro _ _ ⟨ns00, as00, ms00, bs00, rfl, rfl⟩
  refine W.cl [] (by kernel_rfl) (p_qmul A1.n A1.a A1.m A1.b ns00 as00 ms00 bs00) ?_
  rintro _ _ ⟨ns00', as00', ms00', bs00', rfl, rfl⟩
  refine W.cl [] (by kernel_rfl) (p_zof g.y (by omega) (by omega)) ?_
  rintro _ _ ⟨ut00, dt00, rfl, rfl⟩
  refine W.cl [] (by kernel_rfl) (p_qwhole ut00 dt00) ?_
  rintro _ _ ⟨nt00, at00, mt00, bt00, rfl, rfl⟩
  refine W.cl [] (by kernel_rfl) (p_qmul A1.n A1.a A1.m A1.b nt00 at00 mt00 bt00) ?_
  rintro _ _ ⟨nt00', at00', mt00', bt00', rfl, rfl⟩
  refine W.cl [55] (by kernel_rfl) (p_zof g.x (by omega) (by omega)) ?_
  rintro _ _ ⟨us01, ds01, rfl, rfl⟩
  refine W.cl [] (by kernel_rfl) (p_qwhole us01 ds01) ?_
  rintro _ _ ⟨ns01, as01, ms01, bs01, rfl, rfl⟩
  refine W.cl [] (by kernel_rfl) (p_qmul A2.n A2.a A2.m A2.b ns01 as01 ms01 bs01) ?_
  rintro _ _ ⟨ns01', as01', ms01', bs01', rfl, rfl⟩
  refine W.cl [] (by kernel_rfl) (p_zof g.y (by omega) (by omega)) ?_
  rintro _ _ ⟨ut01, dt01, rfl, rfl⟩
  refine W.cl [] (by kernel_rfl) (p_qwhole ut01 dt01) ?_
  rintro _ _ ⟨nt01, at01, mt01, bt01, rfl, rfl⟩
  refine W.cl [] (by kernel_rfl) (p_qmul A2.n A2.a A2.m A2.b nt01 at01 mt01 bt01) ?_
  rintro _ _ ⟨nt01', at01', mt01', bt01', rfl, rfl⟩
  refine W.cl [55] (by kernel_rfl) (p_zof g.x (by omega) (by omega)) ?_
  rintro _ _ ⟨us02, ds02, rfl, rfl⟩
  refine W.cl [] (by kernel_rfl) (p_qwhole us02 ds02) ?_
  rintro _ _ ⟨ns02, as02, ms02, bs02, rfl, rfl⟩
  refine W.cl [] (by kernel_rfl) (p_qmul A3.n A3.a A3.m A3.b ns02 as02 ms02 bs02) ?_
  rintro _ _ ⟨ns02', as02', ms02', bs02', rfl, rfl⟩
  refine W.cl [] (by kernel_rfl) (p_zof g.y (by omega) (by omega)) ?_
  rintro _ _ ⟨ut02, dt02, rfl, rfl⟩
  refine W.cl [] (by kernel_rfl) (p_qwhole ut02 dt02) ?_
  rintro _ _ ⟨nt02, at02, mt02, bt02, rfl, rfl⟩
  refine W.cl [] (by kernel_rfl) (p_qmul A3.n A3.a A3.m A3.b nt02 at02 mt02 bt02) ?_
  rintro _ _ ⟨nt02', at02', mt02', bt02', rfl, rfl⟩
  refine W.cl [55] (by kernel_rfl) (p_zof g.x (by omega) (by omega)) ?_
  rintro _ _ ⟨us03, ds03, rfl, rfl⟩
  refine W.cl [] (by kernel_rfl) (p_qwhole us03 ds03) ?_
  rintro _ _ ⟨ns03, as03, ms03, bs03, rfl, rfl⟩
  refine W.cl [] (by kernel_rfl) (p_qmul A4.n A4.a A4.m A4.b ns03 as03 ms03 bs03) ?_
  rintro _ _ ⟨ns03', as03', ms03', bs03', rfl, rfl⟩
  refine W.cl [] (by kernel_rfl) (p_zof g.y (by omega) (by omega)) ?_
  rintro _ _ ⟨ut03, dt03, rfl, rfl⟩
  refine W.cl [] (by kernel_rfl) (p_qwhole ut03 dt03) ?_
  rintro _ _ ⟨nt03, at03, mt03, bt03, rfl, rfl⟩
  refine W.cl [] (by kernel_rfl) (p_qmul A4.n A4.a A4.m A4.b nt03 at03 mt03 bt03) ?_
  rintro _ _ ⟨nt03', at03', mt03', bt03', rfl, rfl⟩
  refine W.revp 15 ([(⟨ns00', as00', ms00', bs00', x1 * ((g.x : Int) : Rat)⟩ : QE), (⟨ns01', as01', ms01', bs01', x2 * ((g.x : Int) : Rat)⟩ : QE), (⟨ns02', as02', ms02', bs02', x3 * ((g.x : Int) : Rat)⟩ : QE), (⟨ns03', as03', ms03', bs03', x4 * ((g.x : Int) : Rat)⟩ : QE)].flatMap QR.cells) (by kernel_rfl) (by kernel_rfl) (fun bu0 => ?_)
  refine W.revp 16 ([(⟨nt00', at00', mt00', bt00', x1 * ((g.y : Int) : Rat)⟩ : QE), (⟨nt01', at01', mt01', bt01', x2 * ((g.y : Int) : Rat)⟩ : QE), (⟨nt02', at02', mt02', bt02', x3 * ((g.y : Int) : Rat)⟩ : QE), (⟨nt03', at03', mt03', bt03', x4 * ((g.y : Int) : Rat)⟩ : QE)].flatMap QR.cells) (by kernel_rfl) (by kernel_rfl) (fun bv0 => ?_)
  refine W.sla [55] 4 4 bu0 0 none none 0 4 tbOk (by kernel_rfl) (.inr ⟨rfl, rfl⟩) (.inr ⟨rfl, rfl⟩) (by decide) (by decide) (by decide) ?_
  refine W.cl [] (by kernel_rfl) (p_xof4 u d v e bu0 ⟨ns00', as00', ms00', bs00'⟩ ⟨ns01', as01', ms01', bs01'⟩ ⟨ns02', as02', ms02', bs02'⟩ ⟨ns03', as03', ms03', bs03'⟩ (K := 52) h0.1 h0.2) ?_
  rintro _ _ ⟨S0, rfl, rfl⟩
  refine W.sla [] 4 4 bv0 0 none none 0 4 tbOk (by kernel_rfl) (.inr ⟨rfl, rfl⟩) (.inr ⟨rfl, rfl⟩) (by decide) (by decide) (by decide) ?_
  refine W.cl [] (by kernel_rfl) (p_xof4 u d v e bv0 ⟨nt00', at00', mt00', bt00'⟩ ⟨nt01', at01', mt01', bt01'⟩ ⟨nt02', at02', mt02', bt02'⟩ ⟨nt03', at03', mt03', bt03'⟩ (K := 52) h0.1 h0.2) ?_
  rintro _ _ ⟨T0, rfl, rfl⟩
  refine W.cl [] (by kernel_rfl) (p_xadd X (S := (⟨m, n, ((p.x : Int) : Rat), 0, 0, 0⟩ : Sn)) S0 (T := ⟨m, n, x1 * ((g.x : Int) : Rat), x2 * ((g.x : Int) : Rat), x3 * ((g.x : Int) : Rat), x4 * ((g.x : Int) : Rat)⟩) rfl rfl) ?_
  rintro _ _ ⟨X0, rfl, rfl⟩
  refine W.cl [] (by kernel_rfl) (p_xadd Y (S := (⟨m, n, ((p.y : Int) : Rat), 0, 0, 0⟩ : Sn)) T0 (T := ⟨m, n, x1 * ((g.y : Int) : Rat), x2 * ((g.y : Int) : Rat), x3 * ((g.y : Int) : Rat), x4 * ((g.y : Int) : Rat)⟩) rfl rfl) ?_
  rintro _ _ ⟨Y0, rfl, rfl⟩
  refine W.ia [47] 18 B 0 2 2 .i64 1 1 rfl tbOk (by kernel_rfl) (by decide) ?_
  refine W.ldr [] B (0 + 1 * 18) (pac k B1 B2 B3 B4) tbOk (by kernel_rfl) rfl ?_
  refine W.unr [] 5 (by kernel_rfl) ?_
  refine W.cl [55] (by kernel_rfl) (p_zof k.x (by omega) (by omega)) ?_
  rintro _ _ ⟨us10, ds10, rfl, rfl⟩
  refine W.cl [] (by kernel_rfl) (p_qwhole us10 ds10) ?_
  rintro _ _ ⟨ns10, as10, ms10, bs10, rfl, rfl⟩
  refine W.cl [] (by kernel_rfl) (p_qmul B1.n B1.a B1.m B1.b ns10 as10 ms10 bs10) ?_
  rintro _ _ ⟨ns10', as10', ms10', bs10', rfl, rfl⟩
  refine W.cl [] (by kernel_rfl) (p_zof k.y (by omega) (by omega)) ?_
  rintro _ _ ⟨ut10, dt10, rfl, rfl⟩
  refine W.cl [] (by kernel_rfl) (p_qwhole ut10 dt10) ?_
  rintro _ _ ⟨nt10, at10, mt10, bt10, rfl, rfl⟩
  refine W.cl [] (by kernel_rfl) (p_qmul B1.n B1.a B1.m B1.b nt10 at10 mt10 bt10) ?_
  rintro _ _ ⟨nt10', at10', mt10', bt10', rfl, rfl⟩
  refine W.cl [55] (by kernel_rfl) (p_zof k.x (by omega) (by omega)) ?_
  rintro _ _ ⟨us11, ds11, rfl, rfl⟩
  refine W.cl [] (by kernel_rfl) (p_qwhole us11 ds11) ?_
  rintro _ _ ⟨ns11, as11, ms11, bs11, rfl, rfl⟩
  refine W.cl [] (by kernel_rfl) (p_qmul B2.n B2.a B2.m B2.b ns11 as11 ms11 bs11) ?_
  rintro _ _ ⟨ns11', as11', ms11', bs11', rfl, rfl⟩
  refine W.cl [] (by kernel_rfl) (p_zof k.y (by omega) (by omega)) ?_
  rintro _ _ ⟨ut11, dt11, rfl, rfl⟩
  refine W.cl [] (by kernel_rfl) (p_qwhole ut11 dt11) ?_
  rintro _ _ ⟨nt11, at11, mt11, bt11, rfl, rfl⟩
  refine W.cl [] (by kernel_rfl) (p_qmul B2.n B2.a B2.m B2.b nt11 at11 mt11 bt11) ?_
  rintro _ _ ⟨nt11', at11', mt11', bt11', rfl, rfl⟩
  refine W.cl [55] (by kernel_rfl) (p_zof k.x (by omega) (by omega)) ?_
  rintro _ _ ⟨us12, ds12, rfl, rfl⟩
  refine W.cl [] (by kernel_rfl) (p_qwhole us12 ds12) ?_
  rintro _ _ ⟨ns12, as12, ms12, bs12, rfl, rfl⟩
  refine W.cl [] (by kernel_rfl) (p_qmul B3.n B3.a B3.m B3.b ns12 as12 ms12 bs12) ?_
  rintro _ _ ⟨ns12', as12', ms12', bs12', rfl, rfl⟩
  refine W.cl [] (by kernel_rfl) (p_zof k.y (by omega) (by omega)) ?_
  rintro _ _ ⟨ut12, dt12, rfl, rfl⟩
  refine W.cl [] (by kernel_rfl) (p_qwhole ut12 dt12) ?_
  rintro _ _ ⟨nt12, at12, mt12, bt12, rfl, rfl⟩
  refine W.cl [] (by kernel_rfl) (p_qmul B3.n B3.a B3.m B3.b nt12 at12 mt12 bt12) ?_
  rintro _ _ ⟨nt12', at12', mt12', bt12', rfl, rfl⟩
  refine W.cl [55] (by kernel_rfl) (p_zof k.x (by omega) (by omega)) ?_
  rintro _ _ ⟨us13, ds13, rfl, rfl⟩
  refine W.cl [] (by kernel_rfl) (p_qwhole us13 ds13) ?_
  rintro _ _ ⟨ns13, as13, ms13, bs13, rfl, rfl⟩
  refine W.cl [] (by kernel_rfl) (p_qmul B4.n B4.a B4.m B4.b ns13 as13 ms13 bs13) ?_
  rintro _ _ ⟨ns13', as13', ms13', bs13', rfl, rfl⟩
  refine W.cl [] (by kernel_rfl) (p_zof k.y (by omega) (by omega)) ?_
  rintro _ _ ⟨ut13, dt13, rfl, rfl⟩
  refine W.cl [] (by kernel_rfl) (p_qwhole ut13 dt13) ?_
  rintro _ _ ⟨nt13, at13, mt13, bt13, rfl, rfl⟩
  refine W.cl [] (by kernel_rfl) (p_qmul B4.n B4.a B4.m B4.b nt13 at13 mt13 bt13) ?_
  rintro _ _ ⟨nt13', at13', mt13', bt13', rfl, rfl⟩
  refine W.revp 15 ([(⟨ns10', as10', ms10', bs10', y1 * ((k.x : Int) : Rat)⟩ : QE), (⟨ns11', as11', ms11', bs11', y2 * ((k.x : Int) : Rat)⟩ : QE), (⟨ns12', as12', ms12', bs12', y3 * ((k.x : Int) : Rat)⟩ : QE), (⟨ns13', as13', ms13', bs13', y4 * ((k.x : Int) : Rat)⟩ : QE)].flatMap QR.cells) (by kernel_rfl) (by kernel_rfl) (fun bu1 => ?_)
  refine W.revp 16 ([(⟨nt10', at10', mt10', bt10', y1 * ((k.y : Int) : Rat)⟩ : QE), (⟨nt11', at11', mt11', bt11', y2 * ((k.y : Int) : Rat)⟩ : QE), (⟨nt12', at12', mt12', bt12', y3 * ((k.y : Int) : Rat)⟩ : QE), (⟨nt13', at13', mt13', bt13', y4 * ((k.y : Int) : Rat)⟩ : QE)].flatMap QR.cells) (by kernel_rfl) (by kernel_rfl) (fun bv1 => ?_)
  refine W.sla [55] 4 4 bu1 0 none none 0 4 tbOk (by kernel_rfl) (.inr ⟨rfl, rfl⟩) (.inr ⟨rfl, rfl⟩) (by decide) (by decide) (by decide) ?_
  refine W.cl [] (by kernel_rfl) (p_xof4 u d v e bu1 ⟨ns10', as10', ms10', bs10'⟩ ⟨ns11', as11', ms11', bs11'⟩ ⟨ns12', as12', ms12', bs12'⟩ ⟨ns13', as13', ms13', bs13'⟩ (K := 52) h0.1 h0.2) ?_
  rintro _ _ ⟨S1, rfl, rfl⟩
  refine W.sla [] 4 4 bv1 0 none none 0 4 tbOk (by kernel_rfl) (.inr ⟨rfl, rfl⟩) (.inr ⟨rfl, rfl⟩) (by decide) (by decide) (by decide) ?_
  refine W.cl [] (by kernel_rfl) (p_xof4 u d v e bv1 ⟨nt10', at10', mt10', bt10'⟩ ⟨nt11', at11', mt11', bt11'⟩ ⟨nt12', at12', mt12', bt12'⟩ ⟨nt13', at13', mt13', bt13'⟩ (K := 52) h0.1 h0.2) ?_
  rintro _ _ ⟨T1, rfl, rfl⟩
  refine W.cl [] (by kernel_rfl) (p_xadd X0 (S := (Sn.add (⟨m, n, ((p.x : Int) : Rat), 0, 0, 0⟩ : Sn) ⟨m, n, x1 * ((g.x : Int) : Rat), x2 * ((g.x : Int) : Rat), x3 * ((g.x : Int) : Rat), x4 * ((g.x : Int) : Rat)⟩)) S1 (T := ⟨m, n, y1 * ((k.x : Int) : Rat), y2 * ((k.x : Int) : Rat), y3 * ((k.x : Int) : Rat), y4 * ((k.x : Int) : Rat)⟩) rfl rfl) ?_
  rintro _ _ ⟨X1, rfl, rfl⟩
  refine W.cl [] (by kernel_rfl) (p_xadd Y0 (S := (Sn.add (⟨m, n, ((p.y : Int) : Rat), 0, 0, 0⟩ : Sn) ⟨m, n, x1 * ((g.y : Int) : Rat), x2 * ((g.y : Int) : Rat), x3 * ((g.y : Int) : Rat), x4 * ((g.y : Int) : Rat)⟩)) T1 (T := ⟨m, n, y1 * ((k.y : Int) : Rat), y2 * ((k.y : Int) : Rat), y3 * ((k.y : Int) : Rat), y4 * ((k.y : Int) : Rat)⟩) rfl rfl) ?_
  rintro _ _ ⟨Y1, rfl, rfl⟩
  exact W.r [47] (plv X1 Y1) (by kernel_rfl) ⟨X1, Y1, rfl, rfl⟩ (entAll (Δ := [_]) (Δ' := [_]) (entS' (by omega) rfl) (entS' (by omega) rfl))
-->al
end
end Go.Proofs.Ytaafmafdnnjmdaa
