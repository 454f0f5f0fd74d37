/- Paths of points: the contracts of outline's corners' and ends' places. -/
import Derived.Test.YtaafmafdnnjmdaaOw
set_option linter.unusedSimpArgs false
set_option linter.unusedVariables false
namespace Go.Proofs.Ytaafmafdnnjmdaa
open Go.RowKit Go.IntWalk

def And2 (F G : Fact) : Fact where
  p I w := F.p I w ∧ G.p I w
  up h h1 h2 h3 := ⟨F.up h.1 h1 h2 h3, G.up h.2 h1 h2 h3⟩
abbrev svc (x : Sw) : List Value := [.slice x.u.ao x.u.n x.u.c, .bool x.d, .slice x.v.ao x.v.n x.v.c, .bool x.e,
  .slice x.p.n.ao x.p.n.n x.p.n.c, .bool x.p.a, .slice x.p.m.ao x.p.m.n x.p.m.c, .bool x.p.b, .slice x.q.n.ao x.q.n.n x.q.n.c, .bool x.q.a, .slice x.q.m.ao x.q.m.n x.q.m.c, .bool x.q.b,
  .slice x.r.n.ao x.r.n.n x.r.n.c, .bool x.r.a, .slice x.r.m.ao x.r.m.n x.r.m.c, .bool x.r.b, .slice x.s.n.ao x.s.n.n x.s.n.c, .bool x.s.a, .slice x.s.m.ao x.s.m.n x.s.m.c, .bool x.s.b]
/-- A place in a row. -/
structure PlE where
  x : Sw
  y : Sw
  X : Sn
  Y : Sn
def PlR : Rowed PlE where
  z := 40
  cells e := svc e.x ++ svc e.y
  len _ := rfl
  fact L e := And2 (SF e.x (L, e.X)) (SF e.y (L, e.Y))
def PlE.num (e : PlE) : Sn × Sn := (e.X, e.Y)
theorem pl_one (e : PlE) : ∀ u ∈ PlR.cells e, u.oneCell' = true := by
  intro u hu
  simp only [PlR, List.mem_append, List.mem_cons, List.not_mem_nil, or_false] at hu
  rcases hu with hu | hu <;> (rcases hu with rfl | rfl | rfl | rfl | rfl | rfl | rfl | rfl | rfl | rfl | rfl | rfl | rfl | rfl | rfl | rfl | rfl | rfl | rfl | rfl <;> rfl)
/-- A row of places. -/
def PlsP (l0 : List (Sn × Sn)) (v : Value) (Δ : List Fact) : Prop := ∃ (ao : Option Addr) (c : Nat) (l : List PlE), v = .slice ao l.length c ∧ l.length ≤ c ∧ l.map PlE.num = l0 ∧ Δ = [OL PlR ao (130, l)]

theorem sqD_nn (d : Dp) : 0 ≤ sqD d := by
  unfold sqD
  have h1 : 0 ≤ d.x * d.x := by rcases Int.le_total 0 d.x with h | h; exact Int.mul_nonneg h h; exact Int.mul_nonneg_of_nonpos_of_nonpos h h
  have h2 : 0 ≤ d.y * d.y := by rcases Int.le_total 0 d.y with h | h; exact Int.mul_nonneg h h; exact Int.mul_nonneg_of_nonpos_of_nonpos h h
  omega
theorem sqD_left (d : Dp) : sqD (leftD d) = sqD d := by
  unfold sqD leftD
  simp only [Int.neg_mul_neg]
  omega
theorem sqD_right (d : Dp) : sqD (rightD d) = sqD d := by
  unfold sqD rightD
  simp only [Int.neg_mul_neg]
  omega
theorem inD.left {B : Int} {d : Dp} (h : inD B d) : inD B (leftD d) := by unfold inD leftD at *; simp only; omega
theorem inD.right {B : Int} {d : Dp} (h : inD B d) : inD B (rightD d) := by unfold inD rightD at *; simp only; omega
theorem inD.neg {B : Int} {d : Dp} (h : inD B d) : inD B (negD d) := by unfold inD negD at *; simp only; omega

section
variable {T : Tb} {P : Program} {fin : VS → List Fact → Prop} {c : Cfg} {Γ : List Fact}
/-- append to a row that is full: the row behind it is the call's own. -/
theorem W.apo (D : List Nat) (own : List (Nat × List Value)) (z bytes n m : Nat) (ao : Option Addr) (x : Value) (xs news : List Value) (hT : T.Ok P)
    (h : readApp T (vstep T (Go.Proofs.Ytaafmafdnnjmdaa.runs T D 999 c)) = some (own, z, bytes, .slice ao n n, x)) [hrp : Has (RA ao) xs Γ] (hxl : xs.length = n * z) (hn0 : 0 < n) (hm : 0 < m) (hx : Reads T Γ own x m z news)
    (hn : n + m ≤ 1000000) (hb : bytes ≤ 100000000)
    (hk : ∀ g cap cur, n + m ≤ cap → cap ≤ maxLen → cur.length = cap * z → cur.take ((n + m) * z) = xs ++ news → W T P fin (resumeO (vstep T (Go.Proofs.Ytaafmafdnnjmdaa.runs T D 999 c)) ((g, cur) :: own) (.slice (some ⟨g, 0, none⟩) (n + m) cap)) Γ) : W T P fin c Γ := by
  refine W.runs D 999 ?_
  generalize Go.Proofs.Ytaafmafdnnjmdaa.runs T D 999 c = c1 at *
  unfold readApp at h
  split at h
  · rename_i o c' he
    rw [he] at hk
    split at h
    · rename_i cl hop
      split at h
      · rename_i sx xx t1 t2 hcal hargs htys
        split at h
        · rename_i a b y1 ha hbv hy
          cases hc : (Nat.beq t1 t2 && (Nat.beq y1.kind 3 && (!Nat.beq y1.esize 0 && (Nat.beq y1.ezero.length y1.esize && !T.dat y1.elem)))) with
          | false => simp [hc] at h
          | true =>
            simp only [hc, cond_true, Option.some.injEq, Prod.mk.injEq] at h
            obtain ⟨hown, rfl, rfl, rfl, rfl⟩ := h
            simp only [Bool.and_eq_true, Bool.not_eq_true'] at hc
            obtain ⟨c1', c2, c3, c4, c5⟩ := hc
            have ht12 := Nat.eq_of_beq_eq_true c1'
            subst ht12
            have hne : y1.esize ≠ 0 := by
              intro e0
              rw [e0] at c3
              simp at c3
            obtain ⟨ie, zz, hd, hie, hzz, hsz, hby, hzs, hze⟩ := kind_elem hT hy (Nat.eq_of_beq_eq_true c2) hne (Nat.eq_of_beq_eq_true c4)
            have hcargs : cl.args = #[sx, xx] := by rw [← Array.toList_inj]; exact hargs
            have hctys : cl.argTypes = #[t1, t1] := by rw [← Array.toList_inj]; exact htys
            obtain ⟨ax, cc, rfl, hnl, hrd⟩ := hx
            have hnb : (n + m) * y1.ebytes ≤ 140737488355328 := by
              have := Nat.mul_le_mul hn hb
              omega
            have hxne : xs ≠ [] := by
              rintro rfl
              have : 0 < n * y1.esize := Nat.mul_pos hn0 (by omega)
              simp at hxl
              omega
            refine W.own (fun v' Own Δ => ∃ g cap cur, n + m ≤ cap ∧ cap ≤ maxLen ∧ cur.length = cap * y1.esize ∧ cur.take ((n + m) * y1.esize) = xs ++ news ∧ v' = .slice (some ⟨g, 0, none⟩) (n + m) cap ∧ Own = (g, cur) :: own ∧ Δ = []) he (fun I w hdo hh hoa hnod hno => ?_) ?_
            · rw [hown] at hoa hnod
              have hexec : ∀ v' w', (Builtin.append_ #[t1, t1] o.type #[.slice ao n n, .slice ax m cc]).run P w = .ok v' w' → (execOp c'.s.rho o).run P w = .ok (.value v') w' := by
                intro v' w' hr
                simp [execOp, hop, resolve, invoke, builtin, hcal, hcargs, hctys, rho_val ha, rho_val hbv, hr]
              obtain ⟨ad, rfl, hrd2⟩ := hrd hm
              have hnews := hrd2 I w hdo hh hoa
              obtain ⟨b0, off0, rfl, h2, h3⟩ := hrp.p hh hxne
              obtain ⟨v', w', hrun, hw, hgb⟩ := run_append_arg_grows (P := P) w t1 o.type y1.elem ie zz y1.esize y1.ebytes hd hie hzz hsz hby hzs (by omega) ⟨b0, off0, none⟩ n n xs hxl (fun j u hj => by
                rw [add_spot]
                exact h3 j u hj) ad m cc news hnl hnews (by omega) (by unfold maxLen; omega) hnb
              obtain ⟨_, hw⟩ := hw
              rcases hw with ⟨_, h0⟩ | ⟨g, cap, cur, rfl, hge, hgh, hnc, hcm, hcs, htk⟩
              · omega
              · have hltO : ∀ b cs, (b, cs) ∈ own → b < w.heap.size := fun b cs hb => by
                  obtain ⟨_, _, hc⟩ := hoa b cs hb
                  exact lt_of_some hc
                refine ⟨_, (g, cur.toList) :: own, [], w', _, hexec _ _ hrun, .inl rfl, ⟨g, cap, cur.toList, hnc, hcm, by simpa using hcs, by simpa using htk, rfl, rfl, rfl⟩, fun q _ hq' => ⟨hgb.os, hgb.tape, hgb.output, hgb.size, fun k hk => hgb.block k (by omega) (by simp)⟩, hgb.size, fun k hk _ => hgb.block k hk (by simp), fun b cs hb => ?_, fun b cs hb => ?_, ?_, Holds.nil _ _⟩
                · rcases List.mem_cons.1 hb with hb | hb
                  · injection hb with h1' h2'
                    subst h1' h2'
                    exact ⟨y1.elem, by simpa using c5, by simpa using hgh⟩
                  · obtain ⟨e, he', hc⟩ := hoa b cs hb
                    exact ⟨e, he', by rw [hgb.block b (hltO b cs hb) (by simp)]; exact hc⟩
                · rcases List.mem_cons.1 hb with hb | hb
                  · injection hb with h1' h2'
                    subst h1'
                    exact .inr hge
                  · exact .inl ⟨cs, by rw [hown]; exact hb⟩
                · rw [List.map_cons, List.nodup_cons]
                  refine ⟨fun hmem => ?_, hnod⟩
                  obtain ⟨⟨b, cs⟩, h1, h2⟩ := List.mem_map.1 hmem
                  have := hltO b cs h1
                  simp only at h2
                  omega
            · rintro v' Own Δ ⟨g, cap, cur, h1, h2, h3, h4, rfl, rfl, rfl⟩
              exact hk g cap cur h1 h2 h3 h4
        · simp at h
      · simp at h
    · simp at h
  · simp at h
end

section
variable {Γ : List Fact} {L M : Nat}
theorem p_mby (u : Sl) (d : Bool) (v : Sl) (e : Bool) (B : Nat) (Q : Qw) {x y : Int} {k : Rat} {K : Nat} [Has (ZF u d) (L, x) Γ] [Has (ZF v e) (M, y) Γ] [Has (RowF B) [.slice Q.n.ao Q.n.n Q.n.c, .bool Q.a, .slice Q.m.ao Q.m.n Q.m.c, .bool Q.b] Γ] [Has (QG Q) (K, k) Γ] (hL : L ≤ 9 ∧ M ≤ 9 ∧ K ≤ 31 := by omega) :
    PCalls tb Try.prog 71 [zv u d, zv v e, .pointer (some ⟨B, 0, none⟩)] Γ (fun w Δ => ∃ a b : Qw, w = .agg #[.slice none 0 0, .bool false, .slice none 0 0, .bool false, .slice a.n.ao a.n.n a.n.c, .bool a.a, .slice a.m.ao a.m.n a.m.c, .bool a.b, .slice b.n.ao b.n.n b.n.c, .bool b.a, .slice b.m.ao b.m.n b.m.c, .bool b.b, .slice none 0 0, .bool false, .slice none 0 0, .bool false] ∧ Δ = [QG a (45, k * (x : Rat)), QG b (45, k * (y : Rat))]) := by
  refine PCalls.of_W tbOk Try.func71 rfl (by kernel_rfl) ?_
  refine W.ldr [] B 0 [.slice Q.n.ao Q.n.n Q.n.c, .bool Q.a, .slice Q.m.ao Q.m.n Q.m.c, .bool Q.b] tbOk (by kernel_rfl) rfl ?_
  refine W.ldr [] B 0 [.slice Q.n.ao Q.n.n Q.n.c, .bool Q.a, .slice Q.m.ao Q.m.n Q.m.c, .bool Q.b] tbOk (by kernel_rfl) rfl ?_
  refine W.cl [] (by kernel_rfl) (p_qwhole u d) ?_
  rintro _ _ ⟨n3, a3, m3, b3, rfl, rfl⟩
  refine W.cl [] (by kernel_rfl) (p_qmul Q.n Q.a Q.m Q.b n3 a3 m3 b3) ?_
  rintro _ _ ⟨n4, a4, m4, b4, rfl, rfl⟩
  refine W.cl [] (by kernel_rfl) (p_qwhole v e) ?_
  rintro _ _ ⟨n5, a5, m5, b5, rfl, rfl⟩
  refine W.cl [] (by kernel_rfl) (p_qmul Q.n Q.a Q.m Q.b n5 a5 m5 b5) ?_
  rintro _ _ ⟨n6, a6, m6, b6, rfl, rfl⟩
  exact W.r [] (.agg #[.slice none 0 0, .bool false, .slice none 0 0, .bool false, .slice n4.ao n4.n n4.c, .bool a4, .slice m4.ao m4.n m4.c, .bool b4, .slice n6.ao n6.n n6.c, .bool a6, .slice m6.ao m6.n m6.c, .bool b6, .slice none 0 0, .bool false, .slice none 0 0, .bool false]) (by kernel_rfl) ⟨⟨n4, a4, m4, b4⟩, ⟨n6, a6, m6, b6⟩, rfl, rfl⟩ (entAll (Δ := [_]) (Δ' := [_]) (entQ (by omega) rfl) (entQ (by omega) rfl))
theorem p_miter (p d e : Dp) (hq : Qw) {h : Rat} [Has (QG hq) (L, h) Γ] (hp : inD 2147483648 p) (hd : inD 4294967296 d) (he : inD 4294967296 e) (hx : dotD (leftD d) e ≠ 0) (hL : L ≤ 5 := by omega) :
    PCalls tb Try.prog 30 [dv p, dv d, dv e, qv hq.n hq.a hq.m hq.b] Γ (PlPost 130 (miterP p d e h).1 (miterP p d e h).2) := by
  refine PCalls.of_W tbOk Try.func30 rfl (by kernel_rfl) ?_
  refine W.cl [] (by kernel_rfl) (p_wsq d hd) ?_
  rintro _ _ ⟨u1, d1, rfl, rfl⟩
  refine W.cl [] (by kernel_rfl) (p_wsq e he) ?_
  rintro _ _ ⟨u2, d2, rfl, rfl⟩
  refine W.cl [] (by kernel_rfl) (p_wdot d e hd he) ?_
  rintro _ _ ⟨u3, d3, rfl, rfl⟩
  refine W.cl [] (by kernel_rfl) (p_wleft d hd) ?_
  rintro _ _ ⟨rfl, rfl⟩
  refine W.cl [] (by kernel_rfl) (p_wdot (leftD d) e hd.left he) ?_
  rintro _ _ ⟨u5, d5, rfl, rfl⟩
  refine W.cl [] (by kernel_rfl) (p_zmul u5 d5 u5 d5) ?_
  rintro _ _ ⟨u6, d6, rfl, rfl⟩
  refine W.cl [] (by kernel_rfl) (p_qwhole u6 d6) ?_
  rintro _ _ ⟨n7, a7, m7, b7, rfl, rfl⟩
  refine W.cl [] (by kernel_rfl) (p_qdiv hq.n hq.a hq.m hq.b n7 a7 m7 b7 ?_) ?_
  · intro e0
    rw [show (0 : Rat) = ((0 : Int) : Rat) from rfl, Rat.intCast_inj] at e0
    exact (Int.mul_ne_zero hx hx) e0
  rintro _ _ ⟨n8, a8, m8, b8, rfl, rfl⟩
  refine W.revp 13 [.slice n8.ao n8.n n8.c, .bool a8, .slice m8.ao m8.n m8.c, .bool b8] (by kernel_rfl) (by kernel_rfl) (fun B => ?_)
  refine W.cl [] (by kernel_rfl) (p_wleft d hd) ?_
  rintro _ _ ⟨rfl, rfl⟩
  refine W.cl [] (by kernel_rfl) (p_zneg u3 d3) ?_
  rintro _ _ ⟨u10, d10, rfl, rfl⟩
  refine W.cl [] (by kernel_rfl) (p_mby u2 d2 u10 d10 B ⟨n8, a8, m8, b8⟩) ?_
  rintro _ _ ⟨qa, qb, rfl, rfl⟩
  refine W.cl [] (by kernel_rfl) (p_wleft e he) ?_
  rintro _ _ ⟨rfl, rfl⟩
  refine W.cl [] (by kernel_rfl) (p_zneg u3 d3) ?_
  rintro _ _ ⟨u13, d13, rfl, rfl⟩
  refine W.cl [] (by kernel_rfl) (p_mby u13 d13 u1 d1 B ⟨n8, a8, m8, b8⟩) ?_
  rintro _ _ ⟨qc, qd, rfl, rfl⟩
  refine W.bs [] 2 (pac (leftD d) nilQ qa qb nilQ ++ pac (leftD e) nilQ qc qd nilQ) tbOk (by kernel_rfl) (fun B2 => ?_)
  refine W.cx [] (by kernel_rfl) (entQ0 (L' := 0)) (p_along2 p u1 d1 u2 d2 B2 (leftD d) (leftD e) nilQ qa qb nilQ nilQ qc qd nilQ hp hd.left he.left ⟨sqD_nn d, sqD_nn e⟩) ?_
  rintro _ _ ⟨X, Y, rfl, rfl⟩
  exact W.r [] (plv X Y) (by kernel_rfl) ⟨X, Y, rfl, rfl⟩ (entAll (Δ := [_]) (Δ' := [_]) (entS' (by omega) rfl) (entS' (by omega) rfl))
end
end Go.Proofs.Ytaafmafdnnjmdaa
