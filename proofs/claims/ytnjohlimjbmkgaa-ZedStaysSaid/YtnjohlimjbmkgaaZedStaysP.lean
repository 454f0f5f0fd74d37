/- No call changes a number that was answered. -/
import Derived.Test.YtnjohlimjbmkgaaRows
import Derived.Test.YtnjohlimjbmkgaaZl
import Derived.Test.YtnjohlimjbmkgaaLawZ
set_option linter.unusedSimpArgs false
set_option linter.unusedVariables false
namespace Go.Proofs.Ytnjohlimjbmkgaa
open Go.RowKit Go.IntWalk

theorem PCalls.ent {f : FuncId} {args : List Value} {Γ : List Fact} {post post' : Value → List Fact → Prop} (h : PCalls tb Try.prog f args Γ post) (hp : ∀ v Δ, post v Δ → ∃ Δ', post' v Δ' ∧ ∀ I w, Holds Δ I w → Holds Δ' I w) : PCalls tb Try.prog f args Γ post' :=
  ⟨h.1, fun I w hd hh => (h.2 I w hd hh).mono fun _ _ ⟨v, Δ, h1, h2, h3, h4⟩ => by
    obtain ⟨Δ', g1, g2⟩ := hp v Δ h2
    exact ⟨v, Δ', h1, g1, h3, g2 _ _ h4⟩⟩

theorem p_zfloor0 {Γ : List Fact} {L M : Nat} (s : Sl) (b : Bool) (t : Sl) (c : Bool) {x : Int} [Has (ZF s b) (L, x) Γ] [Has (ZF t c) (M, 0) Γ] : PCalls tb Try.prog 21 [zv s b, zv t c] Γ (fun v Δ => v = .tuple #[zv ⟨none, 0, 0⟩ false, zv ⟨none, 0, 0⟩ false, .int .i64 5] ∧ Δ = [ZF ⟨none, 0, 0⟩ false (0, 0)]) := by
  refine PCalls.of_W tbOk Try.func21 rfl (by kernel_rfl) ?_
  refine W.zn t c rfl ?_
  rintro rfl
  have : Has (NF t) (M, 0) (NF t (M, (0 : Int).natAbs) :: Γ) := Has.head
  refine W.cl [] (by kernel_rfl) (p_div0 s t) ?_
  rintro _ _ ⟨rfl, rfl⟩
  exact W.r [22] (.tuple #[zv ⟨none, 0, 0⟩ false, zv ⟨none, 0, 0⟩ false, .int .i64 5]) (by kernel_rfl) ⟨rfl, rfl⟩ entZnil

theorem p_zfloorA {Γ : List Fact} {L M : Nat} (s : Sl) (b : Bool) (t : Sl) (c : Bool) {x y : Int} [Has (ZF s b) (L, x) Γ] [h : Has (ZF t c) (M, y) Γ] (hL : L ≤ 1000000000 := by omega) (hM : M ≤ 1000000000 := by omega) :
    PCalls tb Try.prog 21 [zv s b, zv t c] Γ (fun v Δ => ∃ (u : Sl) (d : Bool) (u' : Sl) (d' : Bool) (z : Int), v = .tuple #[zv u d, zv u' d', .int .i64 z] ∧ Δ = [ZF u d (max L 2 + 1, x / y), ZF u' d' (max L M + 1, if y = 0 then 0 else x % y)]) := by
  by_cases hy : y = 0
  · subst hy
    refine PCalls.ent (p_zfloor0 s b t c) ?_
    rintro v Δ ⟨rfl, rfl⟩
    refine ⟨_, ⟨_, _, _, _, _, rfl, rfl⟩, fun I w _ => ?_⟩
    rw [Int.ediv_zero, if_pos rfl]
    obtain ⟨h1, h2, h3⟩ := NFnil I w
    exact Holds.cons ⟨⟨h1, h2, Nat.le_trans h3 (Nat.zero_le _)⟩, rfl⟩ (holds1 ⟨⟨h1, h2, Nat.le_trans h3 (Nat.zero_le _)⟩, rfl⟩)
  · refine (p_zfloor s b t c hy).post ?_
    rintro v Δ ⟨u, d, u', d', rfl, rfl⟩
    rw [if_neg hy]
    exact ⟨u, d, u', d', 0, rfl, rfl⟩

/-- A number in a row. -/
structure ZE where
  s : Sl
  b : Bool
  x : Int
def ZE.cells (e : ZE) : List Value := [.slice e.s.ao e.s.n e.s.c, .bool e.b]
/-- A row of numbers at an address. -/
def ZL (ao : Option Addr) (a : Nat × List ZE) : Fact where
  p I w := (∀ e ∈ a.2, (ZF e.s e.b (a.1, e.x)).p I w) ∧ (a.2 ≠ [] → ∃ b cs e, ao = some ⟨b, 0, none⟩ ∧ I b ∧ w.heap[b]? = some (.cells cs e (0, 0)) ∧ ∀ (i : Nat) (v : Value), (a.2.flatMap ZE.cells)[i]? = some v → cs[i]? = some v)
  up := by
    rintro I I' w w' ⟨h, hb⟩ h1 h2 h3
    refine ⟨fun e he => (ZF e.s e.b (_, _)).up (h e he) h1 h2 h3, fun hne => ?_⟩
    obtain ⟨b, cs, e, ha, hI, hc, hr⟩ := hb hne
    exact ⟨b, cs, e, ha, h1 b (lt_of_some hc) hI, by rw [h2 b (lt_of_some hc) hI]; exact hc, hr⟩

def zsum (l : List ZE) : Int := (l.map (·.x)).sum
theorem zsum_take {l : List ZE} {k : Nat} (h : k < l.length) : zsum (l.take (k + 1)) = zsum (l.take k) + (l[k]'h).x := by
  unfold zsum
  rw [List.take_succ_eq_append_getElem h, List.map_append, List.sum_append]
  simp only [List.map_cons, List.map_nil, List.sum_cons, List.sum_nil, Int.add_zero]
theorem cells_at {l : List ZE} : ∀ {k : Nat} (h : k < l.length) (j : Nat) (v : Value), (l[k]'h).cells[j]? = some v → (l.flatMap ZE.cells)[k * 2 + j]? = some v := by
  induction l with
  | nil => intro k h; simp at h
  | cons e r ih =>
    intro k h j v hv
    cases k with
    | zero =>
      simp only [List.getElem_cons_zero] at hv
      have hj : j < 2 := (List.getElem?_eq_some_iff.1 hv).1
      rw [List.flatMap_cons, List.getElem?_append_left (by simp [ZE.cells]; omega), show 0 * 2 + j = j by omega]
      exact hv
    | succ k =>
      simp only [List.getElem_cons_succ] at hv
      rw [List.flatMap_cons, List.getElem?_append_right (by simp [ZE.cells]; omega), show (k + 1) * 2 + j - e.cells.length = k * 2 + j by simp [ZE.cells]; omega]
      exact ih (by simpa using h) j v hv

theorem p_zsum {Γ : List Fact} {L : Nat} (ao : Option Addr) (n c : Nat) {l : List ZE} [h : Has (ZL ao) (L, l) Γ] (hn : n = l.length) (hl : n ≤ 1000) (hL : L ≤ 1000000 := by omega) :
    PCalls tb Try.prog 20 [.slice ao n c] Γ (ZPost (L + n) (zsum l)) := by
  refine PCalls.of_W tbOk Try.func20 rfl (by kernel_rfl) ?_
  refine W.lp [] [8] (fun a : Nat × Int × Sl × Bool => [(8, .int .i64 a.2.1)]) (fun a => [(3, [.slice a.2.2.1.ao a.2.2.1.n a.2.2.1.c, .bool a.2.2.2])]) (fun a => [ZF a.2.2.1 a.2.2.2 (L + a.1, zsum (l.take a.1)), ZL ao (L, l)]) (fun a => a.2.1 = a.1 ∧ a.1 ≤ n) (fun a => n - a.1) (0, 0, ⟨none, 0, 0⟩, false) (by kernel_rfl) (by kernel_rfl) ⟨rfl, Nat.zero_le _⟩ (entAll (Δ := [_]) (Δ' := [_]) entZnil (fun I w _ hh => holds1 (h.p hh))) ?_
  rintro ⟨k, z, s, b⟩ R ⟨hz, hk⟩ close
  simp only at hz hk
  subst hz
  by_cases hks : k < n
  · have hkl : k < l.length := by omega
    have hne : l ≠ [] := by
      intro e
      rw [e] at hkl
      simp at hkl
    refine W.elim (α := Nat) (fun b => ao = some ⟨b, 0, none⟩) (fun b => [ZF (l[k]'hkl).s (l[k]'hkl).b (L, (l[k]'hkl).x)]) rfl (fun I w _ hh => ?_) ?_
    · obtain ⟨g1, g2⟩ := (Has.p (k := ZL ao) (a := (L, l)) inferInstance hh)
      obtain ⟨b, cs, e, ha, _⟩ := g2 hne
      exact ⟨b, ha, holds1 (g1 _ (List.getElem_mem hkl))⟩
    rintro B rfl
    refine W.dt [] 9 (decide ((k : Int) < (n : Nat))) (by kernel_rfl) (by rw [decide_eq_true_iff]; omega) ?_
    refine W.ia [9] 2 B 0 n c .i64 k (k : Int) rfl tbOk (by kernel_rfl) hks ?_
    refine W.lds [] B (0 + k * 2) (l[k]'hkl).cells tbOk (by kernel_rfl) (fun I w _ hh j v hv => ?_) ?_
    · obtain ⟨_, g2⟩ := (Has.p (k := ZL (some ⟨B, 0, none⟩)) (a := (L, l)) inferInstance hh)
      obtain ⟨b, cs, e, ha, _, hc, hr⟩ := g2 hne
      injection ha with ha
      injection ha with ha _ _
      subst ha
      have := hr _ _ (cells_at hkl j v hv)
      rw [show 0 + k * 2 + j = k * 2 + j by omega]
      simp [World.cell?, hc, this]
    refine W.cl [] (by kernel_rfl) (p_zadd s b (l[k]'hkl).s (l[k]'hkl).b) ?_
    rintro _ _ ⟨u, d, rfl, rfl⟩
    refine close [] _ _ (k + 1, IntKind.i64.wrap ((k : Int) + 1), u, d) (by kernel_rfl) (by kernel_rfl) ⟨by rw [i64_in _ (by omega)]; rfl, by simp only; omega⟩ (by simp only; omega) ?_
    exact entAll (Δ := [_]) (Δ' := [_]) (entZ (by simp only; omega) (zsum_take hkl).symm) (fun I w _ hh => holds1 (Has.p (k := ZL (some ⟨B, 0, none⟩)) (a := (L, l)) inferInstance hh))
  · obtain rfl : k = n := by omega
    refine W.df [] 9 (decide (((k : Nat) : Int) < (k : Nat))) (by kernel_rfl) (by rw [decide_eq_false_iff_not]; omega) ?_
    refine W.r [9] (zv s b) (by kernel_rfl) ⟨s, b, rfl, rfl⟩ (entZ (by simp only; omega) ?_)
    simp only
    rw [List.take_of_length_le (by omega)]

def zfs (L : Nat) (l : List ZE) : List Fact := l.map fun e => ZF e.s e.b (L, e.x)
theorem entL0 {Γ : List Fact} {L : Nat} : ∀ (I : Blk) (w : World), DataOK tb I w → Holds Γ I w → Holds (zfs L []) I w := fun I w _ _ => Holds.nil I w
theorem entLc {Γ : List Fact} {L : Nat} {s : Sl} {b : Bool} {x : Int} {l : List ZE} (h : ∀ (I : Blk) (w : World), DataOK tb I w → Holds Γ I w → Holds [ZF s b (L, x)] I w) (h' : ∀ (I : Blk) (w : World), DataOK tb I w → Holds Γ I w → Holds (zfs L l) I w) : ∀ (I : Blk) (w : World), DataOK tb I w → Holds Γ I w → Holds (zfs L (⟨s, b, x⟩ :: l)) I w :=
  fun I w hd hh => Holds.cons (h I w hd hh _ (by simp)) (h' I w hd hh)

/-- Of a slice literal. -/
theorem p_zsum4 {Γ : List Fact} {L : Nat} (b : Nat) (l : List ZE) {cs : List Value} [h : Has (RowF b) cs Γ] (hcs : cs = l.flatMap ZE.cells) (h0 : ∀ I w, DataOK tb I w → Holds Γ I w → Holds (zfs L l) I w) (n : Nat) (hn : n = l.length) (hl : n ≤ 1000) (hL : L ≤ 1000000 := by omega) :
    PCalls tb Try.prog 20 [.slice (some ⟨b, 0, none⟩) n n] Γ (ZPost (L + n) (zsum l)) :=
  (p_zsum (Γ := ZL (some ⟨b, 0, none⟩) (L, l) :: Γ) (some ⟨b, 0, none⟩) n n hn hl).weak (fun I w hd hh => Holds.cons (by
    subst hcs
    obtain ⟨hI, e, hc⟩ := h.p hh
    exact ⟨fun e he => h0 I w hd hh _ (List.mem_map_of_mem he), fun _ => ⟨b, _, e, rfl, hI, hc, fun i v hv => by simpa using hv⟩⟩) hh) (fun _ _ h => h)

set_option maxHeartbeats 1000000 in
theorem p_zedStays (x y : ByteArray) : PCalls tb Try.prog 10 [.string x, .string y] [] (IsV (.bool true)) := by
  refine PCalls.of_W tbOk Try.func10 rfl (by kernel_rfl) ?_
  refine W.cl [] (by kernel_rfl) (p_one x) ?_
  rintro _ _ ⟨u1, d1, S1, t1, rfl, hS1, rfl⟩
  refine W.cl [] (by kernel_rfl) (p_one y) ?_
  rintro _ _ ⟨u2, d2, S2, t2, rfl, hS2, rfl⟩
  refine W.cl [] (by kernel_rfl) p_zknown ?_
  rintro _ _ ⟨rfl, rfl⟩
  cases hk1 : zok x with
  | false =>
    refine W.cl [37, 34, 30] (by kernel_rfl) p_zknown ?_
    rintro _ _ ⟨rfl, rfl⟩
    exact W.r [] (.bool true) (by kernel_rfl) ⟨rfl, rfl⟩ ent0
  | true =>
    cases hk2 : zok y with
    | false =>
      refine W.cl [37, 34, 30] (by kernel_rfl) p_zknown ?_
      rintro _ _ ⟨rfl, rfl⟩
      exact W.r [] (.bool true) (by kernel_rfl) ⟨rfl, rfl⟩ ent0
    | true =>
      generalize zfv x = X at *
      generalize zfv y = Y at *
      refine W.cl [37, 34, 30] (by kernel_rfl) (p_zfloorA u1 d1 u2 d2) ?_
      rintro _ _ ⟨u6, d6, v6, e6, z6, rfl, rfl⟩
      generalize X / Y = q at *
      generalize (if Y = 0 then 0 else X % Y) = r at *
      refine W.cl [] (by kernel_rfl) (p_ztext u6 d6) ?_
      rintro _ _ ⟨rfl, rfl⟩
      refine W.cl [] (by kernel_rfl) (p_ztext v6 e6) ?_
      rintro _ _ ⟨rfl, rfl⟩
      refine W.cl [] (by kernel_rfl) (p_zfloorA u6 d6 v6 e6) ?_
      rintro _ _ ⟨u9, d9, v9, e9, z9, rfl, rfl⟩
      refine W.cl [] (by kernel_rfl) (p_bezout u6 d6 v6 e6) ?_
      rintro _ _ ⟨g, dg, u, du, v, dv, U, V, rfl, hE, hB, rfl⟩
      refine W.cl [] (by kernel_rfl) (p_zneg u1 d1) ?_
      rintro _ _ ⟨u11, d11, rfl, rfl⟩
      refine W.cl [] (by kernel_rfl) (p_zadd u11 d11 u2 d2) ?_
      rintro _ _ ⟨u12, d12, rfl, rfl⟩
      refine W.cl [] (by kernel_rfl) (p_zsub u2 d2 u1 d1) ?_
      rintro _ _ ⟨u13, d13, rfl, rfl⟩
      refine W.cl [] (by kernel_rfl) (p_zmul u13 d13 u6 d6) ?_
      rintro _ _ ⟨u14, d14, rfl, rfl⟩
      refine W.bs [] 4 (([⟨u1, d1, X⟩, ⟨u2, d2, Y⟩, ⟨u6, d6, q⟩, ⟨v6, e6, r⟩] : List ZE).flatMap ZE.cells) tbOk (by kernel_rfl) (fun B => ?_)
      refine W.cl [] (by kernel_rfl) (p_zsum4 (L := 1000) B [⟨u1, d1, X⟩, ⟨u2, d2, Y⟩, ⟨u6, d6, q⟩, ⟨v6, e6, r⟩] rfl (entLc (entZ (by omega) rfl) (entLc (entZ (by omega) rfl) (entLc (entZ (by omega) rfl) (entLc (entZ (by omega) rfl) entL0)))) 4 rfl (by omega)) ?_
      rintro _ _ ⟨u16, d16, rfl, rfl⟩
      refine W.cl [] (by kernel_rfl) (p_same u1 d1 S1 t1) ?_
      rintro _ _ ⟨rfl, rfl⟩
      refine W.cl [74] (by kernel_rfl) (p_same u2 d2 S2 t2) ?_
      rintro _ _ ⟨rfl, rfl⟩
      refine W.cl [79, 74] (by kernel_rfl) (p_ztext u6 d6) ?_
      rintro _ _ ⟨rfl, rfl⟩
      refine W.dt [79] 85 ((ztxt q).toList == (ztxt q).toList) (by kernel_rfl) (by simp) ?_
      refine W.cl [85] (by kernel_rfl) (p_ztext v6 e6) ?_
      rintro _ _ ⟨rfl, rfl⟩
      exact W.r [85] (.bool ((ztxt r).toList == (ztxt r).toList)) (by kernel_rfl) ⟨by simp, rfl⟩ ent0
theorem zedStays_walk (a0 a1 : ByteArray) (_ : a0.size ≤ 9223372036854775807) (_ : a1.size ≤ 9223372036854775807) (w : World) : Calls Try.prog 10 #[.string a0, .string a1] w fun e w' => e = .returned (.bool true) ∧ Below w.heap.size w w' := law_calls (p_zedStays a0 a1) w

end Go.Proofs.Ytnjohlimjbmkgaa
namespace Go.Proofs.Ytnjohlimjbmkgaa.zedStays
open Go.ChangeShapes Go.WideShapes Go.ChangeAt Go.RowKit
open Go.ChangeMaps (open_string shut_string)

theorem own : ownKnob Try.prog.godebug = none := by kernel_rfl

set_option maxRecDepth 100000 in
theorem lifted (os : Os) (started : os.Started) (H : Type) (enc : TypeId × Value → H) :
    ReturnsInHanded {} Try.checked os 10 .any (Rows.zedStaysSpec.pre6 enc Try.prog Try.f10 Rows.zedStaysRow.domain false) (Rows.zedStaysSpec.post enc Try.prog Try.f10 false true false false) := by
  refine returnsInHanded_of_change (C := Try.checked) own started (by kernel_rfl) Try.func10
    (ChangeSpec.witness6 (enc := enc) (C := Try.checked) false ⟨#[], #[.string ⟨#[]⟩, .string ⟨#[]⟩], []⟩ 8 (by kernel_rfl) (by kernel_rfl) (by kernel_rfl) (by kernel_rfl)) ?_
  intro W base args ds gs before hval0 hW hcnd _
  have hval : ∀ (j : Nat) t v, Try.f10.params[j]? = some t → args[j]? = some v → Value.okWide Try.prog W .any base t v := hval0
  have hW' := hW
  obtain ⟨p, q, hA0, hV, rfl, hfz, hnd⟩ := hW
  have hA : DataW.TrodAll enc Try.prog W 0 (fun _ => true) true Try.f10.params.toList args.toList ds p := hA0
  rw [Try.params10] at hA hval
  obtain ⟨v0, vs0, d0, ds0, p0, q0, hargs, rfl, rfl, h0, r0⟩ := trodAll_cons hA
  obtain ⟨v1, vs1, d1, ds1, p1, q1, rfl, rfl, rfl, h1, r1⟩ := trodAll_cons r0
  obtain ⟨rfl, rfl, rfl⟩ := trodAll_nil r1
  obtain rfl : args = #[v0, v1] := by cases args; simp_all
  obtain ⟨rfl, rfl⟩ := trodVars_none hV
  obtain ⟨a0, rfl, rfl, rfl, w0⟩ := open_string Try.underlying9 (hval 0 9 v0 rfl rfl) h0
  obtain ⟨a1, rfl, rfl, rfl, w1⟩ := open_string Try.underlying9 (hval 1 9 v1 rfl rfl) h1
  clear hA0 hval0
  simp only [List.append_nil] at hW'
  refine (zedStays_walk a0 a1 w0 w1 W).mono fun e W' ⟨he, hg⟩ => ?_
  subst he
  exact ⟨_, rfl, law_post hW' rfl (fun _ _ _ => (trodAll_cons_mk (shut_bool Try.underlying4 _) trodAll_mk0)) (fun sp _ => (trodAll_cons_mk (shut_string Try.underlying9 w0) (trodAll_cons_mk (shut_string Try.underlying9 w1) trodAll_mk0))) rfl hg⟩

theorem over : Rows.zedStaysRow.holds Try.pinned (OpenSpec.ofChange Rows.zedStaysSpec) :=
  OpenClaim.holds_of_wide 10 Try.f10 rfl rfl rfl rfl rfl rfl rfl ⟨rfl, rfl, rfl, rfl, rfl⟩ rfl rfl rfl rfl rfl (by kernel_rfl) Try.func10 (by kernel_rfl)
    (of_decide_eq_true (by kernel_rfl)) (by unfold Func.isWrapper; first | (rw [if_pos (by decide +kernel)]; kernel_rfl) | (rw [if_neg (by decide +kernel)]; exact ⟨rfl, rfl⟩))
    (fun os started H enc _ => lifted os started H enc)
end Go.Proofs.Ytnjohlimjbmkgaa.zedStays
namespace Go.Proofs.Ytnjohlimjbmkgaa

/-- The statement. -/
theorem zedStays_holds : Rows.ZedStaysSaid := zedStays.over
end Go.Proofs.Ytnjohlimjbmkgaa
