/- FracStays: whatever the two texts, the law returns true; no condition. -/
import Derived.Test.YtmpcabpepnmfiaaRows
import Derived.Test.YtmpcabpepnmfiaaFe
import Derived.Test.YtmpcabpepnmfiaaLawZ
import Derived.Test.YtmpcabpepnmfiaaVx
import Derived.Test.YtmpcabpepnmfiaaJn
set_option linter.unusedSimpArgs false
set_option linter.unusedVariables false
namespace Go.Proofs.Ytmpcabpepnmfiaa
open Go.RowKit Go.IntWalk
theorem PCalls.ent {f : FuncId} {args : List Value} {Γ : List Fact} {post post' : Value → List Fact → Prop} (h : PCalls tb Try.prog f args Γ post) (hp : ∀ v Δ, post v Δ → ∃ Δ', post' v Δ' ∧ ∀ I w, Holds Δ I w → Holds Δ' I w) : PCalls tb Try.prog f args Γ post' :=
  ⟨h.1, fun I w hd hh => (h.2 I w hd hh).mono fun _ _ ⟨v, Δ, h1, h2, h3, h4⟩ => by
    obtain ⟨Δ', g1, g2⟩ := hp v Δ h2
    exact ⟨v, Δ', h1, g1, h3, g2 _ _ h4⟩⟩
/-- Whatever the second is. -/
theorem p_qdivA {Γ : List Fact} {L M : Nat} (n : Sl) (nb : Bool) (d : Sl) (db : Bool) (m : Sl) (mb : Bool) (e : Sl) (eb : Bool) {a b : Rat} [hn : Has (QF n nb d db) (L, a) Γ] [hm : Has (QF m mb e eb) (M, b) Γ] (hL : L ≤ 1000000 := by omega) (hM : M ≤ 1000000 := by omega) :
    PCalls tb Try.prog 66 [qv n nb d db, qv m mb e eb] Γ (fun v Δ => ∃ (n : Sl) (a : Bool) (m : Sl) (b : Bool) (z : Int), v = .tuple #[qv n a m b, .int .i64 z] ∧ Δ = []) := by
  by_cases hb : b = 0
  · subst hb
    exact PCalls.ent (p_qdiv0 n nb d db m mb e eb) (by rintro v Δ ⟨rfl, rfl⟩; exact ⟨[], ⟨_, _, _, _, _, rfl, rfl⟩, fun I w _ => Holds.nil I w⟩)
  · exact PCalls.ent (p_qdiv n nb d db m mb e eb hb) (by rintro v Δ ⟨n, a, m, b, rfl, rfl⟩; exact ⟨[], ⟨n, a, m, b, 0, rfl, rfl⟩, fun I w _ => Holds.nil I w⟩)
theorem p_least3 {Γ : List Fact} {L : Nat} (b : Nat) (l : List QE) {cs : List Value} [h : Has (RowF b) cs Γ] (hcs : cs = l.flatMap QR.cells) (h0 : ∀ I w, Holds Γ I w → ∀ e ∈ l, (QR.fact L e).p I w) (n : Nat) (hn : n = l.length) (hl : n ≤ 1000) (hL : L ≤ 100000 := by omega) :
    PCalls tb Try.prog 72 [.slice (some ⟨b, 0, none⟩) n n] Γ (fun v Δ => ∃ (n : Sl) (a : Bool) (m : Sl) (b : Bool) (q : Rat), v = qv n a m b ∧ LeastOf l q ∧ Δ = [QF n a m b (L, q)]) :=
  (p_least (Γ := OL QR (some ⟨b, 0, none⟩) (L, l) :: Γ) _ n n hn hl).weak (fun I w hd hh => Holds.cons ⟨h0 I w hh, by subst hcs; exact RA.of_row (h.p hh) (fun _ _ h => h)⟩ hh) (fun _ _ h => h)
theorem p_most3 {Γ : List Fact} {L : Nat} (b : Nat) (l : List QE) {cs : List Value} [h : Has (RowF b) cs Γ] (hcs : cs = l.flatMap QR.cells) (h0 : ∀ I w, Holds Γ I w → ∀ e ∈ l, (QR.fact L e).p I w) (n : Nat) (hn : n = l.length) (hl : n ≤ 1000) (hL : L ≤ 100000 := by omega) :
    PCalls tb Try.prog 73 [.slice (some ⟨b, 0, none⟩) n n] Γ (fun v Δ => ∃ (n : Sl) (a : Bool) (m : Sl) (b : Bool) (q : Rat), v = qv n a m b ∧ MostOf l q ∧ Δ = [QF n a m b (L, q)]) :=
  (p_most (Γ := OL QR (some ⟨b, 0, none⟩) (L, l) :: Γ) _ n n hn hl).weak (fun I w hd hh => Holds.cons ⟨h0 I w hh, by subst hcs; exact RA.of_row (h.p hh) (fun _ _ h => h)⟩ hh) (fun _ _ h => h)
theorem all3 {P : QE → Prop} {a b c : QE} (h1 : P a) (h2 : P b) (h3 : P c) : ∀ e ∈ [a, b, c], P e := by
  intro e he
  simp only [List.mem_cons, List.not_mem_nil, or_false] at he
  rcases he with rfl | rfl | rfl
  · exact h1
  · exact h2
  · exact h3
theorem QF.up' {n m : Sl} {a b : Bool} {L L' : Nat} {q : Rat} {I : Blk} {w : World} (h : (QF n a m b (L, q)).p I w) (hL : L ≤ L') : (QF n a m b (L', q)).p I w := by
  obtain ⟨y, ⟨⟨h1, h2, h3⟩, h4⟩, ⟨⟨g1, g2, g3⟩, g4⟩, hy⟩ := h
  exact ⟨y, ⟨⟨h1, h2, Nat.le_trans h3 hL⟩, h4⟩, ⟨⟨g1, g2, Nat.le_trans g3 hL⟩, g4⟩, hy⟩
set_option maxHeartbeats 4000000 in
theorem p_fracStays (x : ByteArray) (hx : x.size ≤ 9223372036854775807) (y : ByteArray) (hy : y.size ≤ 9223372036854775807) : PCalls tb Try.prog 15 [.string x, .string y] [] (IsV (.bool true)) := by
  refine PCalls.of_W tbOk Try.func15 rfl (by kernel_rfl) ?_
  refine W.cl [] (by kernel_rfl) (p_qone x) ?_
  rintro _ _ ⟨n1, a1, m1, b1, S1, s1, R1, t1, rfl, hS1, rfl⟩
  refine W.cl [] (by kernel_rfl) (p_qone y) ?_
  rintro _ _ ⟨n2, a2, m2, b2, S2, s2, R2, t2, rfl, hS2, rfl⟩
  refine W.cl [] (by kernel_rfl) (p_qknown) ?_
  rintro _ _ ⟨rfl, rfl⟩
  generalize qfv x = X at *
  generalize qfv y = Y at *
  cases hk1 : qok x with
  | false =>
    refine W.cl [34, 31, 27] (by kernel_rfl) (p_qknown) ?_
    rintro _ _ ⟨rfl, rfl⟩
    exact W.r [] (.bool true) (by kernel_rfl) ⟨rfl, rfl⟩ ent0
  | true =>
    cases hk2 : qok y with
    | false =>
      refine W.cl [34, 31, 27] (by kernel_rfl) (p_qknown) ?_
      rintro _ _ ⟨rfl, rfl⟩
      exact W.r [] (.bool true) (by kernel_rfl) ⟨rfl, rfl⟩ ent0
    | true =>
      refine W.cl [34, 31, 27] (by kernel_rfl) (p_qadd n1 a1 m1 b1 n2 a2 m2 b2) ?_
      rintro _ _ ⟨n4, a4, m4, b4, rfl, rfl⟩
      refine W.cl [] (by kernel_rfl) (p_qtext n4 a4 m4 b4) ?_
      rintro _ _ ⟨rfl, rfl⟩
      refine W.cl [] (by kernel_rfl) (p_qmul n4 a4 m4 b4 n1 a1 m1 b1) ?_
      rintro _ _ ⟨n6, a6, m6, b6, rfl, rfl⟩
      refine W.cl [] (by kernel_rfl) (p_qsub n6 a6 m6 b6 n2 a2 m2 b2) ?_
      rintro _ _ ⟨n7, a7, m7, b7, rfl, rfl⟩
      refine W.cl [] (by kernel_rfl) (p_qdivA n1 a1 m1 b1 n2 a2 m2 b2) ?_
      rintro _ _ ⟨n8, a8, m8, b8, z8, rfl, rfl⟩
      refine W.cl [] (by kernel_rfl) (p_qdivA n2 a2 m2 b2 n1 a1 m1 b1) ?_
      rintro _ _ ⟨n9, a9, m9, b9, z9, rfl, rfl⟩
      refine W.cl [] (by kernel_rfl) (p_qneg n1 a1 m1 b1) ?_
      rintro _ _ ⟨n10, a10, m10, b10, rfl, rfl⟩
      refine W.cl [] (by kernel_rfl) (p_qnear n10 a10 m10 b10) ?_
      rintro _ _ ⟨u11, d11, rfl, rfl⟩
      refine W.cl [] (by kernel_rfl) (p_qfloor n2 a2 m2 b2) ?_
      rintro _ _ ⟨u12, d12, rfl, rfl⟩
      refine W.bs [] 3 (([⟨n4, a4, m4, b4, X + Y⟩, ⟨n1, a1, m1, b1, X⟩, ⟨n2, a2, m2, b2, Y⟩] : List QE).flatMap QR.cells) tbOk (by kernel_rfl) (fun B => ?_)
      refine W.cl [] (by kernel_rfl) (p_least3 (L := 1000) B [⟨n4, a4, m4, b4, X + Y⟩, ⟨n1, a1, m1, b1, X⟩, ⟨n2, a2, m2, b2, Y⟩] rfl (fun I w hh => all3 (QF.up' (Has.p (k := QF n4 a4 m4 b4) (a := (_, X + Y)) inferInstance hh) (by omega)) (QF.up' (Has.p (k := QF n1 a1 m1 b1) (a := (_, X)) inferInstance hh) (by omega)) (QF.up' (Has.p (k := QF n2 a2 m2 b2) (a := (_, Y)) inferInstance hh) (by omega))) 3 rfl (by omega)) ?_
      rintro _ _ ⟨n14, a14, m14, b14, q14, rfl, h14, rfl⟩
      refine W.bs [] 3 (([⟨n1, a1, m1, b1, X⟩, ⟨n2, a2, m2, b2, Y⟩, ⟨n4, a4, m4, b4, X + Y⟩] : List QE).flatMap QR.cells) tbOk (by kernel_rfl) (fun B2 => ?_)
      refine W.cl [] (by kernel_rfl) (p_most3 (L := 1000) B2 [⟨n1, a1, m1, b1, X⟩, ⟨n2, a2, m2, b2, Y⟩, ⟨n4, a4, m4, b4, X + Y⟩] rfl (fun I w hh => all3 (QF.up' (Has.p (k := QF n1 a1 m1 b1) (a := (_, X)) inferInstance hh) (by omega)) (QF.up' (Has.p (k := QF n2 a2 m2 b2) (a := (_, Y)) inferInstance hh) (by omega)) (QF.up' (Has.p (k := QF n4 a4 m4 b4) (a := (_, X + Y)) inferInstance hh) (by omega))) 3 rfl (by omega)) ?_
      rintro _ _ ⟨n16, a16, m16, b16, q16, rfl, h16, rfl⟩
      refine W.cl [] (by kernel_rfl) (p_qnum n1 a1 m1 b1) ?_
      rintro _ _ ⟨u17, d17, rfl, rfl⟩
      refine W.cl [] (by kernel_rfl) (p_qden n2 a2 m2 b2) ?_
      rintro _ _ ⟨u18, d18, rfl, rfl⟩
      refine W.cl [] (by kernel_rfl) (p_zadd u17 d17 u18 d18) ?_
      rintro _ _ ⟨u19, d19, rfl, rfl⟩
      refine W.cl [] (by kernel_rfl) (p_qsame n1 a1 m1 b1 S1 s1 R1 t1) ?_
      rintro _ _ ⟨rfl, rfl⟩
      refine W.cl [75] (by kernel_rfl) (p_qsame n2 a2 m2 b2 S2 s2 R2 t2) ?_
      rintro _ _ ⟨rfl, rfl⟩
      refine W.cl [80, 75] (by kernel_rfl) (p_qtext n4 a4 m4 b4) ?_
      rintro _ _ ⟨rfl, rfl⟩
      exact W.r [80] (.bool ((qtxt (X + Y)).toList == (qtxt (X + Y)).toList)) (by kernel_rfl) ⟨by simp, rfl⟩ ent0

end Go.Proofs.Ytmpcabpepnmfiaa
namespace Go.Proofs.Ytmpcabpepnmfiaa.fracStays
open Go.ChangeShapes Go.WideShapes Go.ChangeAt Go.RowKit
open Go.ChangeMaps (open_string shut_string)

theorem closed : joinedFacts Try.pinned.checked.prog 15 Try.f15 Rows.fracStaysSpec Rows.fracStaysRow = true := by
  unfold joinedFacts
  rw [show Try.pinned.checked.prog.mayEnter = true from jn_enter, show (Rows.fracStaysRow.lifted == Try.pinned.checked.prog.liftsFinal) = true from jn_lift, show (Try.pinned.checked.prog.make == some Rows.fracStaysRow.make) = true from jn_make,
    show laidOutB Try.pinned.checked.prog = true from jn_laid, show mapsRowed Try.pinned.checked.prog = true from jn_maps]
  kernel_rfl

set_option maxRecDepth 100000 in
theorem lifted (os : Os) (started : os.Started) (H : Type) (enc : TypeId × Value → H) :
    ReturnsInHanded {} Try.checked os 15 .any (Rows.fracStaysSpec.pre6 enc Try.prog Try.f15 Rows.fracStaysRow.domain false) (Rows.fracStaysSpec.post enc Try.prog Try.f15 false true false false) := by
  refine returnsInHanded_of_change (C := Try.checked) jn_own started (by kernel_rfl) Try.func15
    (ChangeSpec.witness6 (enc := enc) (C := Try.checked) false ⟨#[], #[.string ⟨#[]⟩, .string ⟨#[]⟩], []⟩ 8 (by kernel_rfl) (by kernel_rfl) (by kernel_rfl) (by kernel_rfl)) ?_
  intro W base args ds gs before hval0 hW hcnd _
  have hval : ∀ (j : Nat) t v, Try.f15.params[j]? = some t → args[j]? = some v → Value.okWide Try.prog W .any base t v := hval0
  have hW' := hW
  obtain ⟨p, q, hA0, hV, rfl, hfz, hnd⟩ := hW
  have hA : DataW.TrodAll enc Try.prog W 0 (fun _ => true) true Try.f15.params.toList args.toList ds p := hA0
  have hK := hA
  rw [Try.params15] at hA hval hK
  obtain ⟨v0, vs0, d0, ds0, p0, q0, hargs, rfl, rfl, h0, r0⟩ := trodAll_cons hA
  obtain ⟨v1, vs1, d1, ds1, p1, q1, rfl, rfl, rfl, h1, r1⟩ := trodAll_cons r0
  obtain ⟨rfl, rfl, rfl⟩ := trodAll_nil r1
  obtain rfl : args = #[v0, v1] := by cases args; simp_all
  obtain ⟨rfl, rfl⟩ := trodVars_none hV
  obtain ⟨a0, rfl, rfl, rfl, w0⟩ := open_string Try.underlying9 (hval 0 9 v0 rfl rfl) h0
  obtain ⟨a1, rfl, rfl, rfl, w1⟩ := open_string Try.underlying9 (hval 1 9 v1 rfl rfl) h1
  clear hA0 hval0
  simp only [List.append_nil] at hW' hK
  refine (law_calls' (p_fracStays a0 w0 a1 w1) W (Holds.nil _ _)).mono fun e W' ⟨he, hg⟩ => ?_
  subst he
  exact ⟨_, rfl, law_post hW' rfl (fun _ _ _ => (trodAll_cons_mk (shut_bool Try.underlying4 _) trodAll_mk0)) (fun sp hsp => trodAll_stays jn_laid hg (by kernel_rfl) hK (fun x hx => hW'.lt x (by first | exact hx | simpa using hx)) (fun x hx => hsp x (by first | exact hx | simpa using hx))) rfl hg⟩

theorem over : Rows.fracStaysRow.holds Try.pinned (OpenSpec.ofChange Rows.fracStaysSpec) :=
  OpenClaim.holds_of_wide 15 Try.f15 rfl rfl rfl rfl rfl rfl rfl ⟨rfl, rfl, rfl, rfl, rfl⟩ rfl rfl rfl rfl rfl (by kernel_rfl) Try.func15 closed
    (of_decide_eq_true (by kernel_rfl)) (by unfold Func.isWrapper; first | (rw [if_pos (by decide +kernel)]; kernel_rfl) | (rw [if_neg (by decide +kernel)]; exact ⟨rfl, rfl⟩))
    (fun os started H enc _ => lifted os started H enc)
end Go.Proofs.Ytmpcabpepnmfiaa.fracStays
namespace Go.Proofs.Ytmpcabpepnmfiaa

/-- The statement. -/
theorem fracStays_holds : Rows.FracStaysSaid := fracStays.over
end Go.Proofs.Ytmpcabpepnmfiaa
