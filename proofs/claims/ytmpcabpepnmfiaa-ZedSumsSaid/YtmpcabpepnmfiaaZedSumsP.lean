/- ZedSums: whatever the texts, the law returns true; no condition. -/
import Derived.Test.YtmpcabpepnmfiaaRows
import Derived.Test.YtmpcabpepnmfiaaZl
import Derived.Test.YtmpcabpepnmfiaaVy
import Derived.Test.YtmpcabpepnmfiaaLawZ
import Derived.Test.YtmpcabpepnmfiaaVx
import Derived.Test.YtmpcabpepnmfiaaJn
set_option linter.unusedSimpArgs false
set_option linter.unusedVariables false
namespace Go.Proofs.Ytmpcabpepnmfiaa
open Go.RowKit Go.IntWalk
theorem zsum_snoc (l : List ZE) (e : ZE) : zsum (l ++ [e]) = zsum l + e.x := by
  unfold zsum
  rw [List.map_append, List.sum_append]
  simp only [List.map_cons, List.map_nil, List.sum_cons, List.sum_nil, Int.add_zero]
theorem zsum_cons (l : List ZE) (e : ZE) : zsum (e :: l) = e.x + zsum l := by
  unfold zsum
  rw [List.map_cons, List.sum_cons]
theorem zsum_rev : ∀ l : List ZE, zsum l.reverse = zsum l
  | [] => rfl
  | e :: l => by rw [List.reverse_cons, zsum_snoc, zsum_rev l, zsum_cons, Int.add_comm]

theorem p_zsum {Γ : List Fact} {L : Nat} (ao : Option Addr) (n c : Nat) {l : List ZE} [h : Has (OL ZR ao) (L, l) Γ] (hn : n = l.length) (hl : n ≤ 1000) (hL : L ≤ 1000000 := by omega) :
    PCalls tb Try.prog 27 [.slice ao n c] Γ (ZPost (L + n) (zsum l)) := by
  refine PCalls.of_W tbOk Try.func27 rfl (by kernel_rfl) ?_
  refine W.lp [] [8] (fun a : Nat × Int × Sl × Bool => [(8, .int .i64 a.2.1)]) (fun a => [(3, [.slice a.2.2.1.ao a.2.2.1.n a.2.2.1.c, .bool a.2.2.2])]) (fun a => [ZF a.2.2.1 a.2.2.2 (L + a.1, zsum (l.take a.1)), OL ZR ao (L, l)]) (fun a => a.2.1 = a.1 ∧ a.1 ≤ n) (fun a => n - a.1) (0, 0, ⟨none, 0, 0⟩, false) (by kernel_rfl) (by kernel_rfl) ⟨rfl, Nat.zero_le _⟩ (entAll (Δ := [_]) (Δ' := [_]) entZnil (fun I w _ hh => holds1 (h.p hh))) ?_
  rintro ⟨k, z, s, b⟩ R ⟨hz, hk⟩ close
  simp only at hz hk
  subst hz
  by_cases hks : k < n
  · have hkl : k < l.length := by omega
    refine W.el ZR ao k hkl rfl (by decide) ?_
    rintro B off rfl
    refine W.dt [] 9 (decide ((k : Int) < (n : Nat))) (by kernel_rfl) (by rw [decide_eq_true_iff]; omega) ?_
    refine W.ia [9] 2 B off n c .i64 k (k : Int) rfl tbOk (by kernel_rfl) hks ?_
    refine W.lds [] B (off + k * 2) (ZR.cells (l[k]'hkl)) tbOk (by kernel_rfl) (OL.told ZR B off k hkl) ?_
    have hF : Has (ZF (l[k]'hkl).s (l[k]'hkl).b) (L, (l[k]'hkl).x) (ZR.fact L (l[k]'hkl) :: [ZF s b (L + k, zsum (l.take k)), OL ZR (some ⟨B, off, none⟩) (L, l)]) := Has.head
    refine W.cl [] (by kernel_rfl) (p_zadd s b (l[k]'hkl).s (l[k]'hkl).b) ?_
    rintro _ _ ⟨u, d, rfl, rfl⟩
    refine close [] _ _ (k + 1, IntKind.i64.wrap ((k : Int) + 1), u, d) (by kernel_rfl) (by kernel_rfl) ⟨by rw [i64_in _ (by omega)]; rfl, by simp only; omega⟩ (by simp only; omega) ?_
    exact entAll (Δ := [_]) (Δ' := [_]) (entZ (by simp only; omega) (zsum_take hkl).symm) (fun I w _ hh => holds1 (Has.p (k := OL ZR (some ⟨B, off, none⟩)) (a := (L, l)) inferInstance hh))
  · obtain rfl : k = n := by omega
    refine W.df [] 9 (decide (((k : Nat) : Int) < (k : Nat))) (by kernel_rfl) (by rw [decide_eq_false_iff_not]; omega) ?_
    refine W.r [9] (zv s b) (by kernel_rfl) ⟨s, b, rfl, rfl⟩ (entZ (by simp only; omega) ?_)
    simp only
    rw [List.take_of_length_le (by omega)]

/-- What a round knows. -/
structure ZSt where
  i : Nat
  z : Int
  v : Value
  O : List (Nat × List Value)
  ao : Option Addr
  c : Nat
  S : Int
  u : Sl
  l : List ZE

set_option maxHeartbeats 4000000 in
theorem p_zedSums (ao : Option Addr) (n c : Nat) (ss : List ByteArray) (hn : n = ss.length) (hs : ∀ s ∈ ss, s.size ≤ 9223372036854775807) : PCalls tb Try.prog 3 [.slice ao n c] [RA ao (ss.map Value.string)] (IsV (.bool true)) := by
  refine PCalls.of_W tbOk Try.func3 rfl (by kernel_rfl) ?_
  refine W.lpo [] [2, 3, 4, 6] (fun a : ZSt => [(2, .bool false), (3, a.v), (4, .slice a.ao a.i a.c), (6, .int .i64 a.z)]) (fun a => [(5, [.int .i64 a.S, .slice a.u.ao a.u.n a.u.c])]) (fun a => a.O)
    (fun a => [YF a.S a.u (200 + a.i, zsum a.l), OS ZR (150, a.l), RA a.ao (a.l.reverse.flatMap ZR.cells), RA ao (ss.map Value.string)]) (fun a => a.z = a.i ∧ a.i ≤ 40 ∧ a.i ≤ n ∧ a.l.length = a.i ∧ Grow 2 a.O a.v a.i (a.l.flatMap ZR.cells)) (fun a => 40 - a.i)
    ⟨0, 0, .slice none 0 0, [], none, 0, 0, ⟨none, 0, 0⟩, []⟩ (by kernel_rfl) (by kernel_rfl) ⟨rfl, by simp only; omega, by simp only; omega, rfl, Grow.nil 2⟩ ?_ ?_
  · intro I w hd hh
    exact Holds.cons (entYnil (L' := 200) I w hd hh).h0' (Holds.cons (fun e he => by simp at he) (Holds.cons (RA.nil _ _ _) (holds1 hh.h0')))
  rintro ⟨i, z, v, O, bo, bc, S, u, l⟩ R ⟨hz, h40, hin, hli, hg⟩ close
  simp only at hz h40 hin hli hg ⊢
  subst hz
  by_cases hgo : i < n ∧ i < 40
  · obtain ⟨hin', hi40⟩ := hgo
    have hsi : i < ss.length := by omega
    have hcell : (ss.map Value.string)[i]? = some (.string (ss[i]'hsi)) := by rw [List.getElem?_map, List.getElem?_eq_getElem hsi]; rfl
    refine W.ra ao (xs := ss.map Value.string) (by kernel_rfl) (by intro e; rw [e] at hcell; simp at hcell) ?_
    rintro B off rfl
    refine W.know (0 < i → ∃ b off, bo = some ⟨b, off, none⟩) (by kernel_rfl) (fun I w _ hh hi => ?_) (fun hbo => ?_)
    · obtain ⟨b, off, e, _⟩ := (Has.p (k := RA bo) (a := l.reverse.flatMap ZR.cells) inferInstance hh) (by
        intro e
        have := row_len ZR l.reverse
        rw [e, List.length_reverse, hli] at this
        have h2 : ZR.z = 2 := rfl
        rw [h2] at this
        simp at this
        omega)
      exact ⟨b, off, e⟩
    refine W.dt [] 15 (decide ((i : Int) < (n : Nat))) (by kernel_rfl) (by rw [decide_eq_true_iff]; omega) ?_
    refine W.dt [15] 18 (decide ((i : Int) < 40)) (by kernel_rfl) (by rw [decide_eq_true_iff]; omega) ?_
    refine W.ia [18] 1 B off n c .i64 i (i : Int) rfl tbOk (by kernel_rfl) hin' ?_
    refine W.ld [] 1 B (off + i * 1) (.string (ss[i]'hsi)) tbOk (by kernel_rfl) (fun I w _ hh => by
      have := RA.cell (Has.p (k := RA (some ⟨B, off, none⟩)) (a := ss.map Value.string) inferInstance hh) hcell
      rw [Nat.mul_one]
      exact this) ?_
    refine W.cl [] (by kernel_rfl) (p_one (ss[i]'hsi)) ?_
    rintro _ _ ⟨u4, d4, S4, t4, rfl, hS, rfl⟩
    generalize zfv (ss[i]'hsi) = X at *
    cases hok : zok (ss[i]'hsi) with
    | false =>
      refine W.cl [31] (by kernel_rfl) (p_zknown) ?_
      rintro _ _ ⟨rfl, rfl⟩
      refine W.ia [33] 1 B off n c .i64 i (i : Int) rfl tbOk (by kernel_rfl) hin' ?_
      refine W.ld [33] 1 B (off + i * 1) (.string (ss[i]'hsi)) tbOk (by kernel_rfl) (fun I w _ hh => by
        have := RA.cell (Has.p (k := RA (some ⟨B, off, none⟩)) (a := ss.map Value.string) inferInstance hh) hcell
        rw [Nat.mul_one]
        exact this) ?_
      refine W.cl [33] (by kernel_rfl) (p_apart (ss[i]'hsi)) ?_
      rintro _ _ ⟨rfl, rfl⟩
      exact W.r [33] (.bool true) (by kernel_rfl) ⟨rfl, rfl⟩ ent0
    | true =>
      refine W.bs [31] 1 (ZR.cells ⟨u4, d4, X⟩) tbOk (by kernel_rfl) (fun B5 => ?_)
      refine W.app [] O [] O [] 2 32 i 1 v (.slice (some ⟨B5, 0, none⟩) 1 1) (l.flatMap ZR.cells) (ZR.cells ⟨u4, d4, X⟩) tbOk (by kernel_rfl) (by simp) hg (reads_row B5 _ 1 2 rfl 1) (by simp [ZR, Value.oneCell']) (by omega) (by omega) (fun v' O' hg' => ?_)
      refine W.bs [] 1 (ZR.cells ⟨u4, d4, X⟩) tbOk (by kernel_rfl) (fun B7 => ?_)
      refine W.apt [] ([] ++ O' ++ []) 2 32 1 i (some ⟨B7, 0, none⟩) (.slice bo i bc) (ZR.cells ⟨u4, d4, X⟩) (l.reverse.flatMap ZR.cells) tbOk (by kernel_rfl) (fun I w hh => RA.of_row (Has.p (k := RowF B7) (a := ZR.cells ⟨u4, d4, X⟩) inferInstance hh) (fun _ _ h => h)) rfl (by omega)
        (reads_ra bo _ i 2 bc (by rw [row_len, List.length_reverse, hli]; rfl) hbo) (by omega) (by omega) (fun bo' bc' => ?_)
      refine W.cl [] (by kernel_rfl) (p_yadd S u S4 t4) ?_
      rintro _ _ ⟨S9, t9, rfl, rfl⟩
      refine close [] _ _ ⟨i + 1, IntKind.i64.wrap ((i : Int) + 1), v', O', bo', bc', S9, t9, l ++ [⟨u4, d4, X⟩]⟩ (by kernel_rfl) ?_ ⟨by simp only; rw [i64_in _ (by omega)]; rfl, by simp only; omega, by simp only; omega, by simp only; rw [List.length_append, hli]; rfl, ?_⟩ (by simp only; omega) ?_
      · simp only [List.nil_append, List.append_nil, Nat.add_comm i 1]
        kernel_rfl
      · simp only [List.flatMap_append, List.flatMap_cons, List.flatMap_nil, List.append_nil]
        exact hg'
      · intro I w hd hh
        refine Holds.cons ((entY (by simp only; omega) (by simp only; rw [zsum_snoc])) I w hd hh).h0' (Holds.cons (fun e he => ?_) (Holds.cons ?_ (holds1 (Has.p (k := RA (some ⟨B, off, none⟩)) (a := ss.map Value.string) inferInstance hh))))
        · rcases List.mem_append.1 he with he | he
          · exact (Has.p (k := OS ZR) (a := (150, l)) inferInstance hh) e he
          · rw [List.mem_singleton.1 he]
            exact Has.p (k := ZF u4 d4) (a := (150, X)) inferInstance hh
        · have := Has.p (k := RA bo') (a := ZR.cells ⟨u4, d4, X⟩ ++ l.reverse.flatMap ZR.cells) inferInstance hh
          simp only [List.reverse_append, List.reverse_cons, List.reverse_nil, List.nil_append, List.flatMap_append, List.flatMap_cons, List.flatMap_nil, List.append_nil]
          exact this
  · refine W.pubg rfl hg rfl (fun vo vc hv => ?_)
    subst hv
    have hD : ∀ D : List Nat, D = [18, 15] ∨ D = [18] → True := fun _ _ => trivial
    have key : ∀ (ao : Option Addr) (c : Nat) (l' : List ZE), l'.length = i → (∀ e ∈ l', e ∈ l) → ∀ Γ : List Fact, (∀ I w, Holds Γ I w → (OS ZR (150, l)).p I w ∧ (RA ao (l'.flatMap ZR.cells)).p I w) → PCalls tb Try.prog 27 [.slice ao i c] Γ (ZPost (150 + i) (zsum l')) := fun ao c l' hl' hm Γ hh =>
      (p_zsum (Γ := OL ZR ao (150, l') :: Γ) ao i c hl'.symm (by omega)).weak (fun I w hd h => Holds.cons ⟨fun e he => (hh I w h).1 e (hm e he), (hh I w h).2⟩ h) (fun _ _ h => h)
    by_cases hlt : i < n
    · refine W.dt [] 15 (decide ((i : Int) < (n : Nat))) (by kernel_rfl) (by rw [decide_eq_true_iff]; omega) ?_
      refine W.df [15] 18 (decide ((i : Int) < 40)) (by kernel_rfl) (by rw [decide_eq_false_iff_not]; omega) ?_
      refine W.cl [18] (by kernel_rfl) (p_zknown) ?_
      rintro _ _ ⟨rfl, rfl⟩
      refine W.cl [53] (by kernel_rfl) (key vo vc l hli (fun _ h => h) _ (fun I w hh => ⟨Has.p (k := OS ZR) (a := (150, l)) inferInstance hh, Has.p (k := RA vo) (a := l.flatMap ZR.cells) inferInstance hh⟩)) ?_
      rintro _ _ ⟨u3, d3, rfl, rfl⟩
      refine W.cl [53] (by kernel_rfl) (p_same u3 d3 S u) ?_
      rintro _ _ ⟨rfl, rfl⟩
      refine W.cl [59, 53] (by kernel_rfl) (key bo bc l.reverse (by rw [List.length_reverse]; exact hli) (fun _ h => List.mem_reverse.1 h) _ (fun I w hh => ⟨Has.p (k := OS ZR) (a := (150, l)) inferInstance hh, Has.p (k := RA bo) (a := l.reverse.flatMap ZR.cells) inferInstance hh⟩)) ?_
      rintro _ _ ⟨u5, d5, rfl, rfl⟩
      rw [zsum_rev]
      refine W.cl [59] (by kernel_rfl) (p_same u5 d5 S u) ?_
      rintro _ _ ⟨rfl, rfl⟩
      exact W.r [59] (.bool true) (by kernel_rfl) ⟨rfl, rfl⟩ ent0
    · refine W.df [] 15 (decide ((i : Int) < (n : Nat))) (by kernel_rfl) (by rw [decide_eq_false_iff_not]; omega) ?_
      refine W.cl [18, 15] (by kernel_rfl) (p_zknown) ?_
      rintro _ _ ⟨rfl, rfl⟩
      refine W.cl [53] (by kernel_rfl) (key vo vc l hli (fun _ h => h) _ (fun I w hh => ⟨Has.p (k := OS ZR) (a := (150, l)) inferInstance hh, Has.p (k := RA vo) (a := l.flatMap ZR.cells) inferInstance hh⟩)) ?_
      rintro _ _ ⟨u3, d3, rfl, rfl⟩
      refine W.cl [53] (by kernel_rfl) (p_same u3 d3 S u) ?_
      rintro _ _ ⟨rfl, rfl⟩
      refine W.cl [59, 53] (by kernel_rfl) (key bo bc l.reverse (by rw [List.length_reverse]; exact hli) (fun _ h => List.mem_reverse.1 h) _ (fun I w hh => ⟨Has.p (k := OS ZR) (a := (150, l)) inferInstance hh, Has.p (k := RA bo) (a := l.reverse.flatMap ZR.cells) inferInstance hh⟩)) ?_
      rintro _ _ ⟨u5, d5, rfl, rfl⟩
      rw [zsum_rev]
      refine W.cl [59] (by kernel_rfl) (p_same u5 d5 S u) ?_
      rintro _ _ ⟨rfl, rfl⟩
      exact W.r [59] (.bool true) (by kernel_rfl) ⟨rfl, rfl⟩ ent0

end Go.Proofs.Ytmpcabpepnmfiaa
namespace Go.Proofs.Ytmpcabpepnmfiaa.zedSums
open Go.ChangeShapes Go.WideShapes Go.ChangeAt Go.RowKit
open Go.ChangeMaps (open_string shut_string)

theorem closed : joinedFacts Try.pinned.checked.prog 3 Try.f3 Rows.zedSumsSpec Rows.zedSumsRow = true := by
  unfold joinedFacts
  rw [show Try.pinned.checked.prog.mayEnter = true from jn_enter, show (Rows.zedSumsRow.lifted == Try.pinned.checked.prog.liftsFinal) = true from jn_lift, show (Try.pinned.checked.prog.make == some Rows.zedSumsRow.make) = true from jn_make,
    show laidOutB Try.pinned.checked.prog = true from jn_laid, show mapsRowed Try.pinned.checked.prog = true from jn_maps]
  kernel_rfl

set_option maxRecDepth 100000 in
theorem lifted (os : Os) (started : os.Started) (H : Type) (enc : TypeId × Value → H) :
    ReturnsInHanded {} Try.checked os 3 .any (Rows.zedSumsSpec.pre6 enc Try.prog Try.f3 Rows.zedSumsRow.domain false) (Rows.zedSumsSpec.post enc Try.prog Try.f3 false true false false) := by
  refine returnsInHanded_of_change (C := Try.checked) jn_own started (by kernel_rfl) Try.func3
    (ChangeSpec.witness6 (enc := enc) (C := Try.checked) false ⟨#[], #[.slice none 0 0], []⟩ 8 (by kernel_rfl) (by kernel_rfl) (by kernel_rfl) (by kernel_rfl)) ?_
  intro W base args ds gs before hval0 hW hcnd _
  have hval : ∀ (j : Nat) t v, Try.f3.params[j]? = some t → args[j]? = some v → Value.okWide Try.prog W .any base t v := hval0
  have hW' := hW
  obtain ⟨p, q, hA0, hV, rfl, hfz, hnd⟩ := hW
  have hA : DataW.TrodAll enc Try.prog W 0 (fun _ => true) true Try.f3.params.toList args.toList ds p := hA0
  have hK := hA
  rw [Try.params3] at hA hval hK
  obtain ⟨v0, vs0, d0, ds0, p0, q0, hargs, rfl, rfl, h0, r0⟩ := trodAll_cons hA
  obtain ⟨rfl, rfl, rfl⟩ := trodAll_nil r0
  obtain rfl : args = #[v0] := by cases args; simp_all
  obtain ⟨rfl, rfl⟩ := trodVars_none hV
  obtain ⟨ao0, n0, c0, hv0⟩ := okWide_slice Try.underlying22 (hval 0 22 v0 rfl rfl)
  obtain ⟨a0, e0, w0, g0⟩ := row_strs Try.underlying22 Try.underlying9 (by kernel_rfl) hv0 h0
  subst hv0
  clear hA0 hval0
  simp only [List.append_nil] at hW' hK
  refine (law_calls' (p_zedSums ao0 n0 c0 a0 e0 w0) W (Holds.cons g0 (Holds.nil _ _))).mono fun e W' ⟨he, hg⟩ => ?_
  subst he
  exact ⟨_, rfl, law_post hW' rfl (fun _ _ _ => (trodAll_cons_mk (shut_bool Try.underlying4 _) trodAll_mk0)) (fun sp hsp => trodAll_stays jn_laid hg (by kernel_rfl) hK (fun x hx => hW'.lt x (by first | exact hx | simpa using hx)) (fun x hx => hsp x (by first | exact hx | simpa using hx))) rfl hg⟩

theorem over : Rows.zedSumsRow.holds Try.pinned (OpenSpec.ofChange Rows.zedSumsSpec) :=
  OpenClaim.holds_of_wide 3 Try.f3 rfl rfl rfl rfl rfl rfl rfl ⟨rfl, rfl, rfl, rfl, rfl⟩ rfl rfl rfl rfl rfl (by kernel_rfl) Try.func3 closed
    (of_decide_eq_true (by kernel_rfl)) (by unfold Func.isWrapper; first | (rw [if_pos (by decide +kernel)]; kernel_rfl) | (rw [if_neg (by decide +kernel)]; exact ⟨rfl, rfl⟩))
    (fun os started H enc _ => lifted os started H enc)
end Go.Proofs.Ytmpcabpepnmfiaa.zedSums
namespace Go.Proofs.Ytmpcabpepnmfiaa

/-- The statement. -/
theorem zedSums_holds : Rows.ZedSumsSaid := zedSums.over
end Go.Proofs.Ytmpcabpepnmfiaa
