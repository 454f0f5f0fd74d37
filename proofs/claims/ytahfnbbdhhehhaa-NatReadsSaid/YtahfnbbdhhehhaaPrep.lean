/- append([]int{d}, s...): one element in front of a slice. -/
import Derived.Test.YtahfnbbdhhehhaaProg
import Derived.Test.YtahfnbbdhhehhaaOwn
import Derived.Deep.Upon
import Derived.Deep.AppendSrc
import Derived.RegionTactic
namespace Go.Proofs.Ytahfnbbdhhehhaa
open Go.RowKit

/-- The prepended row. -/
theorem run_prepend (w : World) (B : Nat) (z : Int) (d : Nat) (hz : z = (d : Int)) (sl : Sl) (l2 : List Nat) (ty : TypeId) (hB : w.heap[B]? = some (.cells #[.int .i64 z] 3 (0, 0))) (hi : IntsAt w 3 .i64 sl l2) (hl : (1 + l2.length) * 8 ≤ 140737488355328) :
    ∃ (u : Sl) (w' : World), (Builtin.append_ #[28, 28] ty #[.slice (some ⟨B, 0, none⟩) 1 1, .slice sl.ao sl.n sl.c]).run Try.prog w = .ok (.slice u.ao u.n u.c) w' ∧
      Own w' B 3 .i64 (.slice u.ao u.n u.c) (d :: l2) ∧ Below B w w' := by
  obtain ⟨i0, hi0, hz0, hz1, hz2⟩ := info_parts rowInt.inf
  have hBl := ent_lt hB
  subst hz
  have hown : w.ownsRow B 3 1 (.slice (some ⟨B, 0, none⟩) 1 1) 1 [.int .i64 ((d : Nat) : Int)] :=
    ⟨by simp, .inr ⟨B, 1, _, rfl, Nat.le_refl _, hB, Nat.le_refl _, by decide, by simp, by simp⟩⟩
  have hn := hi.1
  rcases hao : sl.ao with _ | ad
  · have h0 : sl.n = 0 := by
      by_cases hp : 0 < sl.n
      · obtain ⟨b, off, ha, _⟩ := hi.open hp
        rw [hao] at ha
        simp at ha
      · omega
    have hl2 : l2 = [] := List.eq_nil_of_length_eq_zero (by omega)
    subst hl2
    rw [h0]
    have hr := run_append_nothing (P := Try.prog) w 28 28 ty 3 i0 rowInt.ut hi0 (some ⟨B, 0, none⟩) 1 1 (Nat.le_refl _) (.slice none 0 sl.c) (Src.ofNil w rowInt.ut sl.c)
    exact ⟨⟨some ⟨B, 0, none⟩, 1, 1⟩, w, hr, hown, Below.refl _ _⟩
  · have hnews : ∀ j u, (l2.map fun d => Value.int .i64 ((d : Nat) : Int))[j]? = some u → w.cell? (ad.add j) = some u := by
      intro j u hj
      simp only [List.getElem?_map, Option.map_eq_some_iff] at hj
      obtain ⟨d', hd, rfl⟩ := hj
      have hjl : j < l2.length := (List.getElem?_eq_some_iff.1 hd).1
      obtain ⟨b, off, ha, hb, hc⟩ := hi.open (by omega)
      rw [hao] at ha
      simp only [Option.some.injEq] at ha
      subst ha
      have := hc j (by omega)
      rw [dg_of hjl] at this
      have e : l2[j] = d' := (List.getElem?_eq_some_iff.1 hd).2
      rw [e] at this
      rw [← this]
      unfold Addr.add
      split
      · rename_i h0; subst h0; rfl
      · rfl
    have hone : ∀ u ∈ (l2.map fun d => Value.int .i64 ((d : Nat) : Int)), u.oneCell' = true := by
      intro u hu
      simp only [List.mem_map] at hu
      obtain ⟨d', _, rfl⟩ := hu
      rfl
    obtain ⟨v', w', hr, h2, h3, _⟩ := run_append_own (P := Try.prog) w B 28 ty 3 i0 (.int .i64 0) 1 8 rowInt.ut hi0 hz0 hz1 hz2 rfl (by decide) _ 1 _ hown ad sl.n sl.c (l2.map fun d => Value.int .i64 ((d : Nat) : Int)) (by simp [hn]) hnews hone (by rw [hn]; unfold maxLen; omega) (by rw [hn]; exact hl) (Nat.le_of_lt hBl)
    have hO : Own w' B 3 .i64 v' (d :: l2) := by
      unfold Own
      have e : (d :: l2).length = 1 + sl.n := by simp [hn]; omega
      rw [e]
      exact h2
    obtain ⟨u, hu, _⟩ := hO.ints
    rw [hu] at hr hO
    exact ⟨u, w', hr, hO, (Below.refl B w).grown h3 (Nat.le_of_lt hBl) (fun g hg => by simp [Value.ownBlock] at hg; omega)⟩

/-- At the operation. -/
theorem wp_prepend {w : World} {o : Oper} {a : Act} {K : Act → World → Prop} {Q : Exit → Act → World → Prop} (s x : Operand)
    (ho : o.op = .call { callee := .builtin .append, args := #[s, x], argTypes := #[28, 28] }) (B : Nat) (z : Int) (d : Nat) (sl : Sl) (l2 : List Nat) (hs : a.eval s = .slice (some ⟨B, 0, none⟩) 1 1) (hx : a.eval x = .slice sl.ao sl.n sl.c)
    (hz : z = (d : Int)) (hB : w.heap[B]? = some (.cells #[.int .i64 z] 3 (0, 0))) (hi : IntsAt w 3 .i64 sl l2) (hl : (1 + l2.length) * 8 ≤ 140737488355328)
    (h : ∀ (u : Sl) (w' : World), Own w' B 3 .i64 (.slice u.ao u.n u.c) (d :: l2) → Below B w w' → K (a.put o.dst (.slice u.ao u.n u.c)) w') : o.wp Try.prog a w K Q := by
  obtain ⟨u, w', hr, h2, h3⟩ := run_prepend w B z d hz sl l2 o.type hB hi hl
  unfold Oper.wp execOp
  simp only [ho, resolve, invoke, builtin, Sem.run_bind, Sem.run_pure, Result.andThen_ok, List.map_toArray, List.map_cons, List.map_nil, hs, hx, hr]
  exact h u w' h2 h3

/-- At a step of a region that draws its order. -/
theorem step_prepend {w : World} {ops : Array Oper} {o : Oper} {a : Act} {K : Act → World → Prop} {Q : Exit → Act → World → Prop} {E : Prop} (hgd : o.guard = none) (s x : Operand)
    (ho : o.op = .call { callee := .builtin .append, args := #[s, x], argTypes := #[28, 28] }) (B : Nat) (z : Int) (d : Nat) (sl : Sl) (l2 : List Nat) (hs : a.eval s = .slice (some ⟨B, 0, none⟩) 1 1) (hx : a.eval x = .slice sl.ao sl.n sl.c)
    (hz : z = (d : Int)) (hB : w.heap[B]? = some (.cells #[.int .i64 z] 3 (0, 0))) (hi : IntsAt w 3 .i64 sl l2) (hl : (1 + l2.length) * 8 ≤ 140737488355328)
    (h : ∀ (u : Sl) (w' : World), Own w' B 3 .i64 (.slice u.ao u.n u.c) (d :: l2) → Below B w w' → K (a.put o.dst (.slice u.ao u.n u.c)) w') :
    if Region.wanted o (yielded ops a.tmps) = true then Oper.wp Try.prog o a w K Q else E := by
  have hw : Region.wanted o (yielded ops a.tmps) = true := by simp [Region.wanted, hgd]
  rw [if_pos hw]
  exact wp_prepend s x ho B z d sl l2 hs hx hz hB hi hl h

end Go.Proofs.Ytahfnbbdhhehhaa
