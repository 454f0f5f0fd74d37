/- nat: Div whole; Gcd. nat: Parse. slices: Reverse of bytes. nat: Text. -/
import Derived.Test.YtaafmafdnnjmdaaProg
import Derived.Test.YtaafmafdnnjmdaaNatV
import Derived.Test.YtaafmafdnnjmdaaNatM
import Derived.Deep.LoopGhost
import Derived.Test.YtaafmafdnnjmdaaNatU
import Derived.Test.YtaafmafdnnjmdaaMaths
import Derived.Deep.DeepCutAuto
import Derived.Lib.Strings
import Derived.Deep.RegionWith
import Derived.Test.YtaafmafdnnjmdaaBase
import Derived.Lib.Hide
import Derived.Laws.IdiomStrings
import Derived.Deep.CutBlock
set_option linter.unusedSimpArgs false
set_option linter.unusedVariables false
namespace Go.Proofs.Ytaafmafdnnjmdaa
open Go.RowKit

/-- The quotient and the rest. -/
theorem div_spec {w : World} {s t : Sl} {x y : Nat} (h : NatS w s x) (h' : NatS w t y) (hn : s.n ≤ 100000000000) (hm : t.n ≤ 100000000000) (hy : 0 < y) :
    Calls Try.prog 116 #[.agg #[.slice s.ao s.n s.c], .agg #[.slice t.ao t.n t.c]] w fun e w' =>
      ∃ u v : Sl, e = .returned (.tuple #[.agg #[.slice u.ao u.n u.c], .agg #[.slice v.ao v.n v.c], .int .i64 0]) ∧ NatS w' u (x / y) ∧ NatS w' v (x % y) ∧ u.n ≤ s.n ∧ v.n ≤ s.n ∧ v.n ≤ t.n ∧ Below w.heap.size w w' := by
  rcases Nat.lt_or_ge x y with hxy | hxy
  · refine (div_less h h' (by omega) (by omega) hxy).mono ?_
    rintro e w' ⟨rfl, hb⟩
    have e1 : x / y = 0 := Nat.div_eq_of_lt hxy
    have e2 : x % y = x := Nat.mod_eq_of_lt hxy
    rw [e1, e2]
    exact ⟨⟨none, 0, 0⟩, s, rfl, NatS.nil _ _ _ (by omega), h.up hb, Nat.zero_le _, Nat.le_refl _, h.n_le h' (by omega), hb⟩
  · have ht0 : t.n ≠ 0 := by
      have := h'.zero_iff
      omega
    by_cases ht1 : t.n = 1
    · refine (div_one h h' (by omega) ht1 hxy).mono ?_
      rintro e w' ⟨u, v, rfl, hu, hv, _, _, hb⟩
      exact ⟨u, v, rfl, hu, hv, hu.n_le h (Nat.div_le_self _ _), hv.n_le h (Nat.mod_le _ _), hv.n_le h' (Nat.le_of_lt (Nat.mod_lt _ hy)), hb⟩
    · obtain ⟨r, g1, g2, g3, g4⟩ := id h'
      obtain ⟨b, off, hao, _, _⟩ := g1.open (by omega)
      obtain ⟨tao, tn, tc⟩ := t
      simp only at hao ht0 ht1 hm
      subst hao
      obtain ⟨m, rfl⟩ : ∃ m, tn = m + 2 := ⟨tn - 2, by omega⟩
      subst g4
      refine (div_walk h b off m tc r g1 g2 g3 hn (by omega) hxy).mono ?_
      rintro e w' ⟨u, v, rfl, hu, hv, hb⟩
      exact ⟨u, v, rfl, hu, hv, hu.n_le h (Nat.div_le_self _ _), hv.n_le h (Nat.mod_le _ _), hv.n_le h' (Nat.le_of_lt (Nat.mod_lt _ hy)), hb⟩

/-- Both numbers, on their way down. -/
def GcdRel (w : World) (G B : Nat) (k : Nat) (wr : World) : Prop := ∃ (sa sb : Sl) (a : Nat),
  wr.heap[w.heap.size]? = some (.cells #[.slice sa.ao sa.n sa.c] 44 (0, 0)) ∧ wr.heap[w.heap.size + 1]? = some (.cells #[.slice sb.ao sb.n sb.c] 44 (0, 0)) ∧
  wr.heap[w.heap.size + 1 + 1]? = some (.cells #[.slice none 0 0] 44 (0, 0)) ∧ NatS wr sa a ∧ NatS wr sb k ∧ Nat.gcd a k = G ∧ sa.n ≤ B ∧ sb.n ≤ B ∧ Below w.heap.size w wr

set_option maxHeartbeats 1600000 in
theorem gcd_spec {w : World} {s t : Sl} {x y : Nat} (h : NatS w s x) (h' : NatS w t y) (hn : s.n ≤ 100000000000) (hm : t.n ≤ 100000000000) :
    Calls Try.prog 109 #[.agg #[.slice s.ao s.n s.c], .agg #[.slice t.ao t.n t.c]] w fun e w' =>
      ∃ u : Sl, e = .returned (.agg #[.slice u.ao u.n u.c]) ∧ NatS w' u (Nat.gcd x y) ∧ u.n ≤ max s.n t.n ∧ Below w.heap.size w w' := by
  have hE := ents3 w (.cells #[.slice s.ao s.n s.c] 44) (.cells #[.slice t.ao t.n t.c] 44) (.cells #[.slice none 0 0] 44)
  have hbx : Below w.heap.size w _ := (((Below.refl w.heap.size w).alloc (Nat.le_refl _) (.cells #[.slice s.ao s.n s.c] 44)).alloc (by simp) (.cells #[.slice t.ao t.n t.c] 44)).alloc (by simp; omega) (.cells #[.slice none 0 0] 44)
  have hinit : GcdRel w (Nat.gcd x y) (max s.n t.n) y _ := ⟨s, t, x, hE.1, hE.2.1, hE.2.2.1, h.up hbx, h'.up hbx, rfl, by omega, by omega, hbx⟩
  have hB : max s.n t.n ≤ 100000000000 := by omega
  generalize max s.n t.n = B at *
  clear hE hbx
  go_enter Try.func109, Try.ntmps109
  go_wp2
  go_loopg [8] y (fun k _ wr => GcdRel w (Nat.gcd x y) B k wr)
  case atStart => exact hinit
  case round =>
    obtain ⟨sa, sb, a, hE1, hE2, hE3, ha, hb, hg, hna, hnb, hbl⟩ := hrel
    have hA := ent_cell hE1 0
    have hC := ent_cell hE2 0
    have hws : w.heap.size + 1 + 1 < wr.heap.size := ent_lt hE3
    have HG := Lib.hid hg; clear hg
    by_cases h0 : 0 < sb.n
    · have hk0 : 0 < gk := by have := hb.zero_iff; omega
      go_wp2_with (go_at_call 116; refine (div_spec ha hb (by omega) (by omega) hk0).mono ?_; rintro e w2 ⟨u, v, rfl, hu, hv, hun, hvn, hvn2, hb2⟩; have hF1 := ent_up hb2 hE1; have hF2 := ent_up hb2 hE2; have hF3 := ent_up hb2 hE3; clear hA hC)
      have hbX : Below w2.heap.size w2 ((w2.alloc (.cells #[.slice u.ao u.n u.c] 44)).alloc (.cells #[.slice v.ao v.n v.c] 44)) := ((Below.refl _ _).alloc (Nat.le_refl _) _).alloc (by simp) _
      have hX := ents2 w2 (.cells #[.slice u.ao u.n u.c] 44) (.cells #[.slice v.ao v.n v.c] 44)
      have K1 := ent_up hbX hF1
      have K2 := ent_up hbX hF2
      have K3 := ent_up hbX hF3
      have hv' := hv.up hbX
      have hb' := (hb.up hb2).up hbX
      have hblX : Below w.heap.size w ((w2.alloc (.cells #[.slice u.ao u.n u.c] 44)).alloc (.cells #[.slice v.ao v.n v.c] 44)) := (hbl.trans (hb2.mono hbl.size)).trans (hbX.mono (by have := hbl.size; have := hb2.size; omega))
      have hw2 : w.heap.size + 1 < w2.heap.size := by have := hb2.size; omega
      have hcX := ent_cell hX.2.1 0
      generalize hXd : ((w2.alloc (.cells #[.slice u.ao u.n u.c] 44)).alloc (.cells #[.slice v.ao v.n v.c] 44)) = X at *
      have hA := ent_cell K1 0
      have hAf := ent_frozen K1 0
      have hC := ent_cell K2 0
      have hCf := ent_frozen K2 0
      clear hXd hX hbX hE1 hE2 hE3 hF1 hF2 hF3 ha
      go_region
      all_goals (
        go_wp2
        go_roundg (a % gk)
        case measure => exact Nat.mod_lt _ hk0
        case rel =>
          refine ⟨sb, v, gk, ?_, ?_, ?_, ?_, ?_, ?_, hnb, by omega, ?_⟩
          · exact ent_set_other (ent_set K1 _) (by simp) _
          · exact ent_set (ent_set_other K2 (by simp) _) _
          · exact ent_set_other (ent_set_other K3 (by simp; omega) _) (by simp) _
          · exact (hb'.kp ((Kp.refl _).setCell K1 (by decide) _)).kp ((Kp.refl _).setCell (ent_set_other K2 (by simp) _) (by decide) _)
          · exact (hv'.kp ((Kp.refl _).setCell K1 (by decide) _)).kp ((Kp.refl _).setCell (ent_set_other K2 (by simp) _) (by decide) _)
          · rw [Nat.gcd_comm, ← Nat.gcd_rec, Nat.gcd_comm]; exact HG.out
          · exact (hblX.drew.setCell (by simp) _).setCell (by simp) _)
    · have hk0 : gk = 0 := by have := hb.zero_iff; omega
      subst hk0
      have hR := ent_cell hE3 0
      have hRf := ent_frozen hE3 0
      go_wp2
      refine bodyPost_ret (v := .agg #[.slice sa.ao sa.n sa.c]) (by simp [results, Try.results109, go_sem, hR]) rfl ⟨sa, rfl, ?_, hna, hbl.setCell (by simp; omega) _⟩
      have := HG.out
      rw [Nat.gcd_zero_right] at this
      rw [← this]
      exact ha.kp ((Kp.refl _).setCell hE3 (by decide) _)

end Go.Proofs.Ytaafmafdnnjmdaa

namespace Go.Proofs.Ytaafmafdnnjmdaa
open Go.RowKit

/-- The bytes of a text, as numbers. -/
def bs (s : ByteArray) : List Nat := s.data.toList.map fun b => b.toNat

end Go.Proofs.Ytaafmafdnnjmdaa

namespace Go.Proofs.Ytaafmafdnnjmdaa
open Go.RowKit

/-- After k swaps. -/
def RevAt (l p : List Nat) (k : Nat) : Prop := p.length = l.length ∧ 2 * k ≤ l.length + 1 ∧ ∀ i, i < l.length → dg p i = if i < k ∨ l.length ≤ i + k then dg l (l.length - 1 - i) else dg l i

theorem RevAt.done {l p : List Nat} {k : Nat} (h : RevAt l p k) (hk : l.length ≤ 2 * k + 1) : p = l.reverse := by
  obtain ⟨h1, h2, h3⟩ := h
  apply List.ext_getElem (by simp [h1])
  intro i hi _
  have hi' : i < l.length := by omega
  have := h3 i hi'
  rw [dg_of hi] at this
  rw [this, List.getElem_reverse]
  split
  · rw [dg_of (by omega)]
  · rename_i hn
    rw [dg_of hi']
    congr 1
    omega

end Go.Proofs.Ytaafmafdnnjmdaa

namespace Go.Proofs.Ytaafmafdnnjmdaa
open Go.RowKit

/-- What is written already, and what is still to come. -/
def TextAt (x z : Nat) (o : List Nat) : Prop := o ++ (dl z).map (· + 48) = (dl x).map (· + 48)

theorem TextAt.len {x z : Nat} {o : List Nat} (h : TextAt x z o) : o.length ≤ (dl x).length := by
  have := congrArg List.length h
  simp at this
  omega

end Go.Proofs.Ytaafmafdnnjmdaa
