/- The reference: Small, Div. -/
import Derived.Test.YtahfnbbdhhehhaaProg
import Derived.Test.YtahfnbbdhhehhaaRefF
import Derived.Test.YtahfnbbdhhehhaaPrep
import Derived.Deep.RegionWith
import Derived.Deep.RegionLaw
import Derived.Deep.DeepCutAuto
import Derived.Deep.LoopGhost
namespace Go.Proofs.Ytahfnbbdhhehhaa
open Go.RowKit

theorem rof_v (k : Nat) (v : Int) (w : World) (hv : v = (k : Int)) (hk : k < 18446744073709551616) :
    Calls Try.prog 25 #[.int .u64 v] w fun e w' =>
      ∃ u : Sl, e = .returned (.agg #[.slice u.ao u.n u.c]) ∧ RefS w' u k ∧ u.n ≤ 5 ∧ Below w.heap.size w w' := by
  subst hv
  exact rof_spec k w hk



theorem box_set' {W : World} {k : Nat} {v0 : Value} {T : TypeId} (h : W.heap[k]? = some (.cells #[v0] T (0, 0))) (v : Value) : (W.setCell ⟨k, 0, none⟩ v).heap[k]? = some (.cells #[v] T (0, 0)) := ent_set h v
theorem box_cell' {w : World} {b : Nat} {v : Value} {T : TypeId} (h : w.heap[b]? = some (.cells #[v] T (0, 0))) : w.cell? ⟨b, 0, none⟩ = some v := ent_cell h 0

set_option maxHeartbeats 800000 in
theorem rsmall_spec {w : World} {s : Sl} {x : Nat} (k : Nat) (v : Int) (hv : v = (k : Int)) (hk : k < 1000000) (h : RefS w s x) (hn : s.n ≤ 1000000000) :
    Calls Try.prog 53 #[.agg #[.slice s.ao s.n s.c], .int .i64 v] w fun e w' =>
      ∃ u : Sl, e = .returned (.agg #[.slice u.ao u.n u.c]) ∧ RefS w' u (x * k) ∧ u.n ≤ s.n + 5 ∧ Below w.heap.size w w' := by
  subst hv
  obtain ⟨hE1, hE2, _⟩ := ents2 w (.cells #[.slice s.ao s.n s.c] 30) (.cells #[.slice none 0 0] 30)
  have hbx : Below w.heap.size w ((w.alloc (.cells #[.slice s.ao s.n s.c] 30)).alloc (.cells #[.slice none 0 0] 30)) := ((Below.refl _ _).alloc (Nat.le_refl _) _).alloc (by simp) _
  have hx := h.up hbx
  have hA := ent_cell hE1 0
  have hwk : IntKind.u64.wrap (k : Int) = (k : Int) := IntWalk.u64_in _ (by omega)
  have HWK := Lib.hid hwk; clear hwk
  go_enter Try.func53, Try.ntmps53
  go_wp2
  generalize ((w.alloc (.cells #[.slice s.ao s.n s.c] 30)).alloc (.cells #[.slice none 0 0] 30)) = W at *
  have hx0 : RefS W.drew s x := hx
  have hE1d : W.drew.heap[w.heap.size]? = some (.cells #[.slice s.ao s.n s.c] 30 (0, 0)) := hE1
  have hE2d : W.drew.heap[w.heap.size + 1]? = some (.cells #[.slice none 0 0] 30 (0, 0)) := hE2
  have hbd := hbx.drew
  clear hx hE1 hE2 hbx
  go_region_with (first
    | (go_at_call 25; refine (rof_v k _ _ HWK.out (by omega)).mono ?_; rintro e w1 ⟨o, rfl, ho, hon, hb1⟩; have hx1 := hx0.up hb1; have hA1 := ent_cell (ent_up hb1 hE1d) 0; have hE21 := ent_up hb1 hE2d)
    | (go_at_call 30; refine (rmul_spec hx1 ho (by omega) (by omega)).mono ?_; rintro e w2 ⟨u, rfl, hu, hun, hb2⟩; have hF := ent_up hb2 hE21; have hc := ent_cell hF 0; have hcf := ent_frozen hF 0))
  all_goals go_wp2
  all_goals (
    have hb12 := (hbd.trans (hb1.mono hbd.size)).trans (hb2.mono (Nat.le_trans hbd.size hb1.size))
    have hq := box_cell' (box_set' hF (.slice u.ao u.n u.c))
    refine bodyPost_ret (v := .agg #[.slice u.ao u.n u.c]) (by simp [results, Try.results53, go_sem, hq]) rfl ⟨u, rfl, hu.kp ((Kp.refl _).setCell (a := ⟨w.heap.size + 1, 0, none⟩) hF (by decide) _), by omega, hb12.setCell (by simp) _⟩)

end Go.Proofs.Ytahfnbbdhhehhaa
