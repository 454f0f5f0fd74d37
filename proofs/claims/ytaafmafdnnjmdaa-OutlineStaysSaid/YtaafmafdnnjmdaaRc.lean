
/- The contracts of the reference's numbers with two roots. -/
import Derived.Test.YtaafmafdnnjmdaaSu
set_option linter.unusedSimpArgs false
set_option linter.unusedVariables false
namespace Go.Proofs.Ytaafmafdnnjmdaa
open Go.RowKit Go.IntWalk

/-- Quotients of the reference in rows. -/
structure PE where
  x : Pw
  q : Rat
def PR : Rowed PE where
  z := 4
  cells e := [.int .i64 e.x.n, .slice e.x.a.ao e.x.a.n e.x.a.c, .int .i64 e.x.m, .slice e.x.b.ao e.x.b.n e.x.b.c]
  len _ := rfl
  fact L e := PG e.x (L, e.q)
def psum (l : List PE) : Rat := (l.map (·.q)).foldl (· + ·) 0
theorem psum_snoc (l : List PE) (e : PE) : psum (l ++ [e]) = psum l + e.q := by unfold psum; rw [List.map_append, List.foldl_append]; rfl
section
variable {fin : VS → List Fact → Prop} {Γ : List Fact} {L M K : Nat}
theorem entTz {Z : Tw} {p q r s : Pw} {L0 L1 L2 L3 L4 L' : Nat} {T S : Sn} {a b c d : Rat} [h0 : Has (TF Z) (L0, T) Γ] [h1 : Has (PG p) (L1, a) Γ] [h2 : Has (PG q) (L2, b) Γ] [h3 : Has (PG r) (L3, c) Γ] [h4 : Has (PG s) (L4, d) Γ]
    (em : T.m = S.m) (en : T.n = S.n) (ea : a = S.p) (eb : b = S.q) (ec : c = S.r) (ed : d = S.s) (hL : L0 ≤ L' ∧ L1 ≤ L' ∧ L2 ≤ L' ∧ L3 ≤ L' ∧ L4 ≤ L') : ∀ (I : Blk) (w : World), DataOK tb I w → Holds Γ I w → Holds [TF ⟨Z.d, Z.u, Z.e, Z.v, p, q, r, s⟩ (L', S)] I w := fun I w _ hh => by
  obtain ⟨g1, g2, _⟩ := h0.p hh
  subst ea eb ec ed
  have g1 : (YF Z.d Z.u (L0, T.m)).p I w := g1
  have g2 : (YF Z.e Z.v (L0, T.n)).p I w := g2
  rw [em] at g1
  rw [en] at g2
  exact holds1 ⟨YF.up2 g1 hL.1, YF.up2 g2 hL.1, PF.up2 (h1.p hh) hL.2.1, PF.up2 (h2.p hh) hL.2.2.1, PF.up2 (h3.p hh) hL.2.2.2.1, PF.up2 (h4.p hh) hL.2.2.2.2⟩
theorem s_frac (a b : Int) (hb : 0 < b) (h1 : -9223372036854775808 ≤ a) (h2 : a < 9223372036854775808) (h3 : b < 9223372036854775808) :
    PCalls tb Try.prog 35 [.int .i64 a, .int .i64 b] Γ (PPost 6 (Rat.divInt a b)) := by
  refine PCalls.of_W tbOk Try.func35 rfl (by kernel_rfl) ?_
  refine W.cl [] (by kernel_rfl) (p_yof a (by omega) (by omega)) ?_
  rintro _ _ ⟨S1, t1, rfl, rfl⟩   -- a
  refine W.cl [] (by kernel_rfl) (p_yof b (by omega) (by omega)) ?_
  rintro _ _ ⟨S2, t2, rfl, rfl⟩   -- b
  exact W.r [] (pv S1 t1 S2 t2) (by kernel_rfl) ⟨_, _, _, _, rfl, rfl⟩ (entYP (by omega) (by omega) hb rfl)
end
end Go.Proofs.Ytaafmafdnnjmdaa
