/- Paths of points: the contract of outline's corners. -/
import Derived.Test.YtaafmafdnnjmdaaOy
import Derived.Laws.StructEq
set_option linter.unusedSimpArgs false
set_option linter.unusedVariables false
namespace Go.Proofs.Ytaafmafdnnjmdaa
open Go.RowKit Go.IntWalk

abbrev dpc (d : Dp) : List Value := [.int .i64 d.x, .int .i64 d.y]
theorem dp_one (d : Dp) : ∀ u ∈ dpc d, u.oneCell' = true := by
  intro u hu
  simp only [List.mem_cons, List.not_mem_nil, or_false] at hu
  rcases hu with rfl | rfl <;> rfl
theorem dp_len : ∀ l : List Dp, (l.flatMap dpc).length = l.length * 2
  | [] => rfl
  | d :: r => by rw [List.flatMap_cons, List.length_append, dp_len r]; simp; omega
theorem dp_at {l : List Dp} : ∀ {k : Nat} (h : k < l.length) {j : Nat} {v : Value}, (dpc (l[k]'h))[j]? = some v → (l.flatMap dpc)[k * 2 + j]? = some v := by
  induction l with
  | nil => intro k h; simp at h
  | cons e r ih =>
    intro k h j v hv
    have hj : j < 2 := (List.getElem?_eq_some_iff.1 hv).1
    cases k with
    | zero =>
      rw [List.flatMap_cons, List.getElem?_append_left (by simp; omega), show 0 * 2 + j = j by omega]
      exact hv
    | succ k =>
      rw [List.flatMap_cons, List.getElem?_append_right (by simp; omega), show (k + 1) * 2 + j - (dpc e).length = k * 2 + j by simp; omega]
      exact ih (by simpa using h) hv
theorem dp_snoc (l : List Dp) (d : Dp) : (d :: l).reverse.flatMap dpc = l.reverse.flatMap dpc ++ dpc d := by
  rw [List.reverse_cons, List.flatMap_append]
  simp
theorem dp_last {cur : List Value} {l : Dp} {r : List Dp} (h : cur.take ((r.length + 1) * 2) = (l :: r).reverse.flatMap dpc) : (cur.drop (r.length * 2)).take 2 = dpc l := by
  have h1 : (cur.take ((r.length + 1) * 2)).drop (r.length * 2) = dpc l := by
    rw [h, dp_snoc, List.drop_append_of_le_length (by rw [dp_len]; simp), List.drop_eq_nil_of_le (by rw [dp_len]; simp)]
    rfl
  rw [List.drop_take, show (r.length + 1) * 2 - r.length * 2 = 2 by omega] at h1
  exact h1
theorem dp_pop {cur : List Value} {l : Dp} {r : List Dp} (h : cur.take ((r.length + 1) * 2) = (l :: r).reverse.flatMap dpc) : cur.take (r.length * 2) = r.reverse.flatMap dpc := by
  have h1 : (cur.take ((r.length + 1) * 2)).take (r.length * 2) = cur.take (r.length * 2) := by rw [List.take_take, Nat.min_eq_left (by omega)]
  rw [← h1, h, dp_snoc, List.take_append_of_le_length (by rw [dp_len]; simp), List.take_of_length_le (by rw [dp_len]; simp)]

/-- A structure of two ints. -/
def okDp (P : Program) (t : TypeId) : Bool := (match P.underlying t with | some (.struct _) => true | _ => false) && !P.stoodInHeld t && (match (P.fieldsOf t).toList with
  | [f, g] => f.name != "_" && g.name != "_" && Nat.beq f.offset 0 && Nat.beq g.offset 1 && (match P.underlying f.type with | some (.int _) => true | _ => false) && (match P.underlying g.type with | some (.int _) => true | _ => false)
  | _ => false)
theorem run_eq_dp {P : Program} (w : World) (t : TypeId) (h : okDp P t = true) (a b c d : Int) :
    (Op.equal t (.agg #[.int .i64 a, .int .i64 b]) (.agg #[.int .i64 c, .int .i64 d])).run P w = .ok (a == c && b == d) w := by
  unfold okDp at h
  simp only [Bool.and_eq_true] at h
  obtain ⟨⟨h1, h2⟩, h3⟩ := h
  have ht : P.underlying t = some (.struct (P.fieldsOf t)) := by
    unfold Program.fieldsOf
    cases hu : P.underlying t with
    | none => rw [hu] at h1; simp at h1
    | some u =>
      rw [hu] at h1
      cases u <;> simp at h1 ⊢
  have hp : P.stoodInHeld t = false := by simpa using h2
  show (Op.equalIn (9999 + 1) t _ _).run P w = _
  rw [run_equalIn_agg w 9999 t _ _ ht hp]
  split at h3
  · rename_i f g hfg
    rw [hfg]
    simp only [Bool.and_eq_true, bne_iff_ne, ne_eq] at h3
    obtain ⟨⟨⟨⟨⟨n1, n2⟩, o1⟩, o2⟩, u1⟩, u2⟩ := h3
    have o1' := Nat.eq_of_beq_eq_true o1
    have o2' := Nat.eq_of_beq_eq_true o2
    obtain ⟨k1, hk1⟩ : ∃ k, P.underlying f.type = some (.int k) := by
      cases hu : P.underlying f.type with
      | none => rw [hu] at u1; simp at u1
      | some u => rw [hu] at u1; cases u <;> simp at u1 ⊢
    obtain ⟨k2, hk2⟩ : ∃ k, P.underlying g.type = some (.int k) := by
      cases hu : P.underlying g.type with
      | none => rw [hu] at u2; simp at u2
      | some u => rw [hu] at u2; cases u <;> simp at u2 ⊢
    have e1 := run_equalIn_int (P := P) w 9998 f.type .i64 k1 a c hk1
    have e2 := run_equalIn_int (P := P) w 9998 g.type .i64 k2 b d hk2
    have p1 : ∀ (x y : Value), (part f.type #[x, y] 0).run P w = .ok x w := fun x y => by simp [part, run_isAgg hk1, aggD]
    have p2 : ∀ (x y : Value), (part g.type #[x, y] 1).run P w = .ok y w := fun x y => by simp [part, run_isAgg hk2, aggD]
    simp only [Op.eqFields, n1, n2, ne_eq, not_false_eq_true, if_true, o1', o2', Sem.run_bind, p1, p2, Result.andThen_ok, e1, Sem.run_ite, Sem.run_pure, e2]
    cases (a == c) <;> cases (b == d) <;> rfl
  · simp at h3
theorem beq_dp (l p : Dp) : (l.x == p.x && l.y == p.y) = decide (l = p) := by
  by_cases h : l = p
  · subst h; simp
  · rw [decide_eq_false h]
    rw [Bool.and_eq_false_iff]
    by_cases hx : l.x = p.x
    · right
      simp only [beq_eq_false_iff_ne]
      exact fun hy => h (Dp.eq_iff.2 ⟨hx, hy⟩)
    · left
      simpa using hx
def readNe (e : Ev) : Option (TypeId × Value × Value) :=
  match e with
  | .read o c => match o.op with
    | .binOp .neq t x y _ => match c.s.ev x, c.s.ev y with
      | .val a, .val b => some (t, a, b)
      | _, _ => none
    | _ => none
  | _ => none
theorem Grow.own {z : Nat} {O : List (Nat × List Value)} {v : Value} {n : Nat} {xs : List Value} (h : Grow z O v n xs) (hn : 0 < n) : ∃ g cap cur, v = .slice (some ⟨g, 0, none⟩) n cap ∧ O = [(g, cur)] ∧ n ≤ cap ∧ cap ≤ maxLen ∧ cur.length = cap * z ∧ cur.take (n * z) = xs := by
  rcases h.2 with ⟨_, h0, _⟩ | h
  · omega
  · exact h
theorem Grow.zero {z : Nat} {O : List (Nat × List Value)} {v : Value} {xs : List Value} (h : Grow z O v 0 xs) : ∃ ao c, v = .slice ao 0 c := by
  rcases h.2 with ⟨rfl, _, _⟩ | ⟨g, cap, cur, rfl, _⟩
  · exact ⟨none, 0, rfl⟩
  · exact ⟨_, _, rfl⟩
theorem Grow.cast {z : Nat} {O : List (Nat × List Value)} {v : Value} {n n' : Nat} {xs xs' : List Value} (hx : xs = xs') (hn : n = n') (h : Grow z O v n xs) : Grow z O v n' xs' := by
  subst hx hn
  exact h
theorem corn_mem : ∀ (pts : List Dp) (s : List Dp × List Dp) {Q : Dp → Prop}, (∀ q ∈ s.1, q ∈ pts ∨ Q q) → ∀ q ∈ (pts.foldl push s).1, q ∈ pts ∨ Q q
  | [], s, Q, h, q, hq => h q hq
  | p :: r, s, Q, h, q, hq => by
    have := corn_mem r (push s p) (Q := fun q => q = p ∨ Q q) (fun q hq => ?_) q hq
    · rcases this with h1 | h1 | h1
      · exact .inl (List.mem_cons_of_mem _ h1)
      · exact .inl (by rw [h1]; exact List.mem_cons_self)
      · exact .inr h1
    · have hin : q = p ∨ q ∈ s.1 := by
        obtain ⟨R, w⟩ := s
        match R with
        | [] => simp only [push, List.mem_cons, List.not_mem_nil, or_false] at hq; exact .inl hq
        | l :: r' =>
          simp only [push] at hq
          split at hq
          · exact .inr hq
          · split at hq
            · rcases List.mem_cons.1 hq with h1 | h1
              · exact .inl h1
              · exact .inr (List.mem_cons_of_mem _ h1)
            · rcases List.mem_cons.1 hq with h1 | h1
              · exact .inl h1
              · exact .inr h1
      rcases hin with h1 | h1
      · exact .inr (.inl h1)
      · rcases h q h1 with h2 | h2
        · rcases List.mem_cons.1 h2 with h3 | h3
          · exact .inr (.inl h3)
          · exact .inl h3
        · exact .inr (.inr h2)
theorem corn_len : ∀ (pts : List Dp) (s : List Dp × List Dp), (pts.foldl push s).1.length ≤ s.1.length + pts.length
  | [], s => by simp
  | p :: r, s => by
    have h1 := corn_len r (push s p)
    have h2 : (push s p).1.length ≤ s.1.length + 1 := by
      obtain ⟨R, w⟩ := s
      match R with
      | [] => simp [push]
      | l :: r' =>
        simp only [push]
        split
        · simp
        · split <;> simp
    simp only [List.foldl_cons, List.length_cons]
    omega
structure CSt where
  i : Nat
  z : Int
  vo : Value
  vw : Value
  Oo : List (Nat × List Value)
  Ow : List (Nat × List Value)
  R : List Dp
  W : List Dp

section
variable {T : Tb} {P : Program} {fin : VS → List Fact → Prop} {c : Cfg} {Γ : List Fact}
/-- Are two of two ints the same? -/
theorem W.eqp (D : List Nat) (t : TypeId) (l p : Dp) (h : readEq (vstep T (Go.Proofs.Ytaafmafdnnjmdaa.runs T D 999 c)) = some (t, dv l, dv p)) (hg : P.eqGuardType P.depth t = false) (ho : okDp P t = true)
    (hk : W T P fin (resume (vstep T (Go.Proofs.Ytaafmafdnnjmdaa.runs T D 999 c)) (.bool (decide (l = p)))) Γ) : W T P fin c Γ := by
  refine W.runs D 999 ?_
  generalize Go.Proofs.Ytaafmafdnnjmdaa.runs T D 999 c = c1 at *
  unfold readEq at h
  split at h
  · rename_i o c' he
    rw [he] at hk
    split at h
    · rename_i ty u v yt hop
      split at h
      · rename_i a b ha hb
        simp only [Option.some.injEq, Prod.mk.injEq] at h
        obtain ⟨rfl, rfl, rfl⟩ := h
        refine W.read _ he (.any ?_) hk
        intro w
        have hr := run_eq_dp w ty ho l.x l.y p.x p.y
        rw [beq_dp] at hr
        simp [execOp, hop, rho_val ha, rho_val hb, eqGuard, binOp, hr, hg]
      · simp at h
    · simp at h
  · simp at h
/-- Are two of two ints not the same? -/
theorem W.nep (D : List Nat) (t : TypeId) (l p : Dp) (h : readNe (vstep T (Go.Proofs.Ytaafmafdnnjmdaa.runs T D 999 c)) = some (t, dv l, dv p)) (hg : P.eqGuardType P.depth t = false) (ho : okDp P t = true)
    (hk : W T P fin (resume (vstep T (Go.Proofs.Ytaafmafdnnjmdaa.runs T D 999 c)) (.bool (!decide (l = p)))) Γ) : W T P fin c Γ := by
  refine W.runs D 999 ?_
  generalize Go.Proofs.Ytaafmafdnnjmdaa.runs T D 999 c = c1 at *
  unfold readNe at h
  split at h
  · rename_i o c' he
    rw [he] at hk
    split at h
    · rename_i ty u v yt hop
      split at h
      · rename_i a b ha hb
        simp only [Option.some.injEq, Prod.mk.injEq] at h
        obtain ⟨rfl, rfl, rfl⟩ := h
        refine W.read _ he (.any ?_) hk
        intro w
        have hr := run_eq_dp w ty ho l.x l.y p.x p.y
        rw [beq_dp] at hr
        simp [execOp, hop, rho_val ha, rho_val hb, eqGuard, binOp, hr, hg]
      · simp at h
    · simp at h
  · simp at h
/-- The first part of a slice that starts its block. -/
theorem W.slz (D : List Nat) (z b r len cap : Nat) (y : Int) (hy : y = r) (hT : T.Ok P) (h : readSls T (vstep T (Go.Proofs.Ytaafmafdnnjmdaa.runs T D 999 c)) = some (z, .slice (some ⟨b, 0, none⟩) len cap, none, some (.int .i64 y))) (hrs : r ≤ cap) (h0 : 0 < cap)
    (hk : W T P fin (resume (vstep T (Go.Proofs.Ytaafmafdnnjmdaa.runs T D 999 c)) (.slice (some ⟨b, 0, none⟩) r cap)) Γ) : W T P fin c Γ := by
  subst hy
  refine W.sls D z b 0 len cap none (some (.int .i64 (r : Int))) 0 r hT h (.inr ⟨rfl, rfl⟩) (.inl rfl) (Nat.zero_le _) hrs h0 ?_
  rw [Nat.zero_mul, Nat.sub_zero, Nat.sub_zero]
  exact hk
theorem RA.rdn (b off : Nat) {xs : List Value} [h : Has (RA (some ⟨b, off, none⟩)) xs Γ] (k : Nat) {cs : List Value} (hv : ∀ (j : Nat) (v : Value), cs[j]? = some v → xs[k + j]? = some v) : ∀ I w, DataOK T I w → Holds Γ I w → ∀ j v, cs[j]? = some v → w.cell? ⟨b, off + k + j, none⟩ = some v := fun I w _ hh j v hj => by
  rw [Nat.add_assoc]
  exact RA.cell (h.p hh) (hv j v hj)
theorem entRA' {ao : Option Addr} {xs : List Value} [h : Has (RA ao) xs Γ] : ∀ I w, DataOK T I w → Holds Γ I w → Holds [RA ao xs] I w := fun I w _ hh => Holds.cons (h.p hh) (Holds.nil _ _)
/-- A row that grew is given away, ahead of others. -/
theorem W.pubgs {s : VS} {k : List It} {z n : Nat} {O1 O2 : List (Nat × List Value)} {v : Value} {xs : List Value} (hs : s.own = O1 ++ O2) (hg : Grow z O1 v n xs) (hm : midOps k = false)
    (hk : ∀ ao c, v = .slice ao n c → W T P fin ⟨⟨s.tmps, s.boxes, O2⟩, k⟩ (RA ao xs :: Γ)) : W T P fin ⟨s, k⟩ Γ := by
  obtain ⟨hl, hg⟩ := hg
  rcases hg with ⟨rfl, rfl, rfl⟩ | ⟨g, cap, cur, rfl, rfl, hnc, hcm, hcs, htk⟩
  · obtain rfl : xs = [] := List.eq_nil_of_length_eq_zero (by simpa using hl)
    obtain ⟨tm, bx, ow⟩ := s
    simp only [List.nil_append] at hs
    subst hs
    exact W.elim (α := Unit) (fun _ => True) (fun _ => [RA none []]) hm (fun I w _ hh => ⟨(), trivial, holds1 (RA.nil _ _ _)⟩) (fun _ _ => hk none 0 rfl)
  · refine W.pub (O1 := []) (O2 := O2) (b := g) (cs := cur) hm hs ?_
    refine W.elim (α := Unit) (fun _ => True) (fun _ => [RA (some ⟨g, 0, none⟩) xs]) hm (fun I w _ hh => ⟨(), trivial, holds1 (RA.of_row hh.h0' fun i v hv => ?_)⟩) (fun _ _ => ?_)
    · rw [← htk, List.getElem?_take] at hv
      split at hv
      · exact hv
      · simp at hv
    · refine W.sub hm (fun I w _ hh => ?_) (hk _ _ rfl)
      exact Holds.cons hh.h0' (fun F hF => hh F (by simp [hF]))
end
section
variable {Γ : List Fact} {L M : Nat}
--<co
set_option maxHeartbeats 4000000 in
theorem p_corners (ao : Option Addr) (n c : Nat) (pts : List Dp) [Has (RA ao) (pts.flatMap dpc) Γ] (hn : n = pts.length) (hn2 : n ≤ 8191) (hb : ∀ p ∈ pts, inD 2147483648 p) :
    PCalls tb Try.prog 27 [.slice ao n c] Γ (fun v Δ => ∃ (a1 a2 : Option Addr) (c1 c2 : Nat), v = .tuple #[.slice a1 (corn pts).1.length c1, .slice a2 (corn pts).2.length c2] ∧ Δ = [RA a1 ((corn pts).1.reverse.flatMap dpc), RA a2 ((corn pts).2.reverse.flatMap dpc)]) := by
  refine PCalls.of_W tbOk Try.func27 rfl (by kernel_rfl) ?_
  refine W.lpo [] [4, 5, 12] (fun a : CSt => [(4, a.vo), (5, a.vw), (12, .int .i64 a.z)]) (fun _ => []) (fun a => a.Oo ++ a.Ow) (fun _ => [RA ao (pts.flatMap dpc)]) (fun a => a.z = a.i ∧ a.i ≤ n ∧ (a.R, a.W) = corn (pts.take a.i) ∧ Grow 2 a.Oo a.vo a.R.length (a.R.reverse.flatMap dpc) ∧ Grow 2 a.Ow a.vw a.W.length (a.W.reverse.flatMap dpc)) (fun a => n - a.i) ⟨0, 0, .slice none 0 0, .slice none 0 0, [], [], [], []⟩ (by kernel_rfl) (by kernel_rfl) ⟨rfl, Nat.zero_le _, rfl, Grow.nil 2, Grow.nil 2⟩ entRA' ?_
  rintro ⟨i, z, vo, vw, Oo, Ow, R, U⟩ K ⟨hz, hi, hRW, hgo, hgw⟩ close
  simp only at hz hi hRW hgo hgw
  by_cases hlt : i < n
  rotate_left
  · have hin : i = n := by omega
    have hall : pts.take i = pts := List.take_of_length_le (by omega)
    rw [hall] at hRW
    rw [← hRW]
    refine W.pubgs (O1 := Oo) (O2 := Ow) rfl hgo rfl (fun a1 c1 h1 => ?_)
    refine W.pubgs (O1 := Ow) (O2 := []) (List.append_nil _).symm hgw rfl (fun a2 c2 h2 => ?_)
    subst h1 h2
    refine W.df [] 13 (decide (z < (n : Int))) (by kernel_rfl) (decide_eq_false (by omega)) ?_
    exact W.r [13] (.tuple #[.slice a1 R.length c1, .slice a2 U.length c2]) (by kernel_rfl) ⟨a1, a2, c1, c2, rfl, rfl⟩ (entAll (Δ := [_]) (Δ' := [_]) entRA' entRA')
  have hil : i < pts.length := by omega
  have hstep : corn (pts.take (i + 1)) = push (R, U) (pts[i]'hil) := by
    rw [hRW, List.take_succ_eq_append_getElem hil]
    simp only [corn, List.foldl_append, List.foldl_cons, List.foldl_nil]
  have hok : CornOk R U := by
    have := corn_ok (pts.take i) ([], []) rfl
    rw [show (pts.take i).foldl push ([], []) = (R, U) from hRW.symm] at this
    exact this
  have hlen := hok.len
  have hpb := hb _ (List.getElem_mem hil)
  have hRb : ∀ q ∈ R, inD 2147483648 q := fun q hq => by
    have := corn_mem (pts.take i) ([], []) (Q := fun _ => False) (fun q hq => absurd hq (by simp)) q (by rw [show (pts.take i).foldl push ([], []) = (R, U) from hRW.symm]; exact hq)
    exact hb q (List.mem_of_mem_take (by simpa using this))
  have hRn : R.length ≤ i := by
    have := corn_len (pts.take i) ([], [])
    rw [show (pts.take i).foldl push ([], []) = (R, U) from hRW.symm] at this
    simp only [List.length_nil, List.length_take] at this
    omega
  have hz1 : IntKind.i64.wrap (z + 1) = ((i + 1 : Nat) : Int) := by rw [IntKind.wrap_i64]; omega
  have hcells : ∀ (j : Nat) (v : Value), (dpc (pts[i]'hil))[j]? = some v → (pts.flatMap dpc)[i * 2 + j]? = some v := fun j v hv => dp_at hil hv
  generalize hp : pts[i]'hil = p at *
  refine W.ra ao rfl (by intro e; have := dp_len pts; rw [e] at this; simp at this; omega) (fun ba of e => ?_)
  subst e
  refine W.dt [] 13 (decide (z < (n : Int))) (by kernel_rfl) (decide_eq_true (by omega)) ?_
  refine W.ia [13] 2 ba of n c .i64 i z hz tbOk (by kernel_rfl) hlt ?_
  refine W.lds [] ba (of + i * 2) (dpc p) tbOk (by kernel_rfl) (RA.rdn ba of (i * 2) hcells) ?_
  match R, U, hok, hlen, hgo, hgw, hRb, hRn, hRW, hstep with
  | [], U, hok, hlen, hgo, hgw, hRb, hRn, hRW, hstep =>
    obtain rfl : U = [] := hok
    rcases hgo.zero with ⟨ao0, co0, rfl⟩
    refine W.unr [] 3 (by kernel_rfl) ?_
    refine W.df [] 19 (decide (((0 : Nat) : Int) > 0)) (by kernel_rfl) (by decide) ?_
    refine W.bs [19] 1 (dpc p) tbOk (by kernel_rfl) (fun b2 => ?_)
    refine W.app [] (Oo ++ Ow) [] Oo Ow 2 16 0 1 (.slice ao0 0 co0) (.slice (some ⟨b2, 0, none⟩) 1 1) [] (dpc p) tbOk (by kernel_rfl) (by simp) hgo (reads_row b2 (Oo ++ Ow) 1 2 rfl 1) (dp_one _) (by omega) (by decide) (fun vo' Oo' ho' => ?_)
    refine close [] _ _ ⟨i + 1, IntKind.i64.wrap (z + 1), vo', vw, Oo', Ow, [p], []⟩ (by kernel_rfl) (by simp only [List.nil_append, List.append_nil]; kernel_rfl) ⟨hz1, hlt, by rw [hstep]; rfl, ho', hgw⟩ (by simp only; omega) entRA'
  | l :: r, U, hok, hlen, hgo, hgw, hRb, hRn, hRW, hstep =>
    have hlb := hRb l (by simp)
    have hN : (l :: r).length = r.length + 1 := rfl
    rw [hN] at hgo hRn
    obtain ⟨g1, k1, cur1, rfl, rfl, hk1, hm1, hl1, ht1⟩ := hgo.own (by omega)
    have hlast := dp_last ht1
    have hpop := dp_pop ht1
    refine W.unr [] 3 (by kernel_rfl) ?_
    refine W.dt [] 19 (decide (((r.length + 1 : Nat) : Int) > 0)) (by kernel_rfl) (decide_eq_true (by omega)) ?_
    refine W.ia [19] 2 g1 0 (r.length + 1) k1 .i64 r.length (IntKind.i64.wrap (((r.length + 1 : Nat) : Int) - 1)) (by rw [IntKind.wrap_i64]; omega) tbOk (by kernel_rfl) (by omega) ?_
    refine W.ldo [] ([(g1, cur1)] ++ Ow) g1 (0 + r.length * 2) 2 cur1 (dpc l) tbOk (by kernel_rfl) (by simp) (by rw [Nat.zero_add]; exact hlast) rfl ?_
    refine W.eqp [] 25 l p (by kernel_rfl) (by kernel_rfl) (by kernel_rfl) ?_
    by_cases hlp : l = p
    · refine W.dt [] 28 (decide (l = p)) (by kernel_rfl) (decide_eq_true hlp) ?_
      refine close [28] _ _ ⟨i + 1, IntKind.i64.wrap (z + 1), .slice (some ⟨g1, 0, none⟩) (r.length + 1) k1, vw, [(g1, cur1)], Ow, l :: r, U⟩ (by kernel_rfl) (by kernel_rfl) ⟨hz1, hlt, ?_, hgo, hgw⟩ (by simp only; omega) entRA'
      rw [hstep]
      simp only [push, if_pos hlp]
    refine W.df [] 28 (decide (l = p)) (by kernel_rfl) (decide_eq_false hlp) ?_
    refine W.ia [28] 2 g1 0 (r.length + 1) k1 .i64 r.length (IntKind.i64.wrap (((r.length + 1 : Nat) : Int) - 1)) (by rw [IntKind.wrap_i64]; omega) tbOk (by kernel_rfl) (by omega) ?_
    refine W.ldo [] ([(g1, cur1)] ++ Ow) g1 (0 + r.length * 2) 2 cur1 (dpc l) tbOk (by kernel_rfl) (by simp) (by rw [Nat.zero_add]; exact hlast) rfl ?_
    refine W.cl [] (by kernel_rfl) (p_between l p hlb hpb hlp) ?_
    rintro _ _ ⟨rfl, rfl⟩
    match r, U, hok, hlen, hgo, hgw, hk1, ht1, hpop, hRb, hRn, hstep with
    | [], U, hok, hlen, hgo, hgw, hk1, ht1, hpop, hRb, hRn, hstep =>
      obtain rfl : U = [] := hok
      rcases hgw.zero with ⟨aw0, cw0, rfl⟩
      refine W.dt [] 38 (decide (((([] : List Dp).length + 1 : Nat) : Int) < 2)) (by kernel_rfl) (by decide) ?_
      refine W.bs [46, 38] 1 (dpc (wayv l p)) tbOk (by kernel_rfl) (fun b1 => ?_)
      refine W.app [] ([(g1, cur1)] ++ Ow) [(g1, cur1)] Ow [] 2 16 0 1 (.slice aw0 0 cw0) (.slice (some ⟨b1, 0, none⟩) 1 1) [] (dpc (wayv l p)) tbOk (by kernel_rfl) (by simp) hgw (reads_row b1 ([(g1, cur1)] ++ Ow) 1 2 rfl 1) (dp_one _) (by omega) (by decide) (fun vw' Ow' hw' => ?_)
      refine W.bs [] 1 (dpc p) tbOk (by kernel_rfl) (fun b2 => ?_)
      refine W.app [] ([(g1, cur1)] ++ Ow' ++ []) [] [(g1, cur1)] (Ow' ++ []) 2 16 (([] : List Dp).length + 1) 1 (.slice (some ⟨g1, 0, none⟩) (([] : List Dp).length + 1) k1) (.slice (some ⟨b2, 0, none⟩) 1 1) ([l].reverse.flatMap dpc) (dpc p) tbOk (by kernel_rfl) (by simp) hgo (reads_row b2 ([(g1, cur1)] ++ Ow' ++ []) 1 2 rfl 1) (dp_one _) (by omega) (by decide) (fun vo' Oo' ho' => ?_)
      refine close [] _ _ ⟨i + 1, IntKind.i64.wrap (z + 1), vo', vw', Oo', Ow', p :: [l], [wayv l p]⟩ (by kernel_rfl) (by simp only [List.nil_append, List.append_nil]; kernel_rfl) ⟨hz1, hlt, ?_, Grow.cast (dp_snoc _ _).symm rfl ho', Grow.cast (dp_snoc _ _).symm rfl hw'⟩ (by simp only; omega) entRA'
      rw [hstep]
      simp only [push, if_neg hlp, List.head?_nil, reduceCtorEq, if_false]
    | a :: r2, U, ⟨d, v, hW, hal, hd, hv, hok2⟩, hlen, hgo, hgw, hk1, ht1, hpop, hRb, hRn, hstep =>
      subst hW
      have hab := hRb a (by simp)
      have hRn' : r2.length + 2 ≤ i := hRn
      have hll : (a :: r2).length = r2.length + 1 := rfl
      have hlen2 : v.length = r2.length := by simp at hlen; omega
      rw [show (d :: v).length = v.length + 1 from rfl] at hgw
      obtain ⟨g2, k2, cur2, rfl, rfl, hk2, hm2, hl2, ht2⟩ := hgw.own (by omega)
      have hlast2 := dp_last ht2
      have hpop2 := dp_pop ht2
      refine W.df [] 38 (decide ((((a :: r2).length + 1 : Nat) : Int) < 2)) (by kernel_rfl) (decide_eq_false (by simp only [List.length_cons]; omega)) ?_
      refine W.ia [38] 2 g2 0 (v.length + 1) k2 .i64 v.length (IntKind.i64.wrap ((((a :: r2).length + 1 : Nat) : Int) - 2)) (by simp only [List.length_cons, IntKind.wrap_i64]; omega) tbOk (by kernel_rfl) (by omega) ?_
      refine W.ldo [38] ([(g1, cur1)] ++ [(g2, cur2)]) g2 (0 + v.length * 2) 2 cur2 (dpc d) tbOk (by kernel_rfl) (by simp) (by rw [Nat.zero_add]; exact hlast2) rfl ?_
      refine W.nep [38] 84 d (wayv l p) (by kernel_rfl) (by kernel_rfl) (by kernel_rfl) ?_
      by_cases hdw : d = wayv l p
      rotate_left
      · refine W.dt [38] 46 (!decide (d = wayv l p)) (by kernel_rfl) (by rw [decide_eq_false hdw]; rfl) ?_
        refine W.bs [46] 1 (dpc (wayv l p)) tbOk (by kernel_rfl) (fun b1 => ?_)
        refine W.app [] ([(g1, cur1)] ++ [(g2, cur2)]) [(g1, cur1)] [(g2, cur2)] [] 2 16 (v.length + 1) 1 (.slice (some ⟨g2, 0, none⟩) (v.length + 1) k2) (.slice (some ⟨b1, 0, none⟩) 1 1) ((d :: v).reverse.flatMap dpc) (dpc (wayv l p)) tbOk (by kernel_rfl) (by simp) hgw (reads_row b1 ([(g1, cur1)] ++ [(g2, cur2)]) 1 2 rfl 1) (dp_one _) (by omega) (by decide) (fun vw' Ow' hw' => ?_)
        refine W.bs [] 1 (dpc p) tbOk (by kernel_rfl) (fun b2 => ?_)
        refine W.app [] ([(g1, cur1)] ++ Ow' ++ []) [] [(g1, cur1)] (Ow' ++ []) 2 16 ((a :: r2).length + 1) 1 (.slice (some ⟨g1, 0, none⟩) ((a :: r2).length + 1) k1) (.slice (some ⟨b2, 0, none⟩) 1 1) ((l :: a :: r2).reverse.flatMap dpc) (dpc p) tbOk (by kernel_rfl) (by simp) hgo (reads_row b2 ([(g1, cur1)] ++ Ow' ++ []) 1 2 rfl 1) (dp_one _) (by omega) (by decide) (fun vo' Oo' ho' => ?_)
        refine close [] _ _ ⟨i + 1, IntKind.i64.wrap (z + 1), vo', vw', Oo', Ow', p :: l :: a :: r2, wayv l p :: d :: v⟩ (by kernel_rfl) (by simp only [List.nil_append, List.append_nil]; kernel_rfl) ⟨hz1, hlt, ?_, Grow.cast (dp_snoc _ _).symm rfl ho', Grow.cast (dp_snoc _ _).symm rfl hw'⟩ (by simp only; omega) entRA'
        rw [hstep]
        simp only [push, if_neg hlp, List.head?_cons, Option.some.injEq, if_neg hdw]
      have hj := CornOk.back (l := l) (a := a) (r := r2) (w := d :: v) ⟨d, v, rfl, hal, hd, hv, hok2⟩ hlp (by rw [List.head?_cons, hdw])
      obtain ⟨hap, hwap, _⟩ := hj
      have hgo2 : Grow 2 [(g1, cur1)] (.slice (some ⟨g1, 0, none⟩) (a :: r2).length k1) (a :: r2).length ((a :: r2).reverse.flatMap dpc) := ⟨by rw [dp_len]; simp, .inr ⟨g1, k1, cur1, rfl, rfl, by omega, hm1, hl1, hpop⟩⟩
      have hgw2 : Grow 2 [(g2, cur2)] (.slice (some ⟨g2, 0, none⟩) v.length k2) v.length (v.reverse.flatMap dpc) := ⟨by rw [dp_len]; simp, .inr ⟨g2, k2, cur2, rfl, rfl, by omega, hm2, hl2, hpop2⟩⟩
      have hlast3 := dp_last hpop
      refine W.df [38] 46 (!decide (d = wayv l p)) (by kernel_rfl) (by rw [decide_eq_true hdw]; rfl) ?_
      refine W.slz [46] 2 g1 (a :: r2).length ((a :: r2).length + 1) k1 (IntKind.i64.wrap ((((a :: r2).length + 1 : Nat) : Int) - 1)) (by simp only [List.length_cons, IntKind.wrap_i64]; omega) tbOk (by kernel_rfl) (by omega) (by omega) ?_
      refine W.slz [] 2 g2 v.length (v.length + 1) k2 (IntKind.i64.wrap ((((a :: r2).length + 1 : Nat) : Int) - 2)) (by simp only [List.length_cons, IntKind.wrap_i64]; omega) tbOk (by kernel_rfl) (by omega) (by omega) ?_
      refine W.dt [] 19 (decide ((((a :: r2).length : Nat) : Int) > 0)) (by kernel_rfl) (decide_eq_true (by simp only [List.length_cons]; omega)) ?_
      refine W.ia [19] 2 g1 0 (a :: r2).length k1 .i64 r2.length (IntKind.i64.wrap ((((a :: r2).length : Nat) : Int) - 1)) (by simp only [List.length_cons, IntKind.wrap_i64]; omega) tbOk (by kernel_rfl) (by simp only [List.length_cons]; omega) ?_
      refine W.ldo [] ([(g1, cur1)] ++ [(g2, cur2)]) g1 (0 + r2.length * 2) 2 cur1 (dpc a) tbOk (by kernel_rfl) (by simp) (by rw [Nat.zero_add]; exact hlast3) rfl ?_
      refine W.eqp [] 25 a p (by kernel_rfl) (by kernel_rfl) (by kernel_rfl) ?_
      refine W.df [] 28 (decide (a = p)) (by kernel_rfl) (decide_eq_false hap) ?_
      refine W.ia [28] 2 g1 0 (a :: r2).length k1 .i64 r2.length (IntKind.i64.wrap ((((a :: r2).length : Nat) : Int) - 1)) (by simp only [List.length_cons, IntKind.wrap_i64]; omega) tbOk (by kernel_rfl) (by simp only [List.length_cons]; omega) ?_
      refine W.ldo [] ([(g1, cur1)] ++ [(g2, cur2)]) g1 (0 + r2.length * 2) 2 cur1 (dpc a) tbOk (by kernel_rfl) (by simp) (by rw [Nat.zero_add]; exact hlast3) rfl ?_
      refine W.cl [] (by kernel_rfl) (p_between a p hab hpb hap) ?_
      rintro _ _ ⟨rfl, rfl⟩
      have hend : push (l :: a :: r2, d :: v) p = (p :: a :: r2, wayv a p :: v) := by
        simp only [push, if_neg hlp, List.head?_cons, Option.some.injEq, if_pos hdw]
        rw [hwap, hdw]
      match r2, v, hlen2, hgo2, hgw2, hok2, hpop2, hl2, ht2, hv, hend, hRn', hstep with
      | [], v, hlen2, hgo2, hgw2, hok2, hpop2, hl2, ht2, hv, hend, hRn', hstep =>
        obtain rfl : v = [] := List.eq_nil_of_length_eq_zero hlen2
        refine W.dt [] 38 (decide ((([a].length : Nat) : Int) < 2)) (by kernel_rfl) (decide_eq_true (by simp)) ?_
        refine W.bs [46, 38] 1 (dpc (wayv a p)) tbOk (by kernel_rfl) (fun b1 => ?_)
        refine W.app [] ([(g1, cur1)] ++ [(g2, cur2)]) [(g1, cur1)] [(g2, cur2)] [] 2 16 0 1 (.slice (some ⟨g2, 0, none⟩) 0 k2) (.slice (some ⟨b1, 0, none⟩) 1 1) [] (dpc (wayv a p)) tbOk (by kernel_rfl) (by simp) hgw2 (reads_row b1 ([(g1, cur1)] ++ [(g2, cur2)]) 1 2 rfl 1) (dp_one _) (by omega) (by decide) (fun vw' Ow' hw' => ?_)
        refine W.bs [] 1 (dpc p) tbOk (by kernel_rfl) (fun b2 => ?_)
        refine W.app [] ([(g1, cur1)] ++ Ow' ++ []) [] [(g1, cur1)] (Ow' ++ []) 2 16 [a].length 1 (.slice (some ⟨g1, 0, none⟩) [a].length k1) (.slice (some ⟨b2, 0, none⟩) 1 1) ([a].reverse.flatMap dpc) (dpc p) tbOk (by kernel_rfl) (by simp) hgo2 (reads_row b2 ([(g1, cur1)] ++ Ow' ++ []) 1 2 rfl 1) (dp_one _) (by omega) (by decide) (fun vo' Oo' ho' => ?_)
        refine close [] _ _ ⟨i + 1, IntKind.i64.wrap (z + 1), vo', vw', Oo', Ow', p :: [a], [wayv a p]⟩ (by kernel_rfl) (by simp only [List.nil_append, List.append_nil]; kernel_rfl) ⟨hz1, hlt, ?_, Grow.cast (dp_snoc _ _).symm rfl ho', Grow.cast (dp_snoc _ _).symm rfl hw'⟩ (by simp only; omega) entRA'
        rw [hstep]
        rw [hend]
      | a3 :: r3, v, hlen2, hgo2, hgw2, ⟨d3, v3, hv3, _⟩, hpop2, hl2, ht2, hv, hend, hRn', hstep =>
        subst hv3
        have hlast4 := dp_last hpop2
        have hne3 : d3 ≠ wayv a p := fun e => by
          rw [hwap, ← hdw] at e
          exact hv (by rw [List.head?_cons, e])
        simp only [List.length_cons] at hlen2
        have hR3 : r3.length + 3 ≤ i := hRn'
        have hl3 : (a :: a3 :: r3).length = r3.length + 2 := rfl
        have hl4 : (d3 :: v3).length = v3.length + 1 := rfl
        refine W.df [] 38 (decide ((((a :: a3 :: r3).length : Nat) : Int) < 2)) (by kernel_rfl) (decide_eq_false (by simp only [List.length_cons]; omega)) ?_
        refine W.ia [38] 2 g2 0 (d3 :: v3).length k2 .i64 v3.length (IntKind.i64.wrap ((((a :: a3 :: r3).length : Nat) : Int) - 2)) (by simp only [List.length_cons, IntKind.wrap_i64]; omega) tbOk (by kernel_rfl) (by simp only [List.length_cons]; omega) ?_
        refine W.ldo [38] ([(g1, cur1)] ++ [(g2, cur2)]) g2 (0 + v3.length * 2) 2 cur2 (dpc d3) tbOk (by kernel_rfl) (by simp) (by rw [Nat.zero_add]; exact hlast4) rfl ?_
        refine W.nep [38] 84 d3 (wayv a p) (by kernel_rfl) (by kernel_rfl) (by kernel_rfl) ?_
        refine W.dt [38] 46 (!decide (d3 = wayv a p)) (by kernel_rfl) (by rw [decide_eq_false hne3]; rfl) ?_
        refine W.bs [46] 1 (dpc (wayv a p)) tbOk (by kernel_rfl) (fun b1 => ?_)
        refine W.app [] ([(g1, cur1)] ++ [(g2, cur2)]) [(g1, cur1)] [(g2, cur2)] [] 2 16 (d3 :: v3).length 1 (.slice (some ⟨g2, 0, none⟩) (d3 :: v3).length k2) (.slice (some ⟨b1, 0, none⟩) 1 1) ((d3 :: v3).reverse.flatMap dpc) (dpc (wayv a p)) tbOk (by kernel_rfl) (by simp) hgw2 (reads_row b1 ([(g1, cur1)] ++ [(g2, cur2)]) 1 2 rfl 1) (dp_one _) (by omega) (by decide) (fun vw' Ow' hw' => ?_)
        refine W.bs [] 1 (dpc p) tbOk (by kernel_rfl) (fun b2 => ?_)
        refine W.app [] ([(g1, cur1)] ++ Ow' ++ []) [] [(g1, cur1)] (Ow' ++ []) 2 16 (a :: a3 :: r3).length 1 (.slice (some ⟨g1, 0, none⟩) (a :: a3 :: r3).length k1) (.slice (some ⟨b2, 0, none⟩) 1 1) ((a :: a3 :: r3).reverse.flatMap dpc) (dpc p) tbOk (by kernel_rfl) (by simp) hgo2 (reads_row b2 ([(g1, cur1)] ++ Ow' ++ []) 1 2 rfl 1) (dp_one _) (by omega) (by decide) (fun vo' Oo' ho' => ?_)
        refine close [] _ _ ⟨i + 1, IntKind.i64.wrap (z + 1), vo', vw', Oo', Ow', p :: a :: a3 :: r3, wayv a p :: d3 :: v3⟩ (by kernel_rfl) (by simp only [List.nil_append, List.append_nil]; kernel_rfl) ⟨hz1, hlt, ?_, Grow.cast (dp_snoc _ _).symm rfl ho', Grow.cast (dp_snoc _ _).symm rfl hw'⟩ (by simp only; omega) entRA'
        rw [hstep]
        rw [hend]
-->co
end
end Go.Proofs.Ytaafmafdnnjmdaa
