/- Arrays that stand in a block of the call's own: parts of them, copies into them, reads. -/
import Derived.Test.YtlpfkbkpnljieaaGreatVx
set_option linter.unusedSimpArgs false
set_option linter.unusedVariables false
namespace Go.Proofs.YtlpfkbkpnljieaaGreat
open Go.RowKit

def readSla (T : Tb) (e : Ev) : Option (Nat × Nat × Value × Option Value × Option Value) :=
  match e with
  | .read o c => match o.op with
    | .slice ty x lo hi none => match T.get ty, c.s.ev x, evo c.s lo, evo c.s hi with
      | some t, .val a, some l, some h => bif (Nat.beq t.kind 4 && !Nat.beq t.esize 0) then some (t.alen, t.esize, a, l, h) else none
      | _, _, _, _ => none
    | _ => none
  | _ => none
def readFa (T : Tb) (e : Ev) : Option (Nat × Value) :=
  match e with
  | .read o c => match o.op with
    | .fieldAddr ty x f => match T.get ty, c.s.ev x with
      | some t, .val a => match t.fields[f]? with
        | some (o, sz, _) => bif Nat.beq sz 0 then none else some (o, a)
        | none => none
      | _, _ => none
    | _ => none
  | _ => none
def readCpy (T : Tb) (e : Ev) : Option (List (Nat × List Value) × Nat × Value × Value) :=
  match e with
  | .own o c => match o.op with
    | .call cl => match cl.callee, cl.args.toList, cl.argTypes.toList with
      | .builtin .copy, [sx, xx], [t1, t2] => match c.s.ev sx, c.s.ev xx, T.get t1 with
        | .val a, .val b, some y1 => bif (Nat.beq y1.kind 3 && !Nat.beq y1.esize 0) then some (c.s.own, y1.esize, a, b) else none
        | _, _, _ => none
      | _, _, _ => none
    | _ => none
  | _ => none
def readOwnLd (T : Tb) (e : Ev) : Option (Bool × Nat × Value × List (Nat × List Value)) :=
  match e with
  | .read o c => match o.op with
    | .load ty x => match T.get ty, c.s.ev x with
      | some t, .val a => some (t.agg, t.size, a, c.s.own)
      | _, _ => none
    | _ => none
  | _ => none

section
variable {T : Tb} {P : Program} {fin : VS → List Fact → Prop} {c : Cfg} {Γ : List Fact}

/-- A part of an array at a known address. -/
theorem W.sla (D : List Nat) (alen z b off : Nat) (lo hi : Option Value) (l r : Nat) (hT : T.Ok P) (h : readSla T (vstep T (Go.Proofs.YtlpfkbkpnljieaaGreat.runs T D 999 c)) = some (alen, z, .pointer (some ⟨b, off, none⟩), lo, hi))
    (hl : lo = some (.int .i64 (l : Int)) ∨ (lo = none ∧ l = 0)) (hr : hi = some (.int .i64 (r : Int)) ∨ (hi = none ∧ r = alen)) (hlr : l ≤ r) (hrs : r ≤ alen) (hla : l < alen)
    (hk : W T P fin (resume (vstep T (Go.Proofs.YtlpfkbkpnljieaaGreat.runs T D 999 c)) (.slice (some ⟨b, off + l * z, none⟩) (r - l) (alen - l))) Γ) : W T P fin c Γ := by
  refine W.runs D 999 ?_
  generalize Go.Proofs.YtlpfkbkpnljieaaGreat.runs T D 999 c = c1 at *
  unfold readSla at h
  split at h
  · rename_i o c' he
    rw [he] at hk
    split at h
    · rename_i ty x lo' hi' hop
      split at h
      · rename_i t a l' h' ht ha hlo hhi
        cases hkd : (Nat.beq t.kind 4 && !Nat.beq t.esize 0) with
        | false => simp [hkd] at h
        | true =>
          simp only [hkd, cond_true, Option.some.injEq, Prod.mk.injEq] at h
          obtain ⟨rfl, rfl, rfl, rfl, rfl⟩ := h
          simp only [Bool.and_eq_true] at hkd
          refine W.read _ he (.any ?_) hk
          intro w
          obtain ⟨hd, hes⟩ := kind_array hT ht (Nat.eq_of_beq_eq_true hkd.1)
          have hie : ∃ ie, P.info? t.elem = some ie ∧ ie.size = t.esize := by
            cases hie : P.info? t.elem with
            | none =>
              simp [hie] at hes
              rw [← hes] at hkd
              simp at hkd
            | some ie => exact ⟨ie, rfl, by simp [hie] at hes; omega⟩
          obtain ⟨ie, hie, hin⟩ := hie
          have hrho : ∀ (q : Option Operand) (z : Option Value), evo c'.s q = some z → q.map c'.s.rho = z := by
            intro q z hq
            cases q with
            | none => simp [evo] at hq; exact hq
            | some x =>
              simp only [evo] at hq
              split at hq
              · rename_i v hv
                injection hq with hq
                subst hq
                simp [rho_val hv]
              · simp at hq
          have hm1 := hrho _ _ hlo
          have hm2 := hrho _ _ hhi
          have hne : ¬ t.alen = l := by omega
          have hla' : l ≤ t.alen := by omega
          simp only [execOp, hop, Instr.sliceAt, Sem.run_bind, run_underlying hd, Result.andThen_ok, rho_val ha, hm1, hm2]
          rcases hl with rfl | ⟨rfl, rfl⟩ <;> rcases hr with rfl | ⟨rfl, rfl⟩ <;> simp [Instr.sureAddr, Instr.sliceBounds, Instr.sliceBound, asIntOf, hlr, hrs, hla', hne, run_size hie, hin, add_spot]
      · simp at h
    · simp at h
  · simp at h

/-- The address of a field, of an address that is known. -/
theorem W.fa (D : List Nat) (ofs b off : Nat) (hT : T.Ok P) (h : readFa T (vstep T (Go.Proofs.YtlpfkbkpnljieaaGreat.runs T D 999 c)) = some (ofs, .pointer (some ⟨b, off, none⟩)))
    (hk : W T P fin (resume (vstep T (Go.Proofs.YtlpfkbkpnljieaaGreat.runs T D 999 c)) (.pointer (some ⟨b, off + ofs, none⟩))) Γ) : W T P fin c Γ := by
  refine W.runs D 999 ?_
  generalize Go.Proofs.YtlpfkbkpnljieaaGreat.runs T D 999 c = c1 at *
  unfold readFa at h
  split at h
  · rename_i o c' he
    rw [he] at hk
    split at h
    · rename_i ty x f hop
      split at h
      · rename_i t a ht ha
        split at h
        · rename_i ofs' sz ag hf
          cases hsz : Nat.beq sz 0 with
          | true => simp [hsz] at h
          | false =>
            simp only [hsz, cond_false, Option.some.injEq, Prod.mk.injEq] at h
            obtain ⟨rfl, rfl⟩ := h
            refine W.read _ he (.any ?_) hk
            intro w
            have hsz' : sz ≠ 0 := by
              rintro rfl
              simp at hsz
            obtain ⟨fs, hd, hfs⟩ := struct_under hT ht (fields_struct hT ht hf)
            rw [hfs, List.getElem?_map] at hf
            cases hff : fs.toList[f]? with
            | none => rw [hff] at hf; simp at hf
            | some fl =>
              rw [hff] at hf
              simp only [Option.map_some, Option.some.injEq, Prod.mk.injEq] at hf
              obtain ⟨hf1, hf2, hf3⟩ := hf
              have hff' : fs[f]? = some fl := by rw [← Array.getElem?_toList]; exact hff
              cases hfi : P.info? fl.type with
              | none => simp [hfi] at hf2; exact absurd hf2.symm hsz'
              | some fi =>
                simp [hfi] at hf2
                have hne : ¬ fi.size = 0 := by rw [hf2]; exact hsz'
                simp [execOp, hop, Instr.fieldAt, run_underlying hd, hff', Instr.sureAddr, rho_val ha, fieldPlace, run_size hfi, hne, add_spot, hf1]
        · simp at h
      · simp at h
    · simp at h
  · simp at h

/-- What lies in a block of the call's own, a row of cells. -/
theorem W.ldo (D : List Nat) (own : List (Nat × List Value)) (b off n : Nat) (row cs : List Value) (hT : T.Ok P) (h : readOwnLd T (vstep T (Go.Proofs.YtlpfkbkpnljieaaGreat.runs T D 999 c)) = some (true, n, .pointer (some ⟨b, off, none⟩), own))
    (hm : (b, row) ∈ own) (hcs : (row.drop off).take n = cs) (hn : cs.length = n)
    (hk : W T P fin (resume (vstep T (Go.Proofs.YtlpfkbkpnljieaaGreat.runs T D 999 c)) (.agg cs.toArray)) Γ) : W T P fin c Γ := by
  refine W.runs D 999 ?_
  generalize Go.Proofs.YtlpfkbkpnljieaaGreat.runs T D 999 c = c1 at *
  unfold readOwnLd at h
  split at h
  · rename_i o c' he
    rw [he] at hk
    split at h
    · rename_i ty u hop
      split at h
      · rename_i t a ht ha
        simp only [Option.some.injEq, Prod.mk.injEq] at h
        obtain ⟨hag, hsz, rfl, rfl⟩ := h
        refine W.read _ he (.look (by simp [memless, hop]) ?_) hk
        intro I w hd hh ho
        obtain ⟨e', _, hblk⟩ := ho b row hm
        obtain ⟨i, d, hi, hdd, hz, hsz', hag', _⟩ := tyOf_some (hT.ty _ _ ht)
        have hl := run_loadCells_list (P := P) w ⟨b, off, none⟩ cs (fun j v hj => by
          rw [add_spot, cell_box hblk]
          rw [← hcs, List.getElem?_take] at hj
          split at hj
          · rw [List.getElem?_drop] at hj; exact hj
          · simp at hj)
        rw [hn, ← hsz, ← hsz'] at hl
        simp only [execOp, hop, Instr.loadAt, Instr.sureAddr, rho_val ha, loadVar, Sem.run_bind, Sem.run_map, Sem.run_pure, Sem.run_ite, Result.andThen_ok, run_isAgg hdd, hag', hag, if_true, run_size hi, hl]
      · simp at h
    · simp at h
  · simp at h

theorem nodup_fst {O1 O2 : List (Nat × List Value)} {g : Nat} {row : List Value} (h : ((O1 ++ (g, row) :: O2).map (·.1)).Nodup) : ∀ b cs, ((b, cs) ∈ O1 ∨ (b, cs) ∈ O2) → b ≠ g := by
  rintro b cs hb rfl
  simp only [List.map_append, List.map_cons, List.nodup_append, List.nodup_cons] at h
  obtain ⟨_, ⟨h2, _⟩, h3⟩ := h
  rcases hb with hb | hb
  · exact h3 _ (List.mem_map.2 ⟨(b, cs), hb, rfl⟩) _ (by simp) rfl
  · exact h2 (List.mem_map.2 ⟨(b, cs), hb, rfl⟩)

/-- copy into a block of the call's own: no more than has room. -/
theorem W.cpy (D : List Nat) (own O1 O2 : List (Nat × List Value)) (z g off dl dc m : Nat) (row : List Value) (x : Value) (news : List Value) (hT : T.Ok P)
    (h : readCpy T (vstep T (Go.Proofs.YtlpfkbkpnljieaaGreat.runs T D 999 c)) = some (own, z, .slice (some ⟨g, off, none⟩) dl dc, x)) (ho : own = O1 ++ (g, row) :: O2) (hx : Reads T Γ own x m z news) (h1 : ∀ u ∈ news, u.oneCell' = true)
    (hm : m ≤ dl) (hfit : off + news.length ≤ row.length)
    (hk : W T P fin (resumeO (vstep T (Go.Proofs.YtlpfkbkpnljieaaGreat.runs T D 999 c)) (O1 ++ (g, row.take off ++ news ++ row.drop (off + news.length)) :: O2) (.int .i64 (m : Nat))) Γ) : W T P fin c Γ := by
  refine W.runs D 999 ?_
  generalize Go.Proofs.YtlpfkbkpnljieaaGreat.runs T D 999 c = c1 at *
  unfold readCpy at h
  split at h
  · rename_i o c' he
    rw [he] at hk
    split at h
    · rename_i cl hop
      split at h
      · rename_i sx xx t1 t2 hcal hargs htys
        split at h
        · rename_i a b y1 ha hbv hy
          cases hc : (Nat.beq y1.kind 3 && !Nat.beq y1.esize 0) with
          | false => simp [hc] at h
          | true =>
            simp only [hc, cond_true, Option.some.injEq, Prod.mk.injEq] at h
            obtain ⟨hown, rfl, rfl, rfl⟩ := h
            simp only [Bool.and_eq_true, Bool.not_eq_true'] at hc
            obtain ⟨c2, c3⟩ := hc
            have hne : y1.esize ≠ 0 := by
              intro e0
              rw [e0] at c3
              simp at c3
            obtain ⟨e, hd, hsz⟩ := kind_slice hT hy (Nat.eq_of_beq_eq_true c2)
            have hie : ∃ ie, P.info? e = some ie ∧ ie.size = y1.esize := by
              cases hie : P.info? e with
              | none => simp [hie] at hsz; exact absurd hsz.symm hne
              | some ie => exact ⟨ie, rfl, by simp [hie] at hsz; omega⟩
            obtain ⟨ie, hie, hin⟩ := hie
            have hcargs : cl.args = #[sx, xx] := by rw [← Array.toList_inj]; exact hargs
            have hctys : cl.argTypes = #[t1, t2] := by rw [← Array.toList_inj]; exact htys
            obtain ⟨ao, cc, rfl, hnl, hrd⟩ := hx
            refine W.own (fun v' Own Δ => v' = .int .i64 (m : Nat) ∧ Own = O1 ++ (g, row.take off ++ news ++ row.drop (off + news.length)) :: O2 ∧ Δ = []) he (fun I w hdo hh hoa hnod _ => ?_) ?_
            · rw [hown] at hoa hnod
              obtain ⟨e', he', hblk⟩ := hoa g row (by rw [ho]; simp)
              have hst := run_storeCells_at P g off e' news 0 row.toArray w hblk (by simpa using hfit) h1
              simp only [Nat.add_zero] at hst
              have hf : (Builtin.firstCells y1.esize m (.slice ao m cc)).run P w = .ok news.toArray w := by
                by_cases hm0 : m = 0
                · subst hm0
                  obtain rfl : news = [] := List.eq_nil_of_length_eq_zero (by simpa using hnl)
                  cases ao <;> simp [Builtin.firstCells, loadCells, loadCellsFrom]
                · obtain ⟨ad, rfl, hrd2⟩ := hrd (by omega)
                  exact run_firstCells_some (P := P) w y1.esize m ad m cc news hnl (hrd2 I w hdo hh hoa)
              have hmin : Nat.min m dl = m := Nat.min_eq_left hm
              have hrun : (Builtin.copy_ #[t1, t2] o.type #[.slice (some ⟨g, off, none⟩) dl dc, .slice ao m cc]).run P w = .ok (goInt m) (w.setRow g (row.take off ++ news ++ row.drop (off + news.length)).toArray) := by
                simp [Builtin.copy_, run_underlying hd, Builtin.lenOf, hmin, run_size hie, hin, hf, hst]
              have hexec : (execOp c'.s.rho o).run P w = .ok (.value (goInt m)) (w.setRow g (row.take off ++ news ++ row.drop (off + news.length)).toArray) := by
                simp [execOp, hop, resolve, invoke, builtin, hcal, hcargs, hctys, rho_val ha, rho_val hbv, hrun]
              refine ⟨_, _, [], _, _, hexec, .inl rfl, ⟨rfl, rfl, rfl⟩, fun q hq _ => ⟨rfl, rfl, rfl, by simp, fun k hk => setRow_other w g k _ (by have := hq g row (by rw [hown, ho]; simp); omega)⟩, by simp, fun k hk hk' => setRow_other w g k _ (by rintro rfl; exact hk' row (by rw [hown, ho]; simp)), fun b cs hb => ?_, fun b cs hb => ?_, ?_, Holds.nil _ _⟩
              · have hother : ((b, cs) ∈ O1 ∨ (b, cs) ∈ O2) → ∃ e, T.dat e = false ∧ (w.setRow g (row.take off ++ news ++ row.drop (off + news.length)).toArray).heap[b]? = some (Obj.cells cs.toArray e (0, 0)) := by
                  intro hb
                  have hbg := nodup_fst (by rw [← ho]; exact hnod) b cs hb
                  obtain ⟨e, he2, hc⟩ := hoa b cs (by rw [ho]; rcases hb with h | h <;> simp [h])
                  exact ⟨e, he2, by rw [setRow_other w g b _ hbg]; exact hc⟩
                rcases List.mem_append.1 hb with hb | hb
                · exact hother (.inl hb)
                · rcases List.mem_cons.1 hb with hb | hb
                  · injection hb with h1' h2'
                    subst h1' h2'
                    exact ⟨e', he', by simpa using setRow_heap w b _ _ e' _ hblk⟩
                  · exact hother (.inr hb)
              · rcases List.mem_append.1 hb with hb | hb
                · exact .inl ⟨cs, by rw [hown, ho]; simp [hb]⟩
                · rcases List.mem_cons.1 hb with hb | hb
                  · injection hb with h1' h2'
                    subst h1' h2'
                    exact .inl ⟨row, by rw [hown, ho]; simp⟩
                  · exact .inl ⟨cs, by rw [hown, ho]; simp [hb]⟩
              · rw [ho] at hnod
                simpa using hnod
            · rintro v' Own Δ ⟨rfl, rfl, rfl⟩
              exact hk
        · simp at h
      · simp at h
    · simp at h
  · simp at h

/-- To where a box stands and no operation is under way. -/
def runRev (T : Tb) (t : Nat) : Nat → Cfg → Cfg
  | 0, c => c
  | n + 1, c => bif ((c.s.boxes.getD t none).isSome && !midOps c.k) then c else match vstep T c with
    | .next c' => runRev T t n c'
    | _ => c
theorem W.toRev (t : Nat) : ∀ (n : Nat) {c : Cfg}, W T P fin (runRev T t n c) Γ → W T P fin c Γ
  | 0, _, h => h
  | n + 1, c, h => by
    unfold runRev at h
    cases hb : ((c.s.boxes.getD t none).isSome && !midOps c.k) with
    | true => simp only [hb, cond_true] at h; exact h
    | false =>
      simp only [hb, cond_false] at h
      split at h
      · rename_i c' hc
        exact W.next hc (W.toRev t n h)
      · exact h
def revOk (t : Nat) (c : Cfg) : Bool := (c.s.boxes.getD t none).isSome && !midOps c.k
/-- A box is known by its number from now on. -/
def revd (t b : Nat) (c : Cfg) : Cfg := ⟨c.s.reveal t b, c.k⟩
theorem W.rev (t : Nat) (h : revOk t (runRev T t 999 c) = true) (hk : ∀ b, W T P fin (revd t b (runRev T t 999 c)) Γ) : W T P fin c Γ := by
  refine W.toRev t 999 ?_
  generalize runRev T t 999 c = c1 at *
  obtain ⟨s, k⟩ := c1
  unfold revOk at h
  rw [Bool.and_eq_true, Bool.not_eq_true'] at h
  exact W.reveal t h.2 h.1 hk
/-- A box is known by its number, and is written no more. -/
def revp (t b : Nat) (c : Cfg) : Cfg := ⟨⟨revealT t b c.s.tmps, c.s.boxes.set t none, c.s.own⟩, c.k⟩
theorem W.revp (t : Nat) (row : List Value) (h : revOk t (runRev T t 999 c) = true) (hr : (runRev T t 999 c).s.boxes.getD t none = some row)
    (hk : ∀ b, W T P fin (Go.Proofs.YtlpfkbkpnljieaaGreat.revp t b (runRev T t 999 c)) (RowF b row :: Γ)) : W T P fin c Γ := by
  refine W.toRev t 999 ?_
  generalize runRev T t 999 c = c1 at *
  obtain ⟨s, k⟩ := c1
  unfold revOk at h
  rw [Bool.and_eq_true, Bool.not_eq_true'] at h
  refine W.reveal t h.2 h.1 (fun b => ?_)
  have e : s.reveal t b = ⟨revealT t b s.tmps, s.boxes.set t none, [] ++ (b, row) :: s.own⟩ := by
    unfold VS.reveal
    rw [hr]
    rfl
  rw [e]
  exact W.pub (O1 := []) (O2 := s.own) (b := b) (cs := row) h.2 rfl (hk b)
/-- A load out of a row. -/
theorem W.ldr (D : List Nat) (b off : Nat) {row : List Value} (cs : List Value) [hr : Has (RowF b) row Γ] (hT : T.Ok P) (h : readLd T (vstep T (Go.Proofs.YtlpfkbkpnljieaaGreat.runs T D 999 c)) = some (true, cs.length, .pointer (some ⟨b, off, none⟩)))
    (hcs : (row.drop off).take cs.length = cs)
    (hk : W T P fin (resume (vstep T (Go.Proofs.YtlpfkbkpnljieaaGreat.runs T D 999 c)) (.agg cs.toArray)) Γ) : W T P fin c Γ :=
  W.lds D b off cs hT h (fun I w _ hh j v hv => by
    rw [rowF_cell (hr.p hh)]
    rw [← hcs, List.getElem?_take] at hv
    split at hv
    · rw [List.getElem?_drop] at hv
      exact hv
    · simp at hv) hk
/-- A call, with facts that follow. -/
theorem W.cx (D : List Nat) {f : FuncId} {args : List Value} {Γ' : List Fact} {post : Value → List Fact → Prop} (h : callOf (vstep T (Go.Proofs.YtlpfkbkpnljieaaGreat.runs T D 999 c)) = some (f, args)) (hs : ∀ I w, DataOK T I w → Holds Γ I w → Holds Γ' I w) (hp : PCalls T P f args (Γ' ++ Γ) post)
    (hk : ∀ v Δ, post v Δ → W T P fin (resume (vstep T (Go.Proofs.YtlpfkbkpnljieaaGreat.runs T D 999 c)) v) (Δ ++ Γ)) : W T P fin c Γ :=
  W.pcall D 999 h hp (fun I w hd hh F hF => by
    rcases List.mem_append.1 hF with h | h
    · exact hs I w hd hh F h
    · exact hh F h) hk
/-- Facts that follow. -/
theorem W.more {Δ : List Fact} (hm : midOps c.k = false) (hs : ∀ I w, DataOK T I w → Holds Γ I w → Holds Δ I w) (hk : W T P fin c (Δ ++ Γ)) : W T P fin c Γ :=
  W.elim (α := Unit) (fun _ => True) (fun _ => Δ) hm (fun I w hd hh => ⟨(), trivial, hs I w hd hh⟩) (fun _ _ => hk)
/-- To where no operation is under way. -/
def runCode (T : Tb) : Nat → Cfg → Cfg
  | 0, c => c
  | n + 1, c => bif midOps c.k then (match vstep T c with
    | .next c' => runCode T n c'
    | _ => c) else c
theorem W.code : ∀ (n : Nat) {c : Cfg}, W T P fin (runCode T n c) Γ → W T P fin c Γ
  | 0, _, h => h
  | n + 1, c, h => by
    unfold runCode at h
    cases hb : midOps c.k with
    | false => simp only [hb, cond_false] at h; exact h
    | true =>
      simp only [hb, cond_true] at h
      split at h
      · rename_i c' hc
        exact W.next hc (W.code n h)
      · exact h
end
end Go.Proofs.YtlpfkbkpnljieaaGreat
