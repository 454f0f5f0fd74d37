/- Paths that are turned by quarters and moved: corners and places. -/
import Derived.Test.YtaafmafdnnjmdaaPv
import Derived.Test.YtaafmafdnnjmdaaQg
import Derived.Test.YtaafmafdnnjmdaaFw
set_option linter.unusedSimpArgs false
set_option linter.unusedVariables false
namespace Go.Proofs.Ytaafmafdnnjmdaa
open Go.RowKit Go.IntWalk

def rotD : Nat → Dp → Dp
  | 0, p => p
  | k + 1, p => rotD k (leftD p)
def movD (q : Nat) (a c : Int) (p : Dp) : Dp := ⟨(rotD q p).x + a, (rotD q p).y + c⟩
theorem rotD_left : ∀ (k : Nat) (p : Dp), rotD k (leftD p) = leftD (rotD k p)
  | 0, _ => rfl
  | k + 1, p => rotD_left k (leftD p)
theorem right_left (p : Dp) : rightD (leftD p) = leftD (rightD p) := Dp.eq_iff.2 ⟨by simp [rightD, leftD], by simp [rightD, leftD]⟩
theorem neg_left (p : Dp) : negD (leftD p) = leftD (negD p) := Dp.eq_iff.2 ⟨by simp [negD, leftD], by simp [negD, leftD]⟩
theorem rotD_right : ∀ (k : Nat) (p : Dp), rotD k (rightD p) = rightD (rotD k p)
  | 0, _ => rfl
  | k + 1, p => by
    show rotD k (leftD (rightD p)) = rightD (rotD k (leftD p))
    rw [← right_left, rotD_right k]
theorem rotD_neg : ∀ (k : Nat) (p : Dp), rotD k (negD p) = negD (rotD k p)
  | 0, _ => rfl
  | k + 1, p => by
    show rotD k (leftD (negD p)) = negD (rotD k (leftD p))
    rw [← neg_left, rotD_neg k]
theorem left_inj {p q : Dp} (h : leftD p = leftD q) : p = q := by
  have := Dp.eq_iff.1 h
  unfold leftD at this
  simp only at this
  exact Dp.eq_iff.2 ⟨this.2, by omega⟩
theorem rotD_inj : ∀ (k : Nat) {p q : Dp}, rotD k p = rotD k q → p = q
  | 0, _, _, h => h
  | k + 1, _, _, h => left_inj (rotD_inj k h)
theorem rotD_zero : ∀ k : Nat, rotD k ⟨0, 0⟩ = ⟨0, 0⟩
  | 0 => rfl
  | k + 1 => rotD_zero k
theorem rotD_sub : ∀ (k : Nat) (p q : Dp), rotD k ⟨q.x - p.x, q.y - p.y⟩ = ⟨(rotD k q).x - (rotD k p).x, (rotD k q).y - (rotD k p).y⟩
  | 0, _, _ => rfl
  | k + 1, p, q => by
    show rotD k (leftD ⟨q.x - p.x, q.y - p.y⟩) = _
    have := rotD_sub k (leftD p) (leftD q)
    have e : leftD ⟨q.x - p.x, q.y - p.y⟩ = ⟨(leftD q).x - (leftD p).x, (leftD q).y - (leftD p).y⟩ := Dp.eq_iff.2 ⟨by simp only [leftD]; omega, by simp only [leftD]⟩
    rw [e, this]
    rfl
theorem rotD_in : ∀ (k : Nat) {B : Int} {p : Dp}, inD B p → inD B (rotD k p)
  | 0, _, _, h => h
  | k + 1, B, p, h => rotD_in k (by unfold inD leftD at *; simp only; omega)
theorem movD_in {q : Nat} {a c B A : Int} {p : Dp} (h : inD B p) (ha : -A ≤ a ∧ a ≤ A) (hc : -A ≤ c ∧ c ≤ A) : inD (B + A) (movD q a c p) := by
  have := rotD_in q h
  unfold inD movD at *
  simp only
  omega
theorem movD_inj {q : Nat} {a c : Int} {p r : Dp} (h : movD q a c p = movD q a c r) : p = r := by
  have := Dp.eq_iff.1 h
  unfold movD at this
  simp only at this
  exact rotD_inj q (Dp.eq_iff.2 ⟨by omega, by omega⟩)
theorem movD_iff {q : Nat} {a c : Int} {p r : Dp} : movD q a c p = movD q a c r ↔ p = r := ⟨movD_inj, fun h => by rw [h]⟩
theorem rotD_iff {q : Nat} {p r : Dp} : rotD q p = rotD q r ↔ p = r := ⟨rotD_inj q, fun h => by rw [h]⟩
theorem gcd_left (v : Dp) : gcdD (leftD v) = gcdD v := by
  unfold gcdD leftD
  simp only [Int.natAbs_neg, Nat.gcd_comm]
theorem dir_left (v : Dp) : dirOf (leftD v) = leftD (dirOf v) := by
  have h := (gcdD_dvd v).2
  unfold dirOf
  rw [gcd_left]
  refine Dp.eq_iff.2 ⟨?_, rfl⟩
  simp only [leftD]
  exact Int.neg_ediv_of_dvd h
theorem dir_rot : ∀ (k : Nat) (v : Dp), dirOf (rotD k v) = rotD k (dirOf v)
  | 0, _ => rfl
  | k + 1, v => by
    show dirOf (rotD k (leftD v)) = rotD k (leftD (dirOf v))
    rw [dir_rot k, dir_left]
theorem way_mov (q : Nat) (a c : Int) (p r : Dp) : wayv (movD q a c p) (movD q a c r) = rotD q (wayv p r) := by
  unfold wayv
  rw [← dir_rot, rotD_sub]
  congr 2 <;> (simp only [movD]; omega)
theorem sq_rot : ∀ (k : Nat) (d : Dp), sqD (rotD k d) = sqD d
  | 0, _ => rfl
  | k + 1, d => by
    show sqD (rotD k (leftD d)) = sqD d
    rw [sq_rot k, (sq_turn d).1]
theorem dot_left (d e : Dp) : dotD (leftD d) (leftD e) = dotD d e := by
  unfold dotD leftD
  simp only [Int.neg_mul_neg]
  omega
theorem dot_rot : ∀ (k : Nat) (d e : Dp), dotD (rotD k d) (rotD k e) = dotD d e
  | 0, _, _ => rfl
  | k + 1, d, e => by
    show dotD (rotD k (leftD d)) (rotD k (leftD e)) = dotD d e
    rw [dot_rot k, dot_left]
theorem push_mov (q : Nat) (a c : Int) (s : List Dp × List Dp) (p : Dp) : push (s.1.map (movD q a c), s.2.map (rotD q)) (movD q a c p) = ((push s p).1.map (movD q a c), (push s p).2.map (rotD q)) := by
  obtain ⟨R, w⟩ := s
  cases R with
  | nil => rfl
  | cons l r =>
    simp only [List.map_cons, push, movD_iff, way_mov, List.head?_map]
    split
    · rfl
    · have e : (Option.map (rotD q) w.head? = some (rotD q (wayv l p))) ↔ (w.head? = some (wayv l p)) := by
        cases w.head? with
        | none => simp
        | some x => simp [rotD_iff]
      by_cases hw : w.head? = some (wayv l p)
      · rw [if_pos hw, if_pos (e.2 hw)]
        rfl
      · rw [if_neg hw, if_neg (fun h => hw (e.1 h))]
        rfl
theorem corn_mov' (q : Nat) (a c : Int) : ∀ (pts : List Dp) (s : List Dp × List Dp), (pts.map (movD q a c)).foldl push (s.1.map (movD q a c), s.2.map (rotD q)) = ((pts.foldl push s).1.map (movD q a c), (pts.foldl push s).2.map (rotD q))
  | [], s => rfl
  | p :: r, s => by
    simp only [List.map_cons, List.foldl_cons, push_mov]
    exact corn_mov' q a c r (push s p)
theorem corn_mov (q : Nat) (a c : Int) (pts : List Dp) : corn (pts.map (movD q a c)) = ((corn pts).1.map (movD q a c), (corn pts).2.map (rotD q)) := corn_mov' q a c pts ([], [])
theorem backs_mov (q : Nat) : ∀ U : List Dp, backs (U.map (rotD q)) = backs U
  | [] => rfl
  | [_] => rfl
  | e :: d :: r => by
    have ih := backs_mov q (d :: r)
    simp only [List.map_cons] at ih
    simp only [List.map_cons, backs, ih]
    congr 1
    have h : rotD q e = ⟨-(rotD q d).x, -(rotD q d).y⟩ ↔ e = ⟨-d.x, -d.y⟩ := by
      show rotD q e = negD (rotD q d) ↔ e = negD d
      rw [← rotD_neg, rotD_iff]
    exact decide_eq_decide.2 h
theorem oerr_mov {pts : List Dp} {width kind bg en : Int} (h : oerr pts width kind bg en = 0) (hs : ∀ p ∈ pts, inD 1000000 p) {q : Nat} {a c : Int} (ha : -1000 ≤ a ∧ a ≤ 1000) (hc : -1000 ≤ c ∧ c ≤ 1000) : oerr (pts.map (movD q a c)) width kind bg en = 0 := by
  obtain ⟨h1, h2, h3, h4, h5⟩ := oerr_zero h
  refine oerr_zero_of ⟨by rw [List.length_map]; exact h1, h2, any_small (k := 1001000) (fun p hp => ?_) (by decide), ?_, ?_⟩
  · obtain ⟨r, hr, rfl⟩ := List.mem_map.1 hp
    exact movD_in (hs r hr) ha hc
  · rw [corn_mov, List.length_map]
    exact h4
  · rw [corn_mov, backs_mov]
    exact h5

/-- A place that is turned by quarters and moved. -/
def movP (q : Nat) (a c : Int) (P : Sn × Sn) : Sn × Sn := ((rot q P.1 P.2).1.add ⟨P.1.m, P.1.n, (a : Rat), 0, 0, 0⟩, (rot q P.1 P.2).2.add ⟨P.1.m, P.1.n, (c : Rat), 0, 0, 0⟩)
def Pa.rt (q : Nat) (u : Pa) : Pa := ⟨rotD q u.d, u.a, u.b, u.c, u.e⟩
theorem neg_add (S T : Sn) : (S.add T).neg = S.neg.add T.neg := Sn.ext' rfl rfl (by simp only [Sn.add, Sn.neg]; grind) (by simp only [Sn.add, Sn.neg]; grind) (by simp only [Sn.add, Sn.neg]; grind) (by simp only [Sn.add, Sn.neg]; grind)
theorem rot_add : ∀ (k : Nat) (S T S' T' : Sn), rot k (S.add S') (T.add T') = ((rot k S T).1.add (rot k S' T').1, (rot k S T).2.add (rot k S' T').2)
  | 0, _, _, _, _ => rfl
  | k + 1, S, T, S', T' => by
    show rot k (T.add T').neg (S.add S') = _
    rw [neg_add, rot_add k]
    rfl
theorem rt_s (m n : Int) : ∀ (k : Nat) (u : Pa), ((u.rt k).sx m n, (u.rt k).sy m n) = rot k (u.sx m n) (u.sy m n)
  | 0, _ => rfl
  | k + 1, u => by
    show (((⟨leftD u.d, u.a, u.b, u.c, u.e⟩ : Pa).rt k).sx m n, ((⟨leftD u.d, u.a, u.b, u.c, u.e⟩ : Pa).rt k).sy m n) = rot k (u.sy m n).neg (u.sx m n)
    rw [rt_s m n k]
    congr 1
    refine Sn.ext' rfl rfl ?_ ?_ ?_ ?_ <;> (simp only [Pa.sx, Pa.sy, Sn.neg, leftD, Rat.intCast_neg]; grind)
theorem rot_int (m n : Int) : ∀ (k : Nat) (p : Dp), rot k ⟨m, n, (p.x : Rat), 0, 0, 0⟩ ⟨m, n, (p.y : Rat), 0, 0, 0⟩ = (⟨m, n, ((rotD k p).x : Rat), 0, 0, 0⟩, ⟨m, n, ((rotD k p).y : Rat), 0, 0, 0⟩)
  | 0, _ => rfl
  | k + 1, p => by
    show rot k (Sn.neg ⟨m, n, (p.y : Rat), 0, 0, 0⟩) ⟨m, n, (p.x : Rat), 0, 0, 0⟩ = _
    have e : (Sn.neg ⟨m, n, (p.y : Rat), 0, 0, 0⟩) = ⟨m, n, ((leftD p).x : Rat), 0, 0, 0⟩ := Sn.ext' rfl rfl (by simp only [Sn.neg, leftD, Rat.intCast_neg]) (by simp only [Sn.neg]; grind) (by simp only [Sn.neg]; grind) (by simp only [Sn.neg]; grind)
    rw [e]
    exact rot_int m n k (leftD p)
theorem rot_mn' (k : Nat) {m n : Int} {X Y : Sn} (h1 : X.m = m) (h2 : X.n = n) (h3 : Y.m = m) (h4 : Y.n = n) : (rot k X Y).1.m = m ∧ (rot k X Y).1.n = n ∧ (rot k X Y).2.m = m ∧ (rot k X Y).2.n = n := rot_mn k h1 h2 h3 h4
theorem mov_step (q : Nat) (a c : Int) (m n : Int) (S T : Sn) (u : Pa) (h1 : S.m = m) (h2 : S.n = n) (h3 : T.m = m) (h4 : T.n = n) :
    ((movP q a c (S, T)).1.add ((u.rt q).sx m n), (movP q a c (S, T)).2.add ((u.rt q).sy m n)) = movP q a c (S.add (u.sx m n), T.add (u.sy m n)) := by
  have e := rt_s m n q u
  have e1 := congrArg Prod.fst e
  have e2 := congrArg Prod.snd e
  simp only at e1 e2
  have r := rot_mn' q h1 h2 h3 h4
  have r' := rot_mn' q (X := u.sx m n) (Y := u.sy m n) (m := m) (n := n) rfl rfl rfl rfl
  rw [e1, e2]
  unfold movP
  simp only [rot_add]
  generalize (rot q S T).1 = A at *
  generalize (rot q S T).2 = B at *
  generalize (rot q (u.sx m n) (u.sy m n)).1 = A' at *
  generalize (rot q (u.sx m n) (u.sy m n)).2 = B' at *
  refine Prod.ext ?_ ?_ <;> (refine Sn.ext' ?_ ?_ ?_ ?_ ?_ ?_ <;> simp only [Sn.add] <;> grind)
theorem mov_fold (q : Nat) (a c : Int) (m n : Int) : ∀ (l : List Pa) (S T : Sn), S.m = m → S.n = n → T.m = m → T.n = n →
    ((l.map (Pa.rt q)).foldl (fun S u => S.add (u.sx m n)) (movP q a c (S, T)).1, (l.map (Pa.rt q)).foldl (fun S u => S.add (u.sy m n)) (movP q a c (S, T)).2) = movP q a c (l.foldl (fun S u => S.add (u.sx m n)) S, l.foldl (fun S u => S.add (u.sy m n)) T)
  | [], S, T, _, _, _, _ => rfl
  | u :: l, S, T, h1, h2, h3, h4 => by
    have h := mov_step q a c m n S T u h1 h2 h3 h4
    have e1 := congrArg Prod.fst h
    have e2 := congrArg Prod.snd h
    simp only at e1 e2
    simp only [List.map_cons, List.foldl_cons]
    rw [e1, e2]
    exact mov_fold q a c m n l _ _ h1 h2 h3 h4
theorem al_mov (q : Nat) (a c : Int) (m n : Int) (p : Dp) (l : List Pa) : al m n (movD q a c p) (l.map (Pa.rt q)) = movP q a c (al m n p l) := by
  have h := mov_fold q a c m n l ⟨m, n, (p.x : Rat), 0, 0, 0⟩ ⟨m, n, (p.y : Rat), 0, 0, 0⟩ rfl rfl rfl rfl
  have e : movP q a c (⟨m, n, (p.x : Rat), 0, 0, 0⟩, ⟨m, n, (p.y : Rat), 0, 0, 0⟩) = (⟨m, n, ((movD q a c p).x : Rat), 0, 0, 0⟩, ⟨m, n, ((movD q a c p).y : Rat), 0, 0, 0⟩) := by
    unfold movP
    simp only [rot_int, movD, Rat.intCast_add]
    refine Prod.ext ?_ ?_ <;> (refine Sn.ext' rfl rfl ?_ ?_ ?_ ?_ <;> simp only [Sn.add] <;> grind)
  rw [e] at h
  exact h
theorem unit_rt (q : Nat) (d : Dp) (x : Rat) : unitP (rotD q d) x = (unitP d x).rt q := by unfold unitP Pa.rt; rw [sq_rot]
theorem slant_rt (q : Nat) (d : Dp) (x : Rat) : slantP (rotD q d) x = (slantP d x).rt q := by unfold slantP Pa.rt; rw [sq_rot]
theorem miter_mov (q : Nat) (a c : Int) (p d e : Dp) (h : Rat) : miterP (movD q a c p) (rotD q d) (rotD q e) h = movP q a c (miterP p d e h) := by
  unfold miterP
  simp only [sq_rot, dot_rot, ← rotD_left]
  exact al_mov q a c (sqD d) (sqD e) p [⟨leftD d, 0, _, _, 0⟩, ⟨leftD e, 0, _, _, 0⟩]
theorem miters_mov (q : Nat) (a c : Int) (h : Rat) : ∀ (C w : List Dp), miters h (C.map (movD q a c)) (w.map (rotD q)) = (miters h C w).map (movP q a c)
  | p :: C, d :: e :: w => by
    have := miters_mov q a c h C (e :: w)
    simp only [List.map_cons] at this
    simp only [List.map_cons, miters, miter_mov, this]
  | [], _ => by simp [miters]
  | _ :: _, [] => by simp [miters]
  | _ :: _, [_] => by simp [miters]
theorem tip_mov (q : Nat) (a c : Int) (p d : Dp) (h b : Rat) (r : Bool) : tipL (movD q a c p) (rotD q d) h b r = (tipL p d h b r).map (movP q a c) := by
  have k : ∀ l : List Pa, al (sqD d) 2 (movD q a c p) (l.map (Pa.rt q)) = movP q a c (al (sqD d) 2 p l) := al_mov q a c (sqD d) 2 p
  unfold tipL
  simp only [sq_rot, ← rotD_left, ← rotD_right, unit_rt, slant_rt]
  have k1 := k [unitP d b, unitP (leftD d) h]
  have k2 := k [unitP d b, unitP (rightD d) h]
  have k3 := k [slantP d h, slantP (leftD d) h]
  have k4 := k [unitP d h]
  have k5 := k [slantP d h, slantP (rightD d) h]
  simp only [List.map_cons, List.map_nil] at k1 k2 k3 k4 k5
  rw [k1, k2, k3, k4, k5]
  cases r <;> rfl
theorem getD_map0 (q : Nat) (l : List Dp) (k : Nat) : (l.map (rotD q)).getD k ⟨0, 0⟩ = rotD q (l.getD k ⟨0, 0⟩) := by
  simp only [List.getD_eq_getElem?_getD, List.getElem?_map]
  cases l[k]? with
  | none => exact (rotD_zero q).symm
  | some x => rfl
theorem getD_mapM (q : Nat) (a c : Int) {l : List Dp} {k : Nat} (hk : k < l.length) : (l.map (movD q a c)).getD k ⟨0, 0⟩ = movD q a c (l.getD k ⟨0, 0⟩) := by
  simp only [List.getD_eq_getElem?_getD, List.getElem?_map, List.getElem?_eq_getElem hk]
  rfl
theorem places_mov (q : Nat) (a c : Int) {C : List Dp} (hC : 0 < C.length) (w : List Dp) (width kind bg en : Int) : places (C.map (movD q a c)) (w.map (rotD q)) width kind bg en = (places C w width kind bg en).map (movP q a c) := by
  unfold places
  simp only [List.length_map, getD_map0, getD_mapM q a c hC, getD_mapM q a c (show C.length - 1 < C.length by omega), ← rotD_neg, tip_mov, ← List.map_tail, miters_mov, List.map_append, List.map_reverse, List.map_drop, List.map_take]

/-- The parts by 1 and root 2. -/
theorem n0_neg (S : Sn) : S.neg.n0 = -S.n0 ∧ S.neg.n1 = -S.n1 := by
  simp only [Sn.n0, Sn.n1, Sn.neg, nm0, nm1]
  constructor <;> grind
theorem n0_add (S : Sn) (m n : Int) (a : Rat) : (S.add ⟨m, n, a, 0, 0, 0⟩).n0 = S.n0 + a ∧ (S.add ⟨m, n, a, 0, 0, 0⟩).n1 = S.n1 := by
  simp only [Sn.n0, Sn.n1, Sn.add, nm0, nm1]
  have c1 : ((1 : Int) : Rat) = 1 := rfl
  constructor <;> grind
/-- The turn by quarters, and the one that stays. -/
def vq (q : Nat) (a c : Int) : On := ⟨false, ((2 * q : Nat) : Int), ((1 : Int) : Rat), (a : Rat), 0, (c : Rat), 0⟩
def vid : On := ⟨false, 0, ((1 : Int) : Rat), 0, 0, 0, 0⟩
theorem vq_mag (q : Nat) (a c : Int) : (vq q a c).mag = 1 := by
  unfold On.mag vq
  simp only
  decide +kernel
theorem vid_mag : vid.mag = 1 := by decide +kernel
theorem four_q {q : Nat} (h : q < 4) : q = 0 ∨ q = 1 ∨ q = 2 ∨ q = 3 := by omega
theorem vq_small {q : Nat} (hq : q < 4) (a c : Int) (P : Sn × Sn) :
    (vq q a c).u0 P.1.n0 P.1.n1 P.2.n0 P.2.n1 = (movP q a c P).1.n0 ∧ (vq q a c).u1 P.1.n0 P.1.n1 P.2.n0 P.2.n1 = (movP q a c P).1.n1 ∧ (vq q a c).v0 P.1.n0 P.1.n1 P.2.n0 P.2.n1 = (movP q a c P).2.n0 ∧ (vq q a c).v1 P.1.n0 P.1.n1 P.2.n0 P.2.n1 = (movP q a c P).2.n1 := by
  have hm := vq_mag q a c
  have d0 : Rat.divInt 0 2 = 0 := by decide +kernel
  have c1 : ((1 : Int) : Rat) = 1 := rfl
  have c0 : ((0 : Int) : Rat) = 0 := rfl
  have cm : ((-1 : Int) : Rat) = -1 := rfl
  unfold On.u0 On.u1 On.v0 On.v1 On.sg
  rw [hm]
  unfold movP
  simp only [n0_add]
  rcases four_q hq with rfl | rfl | rfl | rfl <;>
    (simp only [rot, n0_neg, vq, tm1, tm2, pc, ps, pcr, psr, d0, c1, c0, cm, if_true, if_false, Bool.false_eq_true, Nat.mul_zero, Nat.mul_one]; simp [d0]; grind)
theorem vid_small (x y z w : Rat) : vid.u0 x y z w = x ∧ vid.u1 x y z w = y ∧ vid.v0 x y z w = z ∧ vid.v1 x y z w = w := by
  have d0 : Rat.divInt 0 2 = 0 := by decide +kernel
  unfold On.u0 On.u1 On.v0 On.v1 On.sg
  rw [vid_mag]
  simp only [vid, tm1, tm2, pc, ps, pcr, psr]
  simp [d0]
  grind
theorem mul_one_s (S : Sn) (m n : Int) : S.mul ⟨m, n, 1, 0, 0, 0⟩ = S := Sn.ext' rfl rfl (by simp only [Sn.mul]; grind) (by simp only [Sn.mul]; grind) (by simp only [Sn.mul]; grind) (by simp only [Sn.mul]; grind)
theorem vq_far (q : Nat) (a c : Int) (P : Sn × Sn) : (vq q a c).farX P.1 P.2 = (movP q a c P).1 ∧ (vq q a c).farY P.1 P.2 = (movP q a c P).2 := by
  unfold On.farX On.farY On.farP movP
  rw [vq_mag, mul_one_s, mul_one_s]
  have e : ((vq q a c).o / 2).toNat = q := by
    show ((((2 * q : Nat) : Int)) / 2).toNat = q
    omega
  rw [e]
  exact ⟨rfl, rfl⟩
theorem vq_at {q : Nat} (hq : q < 4) (a c : Int) (p : Dp) : (vq q a c).X (p.x : Rat) (p.y : Rat) = r2 ((movD q a c p).x : Rat) 0 ∧ (vq q a c).Y (p.x : Rat) (p.y : Rat) = r2 ((movD q a c p).y : Rat) 0 := by
  have hm := vq_mag q a c
  have d0 : Rat.divInt 0 2 = 0 := by decide +kernel
  unfold On.X On.Y On.u0 On.u1 On.v0 On.v1 On.sg
  rw [hm]
  unfold movD
  rcases four_q hq with rfl | rfl | rfl | rfl <;>
    (simp only [rotD, leftD, vq, tm1, tm2, pc, ps, pcr, psr, Rat.intCast_add, Rat.intCast_neg, Nat.mul_zero, Nat.mul_one]; constructor <;> (simp [d0, r2] <;> grind))
theorem sg_rat (x : Rat) : (⟨2, 0, x, 0, 0, 0⟩ : Sn).sg = x.num.sign := by
  unfold Sn.sg sg1
  simp
theorem sgn_hi9 {q : Rat} (h : q < 0) : q.num.sign < 0 := by
  have h1 : 0 < -q := by grind
  have h2 := sgn_lo.2 h1
  rw [Rat.neg_num, Int.sign_neg] at h2
  omega
theorem nr_int (z : Int) : (r2 (z : Rat) 0).nr = z := by
  obtain ⟨h1, h2, _⟩ := Sn.nr_cases (r2 (z : Rat) 0) (show (0 : Int) ≤ 2 by decide) (show (0 : Int) ≤ 0 by decide)
  have e1 : (r2 (z : Rat) 0).sub ⟨(r2 (z : Rat) 0).m, (r2 (z : Rat) 0).n, ((r2 (z : Rat) 0).nr : Rat) + Rat.divInt 1 2, 0, 0, 0⟩ = ⟨2, 0, (z : Rat) - (((r2 (z : Rat) 0).nr : Rat) + Rat.divInt 1 2), 0, 0, 0⟩ := Sn.ext' rfl rfl rfl (by simp only [Sn.sub, r2]; grind) (by simp only [Sn.sub, r2]; grind) (by simp only [Sn.sub, r2]; grind)
  have e2 : (r2 (z : Rat) 0).sub ⟨(r2 (z : Rat) 0).m, (r2 (z : Rat) 0).n, ((r2 (z : Rat) 0).nr : Rat) - Rat.divInt 1 2, 0, 0, 0⟩ = ⟨2, 0, (z : Rat) - (((r2 (z : Rat) 0).nr : Rat) - Rat.divInt 1 2), 0, 0, 0⟩ := Sn.ext' rfl rfl rfl (by simp only [Sn.sub, r2]; grind) (by simp only [Sn.sub, r2]; grind) (by simp only [Sn.sub, r2]; grind)
  rw [e1, sg_rat] at h1
  rw [e2, sg_rat] at h2
  have hh := half2
  have g1 : ¬ 0 < (z : Rat) - (((r2 (z : Rat) 0).nr : Rat) + Rat.divInt 1 2) := fun h => by
    have := sgn_lo.2 h
    omega
  have g2 : ¬ (z : Rat) - (((r2 (z : Rat) 0).nr : Rat) - Rat.divInt 1 2) < 0 := fun h => by
    have := sgn_hi9 h
    omega
  generalize (r2 (z : Rat) 0).nr = n at *
  have k1 : (z : Rat) + z ≤ (n : Rat) + n + 1 := by grind
  have k2 : (n : Rat) + n ≤ (z : Rat) + z + 1 := by grind
  have k1' : z + z ≤ n + n + 1 := by exact_mod_cast k1
  have k2' : n + n ≤ z + z + 1 := by exact_mod_cast k2
  omega
end Go.Proofs.Ytaafmafdnnjmdaa
