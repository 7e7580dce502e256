/- The pure statement of LinProves: Proves answers whether the reference's sum says the inequality that is wanted; no condition. -/
import Derived.Test.YthfkajolockcgaaRdLinProves
import Derived.Test.YthfkajolockcgaaLinPlain
namespace Go.Proofs.Ythfkajolockcgaa.Pure
open Go.RowKit Go.Proofs.Ythfkajolockcgaa.QLinProves Go.Proofs.YthfkajolockcgaaW.PrintWords Go.Proofs.YthfkajolockcgaaW.PrintLast Go.Proofs.Ythfkajolockcgaa.Open Go.Proofs.Ythfkajolockcgaa.RdLinProves Go.Proofs.Ythfkajolockcgaa.Lin
theorem awake_ok (k : Nat) (hk : 40 ≤ k) : plimsolllaw14_awake.f k = some true := by
  unfold plimsolllaw14_awake.f; rw [if_pos hk]
theorem inc_nat {i n : Nat} (h : i < n) (hn : n ≤ 1000000) : wrap64 ((i : Int) + 1) = ((i + 1 : Nat) : Int) := by unfold wrap64; omega
theorem rd_nat {x : List Int} {i : Nat} (h : i < x.length) : rd x (i : Int) = x[i] := by unfold rd; simp [List.getD_eq_getElem?_getD, List.getElem?_eq_getElem h]
theorem of_val (n : Int) : lin_of.f n = some (n, decide (Fine n)) := by
  unfold lin_of.f
  by_cases h : n > -4611686018427387904
  · refine (if_pos h).trans ?_
    congr 2; rw [decide_eq_decide]; unfold Fine; omega
  · refine (if_neg h).trans ?_
    have : ¬ Fine n := by unfold Fine; omega
    rw [decide_eq_false this]
theorem sv_of (n : Int) : sv (n, decide (Fine n)) = if Fine n then some n else none := by
  unfold sv; by_cases h : Fine n <;> simp [h]
theorem good_of (n : Int) : GoodP (n, decide (Fine n)) := fun h => of_decide_eq_true h
theorem plus_val (a b : Int × Bool) (ha : GoodP a) (hb : GoodP b) : ∃ r : Int × Bool, lin_sure_plus.f a.1 a.2 b.1 b.2 = some r ∧ GoodP r ∧ sv r = (sv a).bind fun s => (sv b).bind fun p => pls s p := by
  obtain ⟨x, xo⟩ := a
  obtain ⟨y, yo⟩ := b
  unfold lin_sure_plus.f
  cases xo with
  | false => exact ⟨(0, false), by simp, (fun h => by cases h), rfl⟩
  | true =>
    cases yo with
    | false => exact ⟨(0, false), by simp, (fun h => by cases h), rfl⟩
    | true =>
      have hx : Fine x := ha rfl
      have hy : Fine y := hb rfl
      have e : wrap64 (x + y) = x + y := by unfold Fine at hx hy; unfold wrap64; omega
      refine ⟨(x + y, decide (Fine (x + y))), by simp [of_val, e], good_of _, ?_⟩
      rw [sv_of]
      show _ = pls x y
      unfold pls
      by_cases h : Fine (x + y)
      · rw [if_pos h, if_pos ⟨hx, hy, h⟩]
      · rw [if_neg h, if_neg (fun h' => h h'.2.2)]
theorem size_val (n : Int) (h : Fine n) : lin_size.f n = some (n.natAbs : Int) := by
  unfold Fine at h
  unfold lin_size.f
  by_cases h0 : n < 0
  · rw [if_pos h0]
    have e : wrap64 (-n) = -n := by unfold wrap64; omega
    rw [e, IntWalk.u64_in _ (by omega)]; congr 1; omega
  · rw [if_neg h0, IntWalk.u64_in _ (by omega)]; congr 1; omega
theorem times_val (a b : Int × Bool) (ha : GoodP a) (hb : GoodP b) (k : Nat) (hk : 1 ≤ k) : ∃ r : Int × Bool, lin_sure_times.f k a.1 a.2 b.1 b.2 = some r ∧ GoodP r ∧ sv r = (sv a).bind fun x => (sv b).bind fun y => tms x y := by
  obtain ⟨k, rfl⟩ : ∃ m, k = m + 1 := ⟨k - 1, by omega⟩
  obtain ⟨x, xo⟩ := a
  obtain ⟨y, yo⟩ := b
  have no : (some (0, false) : Option (Int × Bool)) = some (0, false) ∧ GoodP (0, false) ∧ sv (0, false) = none := ⟨rfl, (fun h => by cases h), rfl⟩
  unfold lin_sure_times.f
  cases xo with
  | false => exact ⟨(0, false), by simp [lin_sure_times.j0], no.2.1, rfl⟩
  | true =>
    cases yo with
    | false => exact ⟨(0, false), by simp [lin_sure_times.j0], no.2.1, rfl⟩
    | true =>
      have hx : Fine x := ha rfl
      have hy : Fine y := hb rfl
      have fx := hx
      have fy := hy
      unfold Fine at fx fy
      obtain ⟨hi, lo, h1, h2, h3, h4, h5, h6⟩ := mul_words (x.natAbs : Int) (y.natAbs : Int) (by omega) (by omega) (by omega) (by omega)
      have hf := fine_prod x y
      have hm : bits_Mul64.f (x.natAbs : Int) (y.natAbs : Int) = some (hi, lo) := by unfold bits_Mul64.f; rw [h1, h2]
      show ∃ r : Int × Bool, (if true = true then lin_sure_times.j0 (k + 1) (!true) x true y true else lin_sure_times.j0 (k + 1) true x true y true) = some r ∧ GoodP r ∧ sv r = tms x y
      rw [if_pos rfl, lin_sure_times.j0, size_val x hx, size_val y hy]
      simp only [Option.bind_some, hm]
      rw [if_neg (by decide)]
      by_cases g1 : hi = 0
      · rw [if_pos g1]
        by_cases g2 : lo ≥ 4611686018427387904
        · rw [if_pos g2]
          refine ⟨_, rfl, no.2.1, ?_⟩
          unfold tms; rw [if_neg (fun h => by have := hf.1 h.2.2; omega)]; rfl
        · rw [if_neg g2]
          have hxy : Fine (x * y) := hf.2 (by omega)
          have e : wrap64 (x * y) = x * y := by unfold Fine at hxy; unfold wrap64; omega
          rw [e, of_val]
          refine ⟨_, rfl, good_of _, ?_⟩
          rw [sv_of, if_pos hxy]
          unfold tms; rw [if_pos ⟨hx, hy, hxy⟩]
      · rw [if_neg g1]
        refine ⟨_, rfl, no.2.1, ?_⟩
        unfold tms; rw [if_neg (fun h => by have := hf.1 h.2.2; omega)]; rfl
/-- one more product -/
theorem step_val (acc : Int × Bool) (c t : Int) (ha : GoodP acc) (k : Nat) (hk : 1 ≤ k) : ∃ p r : Int × Bool, lin_sure_times.f k c (decide (Fine c)) t (decide (Fine t)) = some p ∧ lin_sure_plus.f acc.1 acc.2 p.1 p.2 = some r ∧ GoodP r ∧ sv r = stp (sv acc) c t := by
  obtain ⟨p, h1, h2, h3⟩ := times_val (c, decide (Fine c)) (t, decide (Fine t)) (good_of c) (good_of t) k hk
  obtain ⟨r, h4, h5, h6⟩ := plus_val acc p ha h2
  refine ⟨p, r, h1, h4, h5, ?_⟩
  rw [h6, h3, sv_of, sv_of]
  unfold stp
  cases sv acc with
  | none => rfl
  | some s =>
    simp only [Option.bind_some]
    congr 1
    unfold tms
    by_cases g1 : Fine c
    · by_cases g2 : Fine t
      · simp [g1, g2]
      · simp [g1, g2]
    · simp [g1]
theorem fine0 : Fine 0 := by unfold Fine; omega
def pr (l : List S27) : List (List Int × Int) := l.map fun x => (x.f0, x.f1)
def AX (X : List S49) : List (Option Int) := X.map fun s => sv (s.f0, s.f1)
def GX (X : List S49) : Prop := ∀ s ∈ X, GoodP (s.f0, s.f1)
theorem t49 {X : List S49} {i : Nat} (h : i < X.length) : rd_T49 X (i : Int) = X[i] := by unfold rd_T49; simp [List.getD_eq_getElem?_getD, List.getElem?_eq_getElem h]
theorem t27 {X : List S27} {i : Nat} (h : i < X.length) : rd_T27 X (i : Int) = X[i] := by unfold rd_T27; simp [List.getD_eq_getElem?_getD, List.getElem?_eq_getElem h]
theorem GX_set {X : List S49} (h : GX X) (i : Nat) (r : Int × Bool) (hr : GoodP r) : GX (X.set i ⟨r.1, r.2⟩) := by
  intro s hs
  rcases List.mem_or_eq_of_mem_set hs with hs | rfl
  · exact h s hs
  · exact hr
theorem AX_set (X : List S49) (i : Nat) (r : Int × Bool) : AX (X.set i ⟨r.1, r.2⟩) = (AX X).set i (sv r) := by unfold AX; rw [List.map_set]
theorem AX_len (X : List S49) : (AX X).length = X.length := by unfold AX; simp
theorem AX_get {X : List S49} {i : Nat} (h : i < X.length) : (AX X)[i]'(by rw [AX_len]; exact h) = sv (X[i].f0, X[i].f1) := by unfold AX; simp
def err : List Int × Int × Int := ([], 0, 14)
def fin (A : List (Option Int)) (m : Option Int) : List Int × Int × Int := match (getAll A).bind fun c => m.map fun x => (c, x) with | some (c, x) => (c, x, 0) | none => err

theorem sum_l2 (ts : List Int) (vars : Int) (rows : List S27) (x11 x46 x47 : Int) (cs : List Int) (mo t : Int) (hcs : cs.length ≤ 1000000) (ht0 : 0 ≤ x11) (ht1 : x11 < (ts.length : Int)) (ht : rd ts x11 = t) (m : Int × Bool) (hm : GoodP m) :
    ∀ (d k i : Nat) (X : List S49), d + 5 < k → i + d = cs.length → X.length = cs.length → GX X → ∃ X' m', GX X' ∧ GoodP m' ∧ X'.length = X.length ∧ AX X' = (AX X).take i ++ rowStp ((AX X).drop i) (cs.drop i) t ∧ sv m' = stp (sv m) mo t ∧
      lin_Sum.l2 k ts vars X x11 rows x46 x47 cs (cs.length : Int) i m.1 m.2 cs mo = lin_Sum.l1 (k - d - 1) ts vars X' rows x46 (wrap64 (x47 + 1)) m'.1 m'.2 := by
  intro d
  induction d with
  | zero =>
    intro k i X hk hi hX hG
    obtain ⟨k, rfl⟩ : ∃ n, k = n + 1 := ⟨k - 1, by omega⟩
    obtain ⟨p, r, h1, h2, h3, h4⟩ := step_val m mo t hm k (by omega)
    refine ⟨X, r, hG, h3, rfl, ?_, h4, ?_⟩
    · have : (AX X).length ≤ i := by rw [AX_len]; omega
      rw [List.take_of_length_le this, List.drop_of_length_le this]
      unfold rowStp; simp
    · rw [lin_Sum.l2]
      refine (if_neg (by omega)).trans ?_
      rw [of_val]
      simp only [Option.bind_some]
      refine (if_pos ht0).trans ((if_pos ht1).trans ?_)
      rw [ht, of_val]
      simp only [Option.bind_some, h1, h2]
      rfl
  | succ d ih =>
    intro k i X hk hi hX hG
    obtain ⟨k, rfl⟩ : ∃ n, k = n + 1 := ⟨k - 1, by omega⟩
    have hi1 : i < cs.length := by omega
    have hi2 : i < X.length := by omega
    have hG1 : GoodP (X[i].f0, X[i].f1) := hG _ (List.getElem_mem hi2)
    obtain ⟨p, r, h1, h2, h3, h4⟩ := step_val (X[i].f0, X[i].f1) cs[i] t hG1 k (by omega)
    obtain ⟨X', m', g1, g2, g3, g4, g5, g6⟩ := ih k (i + 1) (X.set i ⟨r.1, r.2⟩) (by omega) (by omega) (by rw [List.length_set]; exact hX) (GX_set hG i r h3)
    refine ⟨X', m', g1, g2, by rw [g3, List.length_set], ?_, g5, ?_⟩
    · rw [g4, AX_set, h4, ← AX_get hi2]
      have hA : i < (AX X).length := by rw [AX_len]; exact hi2
      rw [List.drop_set_of_lt (by omega), List.take_succ_eq_append_getElem (by rw [List.length_set]; exact hA), List.take_set_of_le (by omega), List.getElem_set_self]
      rw [List.drop_eq_getElem_cons hA, List.drop_eq_getElem_cons hi1, List.append_assoc]
      rfl
    · rw [lin_Sum.l2]
      refine (if_pos (by omega)).trans ((if_pos (by omega)).trans ((if_pos (by omega)).trans ((if_pos (by omega)).trans ?_)))
      rw [rd_nat hi1, of_val]
      simp only [Option.bind_some]
      refine (if_pos ht0).trans ((if_pos ht1).trans ?_)
      rw [ht, of_val, t49 hi2]
      simp only [Option.bind_some, h1, h2]
      rw [inc_nat hi1 hcs]
      have e : (i : Int).toNat = i := by omega
      rw [e, g6, show k + 1 - (d + 1) - 1 = k - d - 1 by omega]

theorem sum_l3 (X : List S49) (hX : X.length ≤ 1000000) (m : Int × Bool) (mo : Int) : ∀ (d k i : Nat) (out : List Int), d < k → i + d = X.length → out.length = X.length →
    lin_Sum.l3 k X (X.length : Int) i m.1 m.2 out mo = some (match (getAll ((AX X).drop i)).bind fun c => if m.2 = true then some (out.take i ++ c) else none with | some c => (c, mo, 0) | none => err) := by
  intro d
  induction d with
  | zero =>
    intro k i out hk hi ho
    obtain ⟨k, rfl⟩ : ∃ n, k = n + 1 := ⟨k - 1, by omega⟩
    rw [lin_Sum.l3]
    refine (if_neg (by omega)).trans ?_
    rw [List.drop_of_length_le (by rw [AX_len]; omega), List.take_of_length_le (by omega)]
    cases m.2 <;> simp [getAll, err]
  | succ d ih =>
    intro k i out hk hi ho
    obtain ⟨k, rfl⟩ : ∃ n, k = n + 1 := ⟨k - 1, by omega⟩
    have hi2 : i < X.length := by omega
    have hA : i < (AX X).length := by rw [AX_len]; exact hi2
    rw [lin_Sum.l3]
    refine (if_pos (by omega)).trans ((if_pos (by omega)).trans ((if_pos (by omega)).trans ?_))
    rw [t49 hi2, List.drop_eq_getElem_cons hA, AX_get hi2]
    by_cases hok : X[i].f1 = true
    · refine (if_pos hok).trans ((if_pos (by omega)).trans ?_)
      have e : (i : Int).toNat = i := by omega
      rw [inc_nat hi2 hX, e, ih k (i + 1) _ (by omega) (by omega) (by rw [List.length_set]; exact ho)]
      have es : sv (X[i].f0, X[i].f1) = some X[i].f0 := by unfold sv; rw [if_pos hok]
      rw [es, List.take_succ_eq_append_getElem (by rw [List.length_set]; omega), List.take_set_of_le (by omega), List.getElem_set_self]
      simp only [getAll]
      cases getAll ((AX X).drop (i + 1)) with
      | none => rfl
      | some c => cases m.2 <;> simp
    · refine (if_neg hok).trans ?_
      have es : sv (X[i].f0, X[i].f1) = none := by unfold sv; rw [if_neg hok]
      rw [es]; rfl

theorem sum_l1 (rows : List S27) (ts : List Int) (vars : Nat) (hv : vars ≤ 64) (hr : rows.length ≤ 1000000) (hl : rows.length = ts.length) : ∀ (d k i : Nat) (X : List S49) (m : Int × Bool), (d + 1) * (vars + 10) < k → i + d = rows.length → X.length = vars → GX X → GoodP m →
    lin_Sum.l1 k ts (vars : Int) X rows (rows.length : Int) i m.1 m.2 = some (match sumR vars ((pr rows).drop i) (ts.drop i) (AX X) (sv m) with | none => err | some x => fin x.1 x.2) := by
  intro d
  induction d with
  | zero =>
    intro k i X m hk hi hX hG hm
    obtain ⟨k, rfl⟩ : ∃ n, k = n + 1 := ⟨k - 1, by omega⟩
    rw [lin_Sum.l1]
    refine (if_neg (by omega)).trans ((if_pos (by omega)).trans ((if_pos (by omega)).trans ?_))
    have h := sum_l3 X (by omega) m m.1 X.length k 0 (List.replicate vars 0) (by omega) (by omega) (by simp [hX])
    have e : ((vars : Int)).toNat = vars := by omega
    rw [e]
    have h' := h
    simp only [Int.natCast_zero, List.drop_zero, List.take_zero, List.nil_append] at h'
    rw [h']
    have e1 : (pr rows).drop i = [] := List.drop_of_length_le (by unfold pr; simp; omega)
    rw [e1, List.drop_of_length_le (show ts.length ≤ i by omega)]
    simp only [sumR, fin]
    congr 1
    cases getAll (AX X) with
    | none => rfl
    | some c => 
      obtain ⟨mx, mo⟩ := m
      cases mo <;> simp [sv]
  | succ d ih =>
    intro k i X m hk hi hX hG hm
    obtain ⟨k, rfl⟩ : ∃ n, k = n + 1 := ⟨k - 1, by omega⟩
    have hi1 : i < rows.length := by omega
    have hi2 : i < ts.length := by omega
    have hp : i < (pr rows).length := by unfold pr; simp; omega
    have hpe : (pr rows)[i] = (rows[i].f0, rows[i].f1) := List.getElem_map _
    have hmul : (d + 1 + 1) * (vars + 10) = (d + 1) * (vars + 10) + (vars + 10) := Nat.succ_mul _ _
    obtain ⟨k, rfl⟩ : ∃ n, k = n + 1 := ⟨k - 1, by omega⟩
    rw [lin_Sum.l1]
    refine (if_pos (by omega)).trans ((if_pos (by omega)).trans ((if_pos (by omega)).trans ((if_pos (by omega)).trans ?_)))
    rw [rd_nat hi2, t27 hi1, List.drop_eq_getElem_cons hp, List.drop_eq_getElem_cons hi2, hpe]
    simp only [sumR]
    have bad : (ts[i] < 0 ∨ rows[i].f0.length ≠ vars) → lin_Sum.j3 (k + 1) ts (vars : Int) X i rows (rows.length : Int) i true m.1 m.2 rows[i].f0 rows[i].f1 = some (match (if ts[i] < 0 ∨ rows[i].f0.length ≠ vars then none else sumR vars ((pr rows).drop (i + 1)) (ts.drop (i + 1)) (rowStp (AX X) rows[i].f0 ts[i]) (stp (sv m) rows[i].f1 ts[i])) with | none => err | some x => fin x.1 x.2) := by
      intro h
      rw [if_pos h, lin_Sum.j3]
      exact if_pos rfl
    by_cases ht : ts[i] < 0
    · refine (if_pos ht).trans ?_
      exact bad (.inl ht)
    · refine (if_neg ht).trans ?_
      by_cases hc : rows[i].f0.length = vars
      · have e : ((rows[i].f0.length : Int) != (vars : Int)) = false := by simp [hc]
        rw [e, if_neg (fun h => h.elim ht (fun h => h hc)), lin_Sum.j3]
        refine (if_neg (by decide)).trans ?_
        obtain ⟨X', m', g1, g2, g3, g4, g5, g6⟩ := sum_l2 ts (vars : Int) rows i (rows.length : Int) i rows[i].f0 rows[i].f1 ts[i] (by omega) (by omega) (by omega) (rd_nat hi2) m hm rows[i].f0.length k 0 X (by omega) (by omega) (by omega) hG
        have g6' : lin_Sum.l2 k ts (vars : Int) X i rows (rows.length : Int) i rows[i].f0 (rows[i].f0.length : Int) 0 m.1 m.2 rows[i].f0 rows[i].f1 = _ := g6
        rw [g6', inc_nat hi1 hr, ih _ (i + 1) X' m' (by omega) (by omega) (by omega) g1 g2, g4, g5]
        rfl
      · have e : ((rows[i].f0.length : Int) != (vars : Int)) = true := by simp; omega
        rw [e]
        exact bad (.inr hc)

theorem sum_l0 (rows : List S27) (ts : List Int) (vars : Int) (n : Nat) (hn : n ≤ 64) : ∀ (d k i : Nat) (X : List S49), d < k → i + d = n → X.length = n → (∀ (j : Nat) (h : j < X.length), j < i → X[j] = ⟨0, true⟩) →
    ∃ m : Int × Bool, GoodP m ∧ sv m = some 0 ∧ lin_Sum.l0 k rows ts vars X (n : Int) i = lin_Sum.l1 (k - d - 1) ts vars (List.replicate n ⟨0, true⟩) rows (rows.length : Int) 0 m.1 m.2 := by
  intro d
  induction d with
  | zero =>
    intro k i X hk hi hX hall
    obtain ⟨k, rfl⟩ : ∃ n, k = n + 1 := ⟨k - 1, by omega⟩
    refine ⟨(0, decide (Fine 0)), good_of 0, by rw [sv_of, if_pos fine0], ?_⟩
    rw [lin_Sum.l0]
    refine (if_neg (by omega)).trans ?_
    rw [of_val]
    simp only [Option.bind_some]
    have : X = List.replicate n ⟨0, true⟩ := List.ext_getElem (by simp [hX]) (fun j h1 h2 => by rw [hall j h1 (by omega)]; simp)
    rw [this]; rfl
  | succ d ih =>
    intro k i X hk hi hX hall
    obtain ⟨k, rfl⟩ : ∃ n, k = n + 1 := ⟨k - 1, by omega⟩
    rw [lin_Sum.l0]
    obtain ⟨m, h1, h2, h3⟩ := ih k (i + 1) (X.set i ⟨0, true⟩) (by omega) (by omega) (by rw [List.length_set]; exact hX) (fun j hj hji => by
      rw [List.getElem_set]
      split
      · rfl
      · rw [List.length_set] at hj
        exact hall j hj (by omega))
    refine ⟨m, h1, h2, ?_⟩
    refine (if_pos (by omega)).trans ?_
    rw [of_val]
    simp only [Option.bind_some]
    refine (if_pos (by omega)).trans ((if_pos (by omega)).trans ?_)
    have e : (i : Int).toNat = i := by omega
    rw [e, decide_eq_true fine0, inc_nat (show i < n by omega) (by omega), h3, show k + 1 - (d + 1) - 1 = k - d - 1 by omega]

theorem sum_val (l : List S27) (ts : List Int) (vars : Int) (hl : l.length ≤ 1000) (k : Nat) (hk : 100000 ≤ k) : lin_Sum.f k l ts vars = some (match sumSpec (pr l) ts vars with | some (c, m) => (c, m, 0) | none => err) := by
  obtain ⟨k, rfl⟩ : ∃ n, k = n + 1 := ⟨k - 1, by omega⟩
  unfold lin_Sum.f
  have hpl : (pr l).length = l.length := by unfold pr; simp
  have bad : sumSpec (pr l) ts vars = none → lin_Sum.j0 (k + 1) l ts vars true = some (match sumSpec (pr l) ts vars with | some (c, m) => (c, m, 0) | none => err) := by
    intro h; rw [h, lin_Sum.j0]; exact if_pos rfl
  by_cases h1 : l.length = ts.length
  · refine (if_pos (by omega)).trans ?_
    by_cases h2 : vars < 0
    · refine (if_pos h2).trans ?_
      exact bad (by unfold sumSpec; rw [if_neg (by omega)])
    · refine (if_neg h2).trans ?_
      by_cases h3 : vars > 64
      · rw [decide_eq_true h3]
        exact bad (by unfold sumSpec; rw [if_neg (by omega)])
      · rw [decide_eq_false h3, lin_Sum.j0]
        refine (if_neg (by decide)).trans ((if_pos (by omega)).trans ((if_pos (by omega)).trans ?_))
        simp only [Option.bind_some]
        obtain ⟨m, g1, g2, g3⟩ := sum_l0 l ts vars vars.toNat (by omega) vars.toNat k 0 (List.replicate vars.toNat z49) (by omega) (by omega) (by simp) (fun j _ hj => by omega)
        have e : ((List.replicate vars.toNat z49).length : Int) = (vars.toNat : Int) := by simp
        have e0 : (((0 : Nat)) : Int) = 0 := rfl
        rw [e0] at g3
        rw [e, g3]
        have ev : vars = (vars.toNat : Int) := by omega
        have hbig : (l.length + 1) * (vars.toNat + 10) ≤ 1001 * 74 := Nat.mul_le_mul (by omega) (by omega)
        have h := sum_l1 l ts vars.toNat (by omega) (by omega) h1 l.length (k - vars.toNat - 1) 0 (List.replicate vars.toNat ⟨0, true⟩) m (by omega) (by omega) (by simp) (fun s hs => by rw [List.eq_of_mem_replicate hs]; exact fun _ => fine0) g1
        rw [← ev, e0] at h
        rw [h]
        unfold sumSpec
        rw [if_pos ⟨by omega, by omega, by omega⟩]
        have ea : AX (List.replicate vars.toNat ⟨0, true⟩) = List.replicate vars.toNat (some 0) := by unfold AX; simp [sv]
        rw [ea, g2, List.drop_zero, List.drop_zero]
        congr 1
        cases sumR vars.toNat (pr l) ts (List.replicate vars.toNat (some 0)) (some 0) with
        | none => rfl
        | some x => simp only [Option.bind_some, fin]
  · refine (if_neg (by omega)).trans ?_
    exact bad (by unfold sumSpec; rw [if_neg (by omega)])
theorem ref_fine_val (n : Int) : plimsollref14_fine.f n = some (decide (Fine n)) := by
  unfold plimsollref14_fine.f
  by_cases h : n > -4611686018427387904
  · refine (if_pos h).trans ?_
    congr 1; rw [decide_eq_decide]; unfold Fine; omega
  · refine (if_neg h).trans ?_
    have : ¬ Fine n := by unfold Fine; omega
    rw [decide_eq_false this]
theorem quot_le {x y : Int} (hy : 0 < y) : (x > 4611686018427387903 / y) ↔ ¬ (x * y < 4611686018427387904) := by
  constructor
  · intro h h2
    have := (Int.le_ediv_iff_mul_le hy).2 (show x * y ≤ 4611686018427387903 by omega)
    omega
  · intro h
    by_cases g : x ≤ 4611686018427387903 / y
    · have := (Int.le_ediv_iff_mul_le hy).1 g
      omega
    · omega
theorem ref_times_val (a b : Int) (k : Nat) (hk : 3 ≤ k) : plimsollref14_Times.f k a b = some (match tms a b with | some p => (p, true) | none => (0, false)) := by
  obtain ⟨k, rfl⟩ : ∃ m, k = m + 3 := ⟨k - 3, by omega⟩
  unfold plimsollref14_Times.f
  rw [ref_fine_val, ref_fine_val]
  simp only [Option.bind_some]
  have bad : tms a b = none → plimsollref14_Times.j0 (k + 3) a b true = some (match tms a b with | some p => (p, true) | none => (0, false)) := by
    intro h; rw [h, plimsollref14_Times.j0]; rfl
  by_cases ha : Fine a
  · rw [if_pos (decide_eq_true ha)]
    by_cases hb : Fine b
    · rw [decide_eq_true hb, plimsollref14_Times.j0]
      refine (if_neg (by decide)).trans ?_
      by_cases a0 : a = 0
      · rw [if_pos a0, plimsollref14_Times.j1]
        refine (if_pos rfl).trans ?_
        have : tms a b = some 0 := by unfold tms; subst a0; rw [Int.zero_mul, if_pos ⟨ha, hb, by unfold Fine; omega⟩]
        rw [this]
      · rw [if_neg a0, plimsollref14_Times.j1]
        by_cases b0 : b = 0
        · refine (if_pos (by simp [b0])).trans ?_
          have : tms a b = some 0 := by unfold tms; subst b0; rw [Int.mul_zero, if_pos ⟨ha, hb, by unfold Fine; omega⟩]
          rw [this]
        · refine (if_neg (by simp [b0])).trans ?_
          have fa := ha
          have fb := hb
          unfold Fine at fa fb
          have two : ∀ x : Int, x = (a.natAbs : Int) → plimsollref14_Times.j2 (k + 1) a b x b = some (match tms a b with | some p => (p, true) | none => (0, false)) := by
            intro x hx
            have hf := fine_prod a b
            have q := quot_le (x := x) (y := (b.natAbs : Int)) (by omega)
            rw [hx, ← hf, ← hx] at q
            have hq0 : 0 ≤ (4611686018427387903 : Int) / (b.natAbs : Int) := Int.ediv_nonneg (by omega) (by omega)
            have hq1 : (4611686018427387903 : Int) / (b.natAbs : Int) ≤ 4611686018427387903 := by
              have := Int.ediv_le_self (b.natAbs : Int) (show (0 : Int) ≤ 4611686018427387903 by omega)
              exact this
            have fin : (if x > (4611686018427387903 : Int) / (b.natAbs : Int) then (some (0, false)) else (some (wrap64 (a * b), true)) : Option (Int × Bool)) = some (match tms a b with | some p => (p, true) | none => (0, false)) := by
              by_cases g : x > (4611686018427387903 : Int) / (b.natAbs : Int)
              · rw [if_pos g]
                have : tms a b = none := by unfold tms; rw [if_neg (fun h => (q.1 g) h.2.2)]
                rw [this]
              · rw [if_neg g]
                have hab : Fine (a * b) := by
                  by_cases h : Fine (a * b)
                  · exact h
                  · exact absurd (q.2 h) g
                have : tms a b = some (a * b) := by unfold tms; rw [if_pos ⟨ha, hb, hab⟩]
                rw [this]
                unfold Fine at hab
                have e : wrap64 (a * b) = a * b := by unfold wrap64; omega
                rw [e]
            rw [plimsollref14_Times.j2]
            by_cases hn : b < 0
            · have e : wrap64 (-b) = (b.natAbs : Int) := by unfold wrap64; omega
              refine (if_pos hn).trans ?_
              rw [e]
              refine (if_neg (by omega)).trans ?_
              have e2 : wrap64 ((4611686018427387903 : Int) / (b.natAbs : Int)) = (4611686018427387903 : Int) / (b.natAbs : Int) := by clear e; unfold wrap64; omega
              rw [e2]; exact fin
            · refine (if_neg hn).trans ((if_neg b0).trans ?_)
              have e3 : (b.natAbs : Int) = b := by omega
              rw [e3] at fin hq0 hq1
              have e2 : wrap64 ((4611686018427387903 : Int) / b) = (4611686018427387903 : Int) / b := by unfold wrap64; omega
              rw [e2]; exact fin
          by_cases ha0 : a < 0
          · refine (if_pos ha0).trans ?_
            exact two _ (by unfold wrap64; omega)
          · refine (if_neg ha0).trans ?_
            exact two _ (by omega)
    · rw [decide_eq_false hb]
      exact bad (by unfold tms; rw [if_neg (fun h => hb h.2.1)])
  · rw [if_neg (by simpa using ha)]
    exact bad (by unfold tms; rw [if_neg (fun h => ha h.1)])
theorem ref_plus_val (a b : Int) : plimsollref14_Plus.f a b = some (match pls a b with | some p => (p, true) | none => (0, false)) := by
  unfold plimsollref14_Plus.f
  rw [ref_fine_val, ref_fine_val, ref_fine_val]
  simp only [Option.bind_some]
  unfold pls
  by_cases ha : Fine a
  · rw [if_pos (decide_eq_true ha)]
    by_cases hb : Fine b
    · rw [if_pos (decide_eq_true hb)]
      have e : wrap64 (a + b) = a + b := by unfold Fine at ha hb; unfold wrap64; omega
      rw [e]
      by_cases hc : Fine (a + b)
      · rw [if_pos (decide_eq_true hc), if_pos ⟨ha, hb, hc⟩]
      · rw [if_neg (by simpa using hc), if_neg (fun h => hc h.2.2)]
    · rw [if_neg (by simpa using hb), if_neg (fun h => hb h.2.1)]
  · rw [if_neg (by simpa using ha), if_neg (fun h => ha h.1)]
theorem ref_dot_l (a b : List Int) (ha : a.length ≤ 1000000) (hl : a.length ≤ b.length) : ∀ (d k i : Nat) (s : Int), d + 4 < k → i + d = a.length →
    plimsollref14_Dot.l0 k a b s i = some (match dotF (some s) (a.drop i) (b.drop i) with | some s => (s, true) | none => (0, false)) := by
  intro d
  induction d with
  | zero =>
    intro k i s hk hi
    obtain ⟨k, rfl⟩ : ∃ m, k = m + 1 := ⟨k - 1, by omega⟩
    rw [plimsollref14_Dot.l0]
    refine (if_neg (by omega)).trans ?_
    rw [List.drop_of_length_le (show a.length ≤ i by omega)]
    simp [dotF]
  | succ d ih =>
    intro k i s hk hi
    obtain ⟨k, rfl⟩ : ∃ m, k = m + 1 := ⟨k - 1, by omega⟩
    rw [plimsollref14_Dot.l0]
    refine (if_pos (by omega)).trans ((if_pos (by omega)).trans ((if_pos (by omega)).trans ?_))
    rw [rd_nat (show i < a.length by omega), rd_nat (show i < b.length by omega), ref_times_val _ _ k (by omega)]
    simp only [Option.bind_some]
    rw [List.drop_eq_getElem_cons (show i < a.length by omega), List.drop_eq_getElem_cons (show i < b.length by omega), inc_nat (show i < a.length by omega) ha]
    simp only [dotF, stp, Option.bind_some]
    cases ht : tms (a[i]'(by omega)) (b[i]'(by omega)) with
    | none => simp [dotF_none]
    | some p =>
      simp only [if_true, ref_plus_val, Option.bind_some]
      cases hp : pls s p with
      | none => simp [dotF_none]
      | some r =>
        simp only [if_true]
        exact ih k (i + 1) r (by omega) (by omega)
theorem ref_dot_val (a b : List Int) (ha : a.length ≤ 1000000) (hl : a.length ≤ b.length) (k : Nat) (hk : a.length + 5 ≤ k) : plimsollref14_Dot.f k a b = some (match dotF (some 0) a b with | some s => (s, true) | none => (0, false)) := by
  have := ref_dot_l a b ha hl a.length k 0 0 (by omega) (by omega)
  unfold plimsollref14_Dot.f
  simpa using this
def rerr : List Int × Int × Bool := ([], 0, false)
theorem ref_l0_ok (rows : List S27) (ts : List Int) (vars : Nat) (hr : rows.length ≤ 1000) (hl : rows.length = ts.length) (h1 : ∀ r ∈ rows, r.f0.length = vars) (h2 : ∀ t ∈ ts, 0 ≤ t) : ∀ (d k i : Nat), d < k → i + d = rows.length →
    plimsollref14_Sum.l0 k rows ts (vars : Int) i = plimsollref14_Sum.l1 (k - d - 1) rows ts (vars : Int) [] 0 := by
  intro d
  induction d with
  | zero =>
    intro k i hk hi
    obtain ⟨k, rfl⟩ : ∃ n, k = n + 1 := ⟨k - 1, by omega⟩
    rw [plimsollref14_Sum.l0]
    exact if_neg (by omega)
  | succ d ih =>
    intro k i hk hi
    obtain ⟨k, rfl⟩ : ∃ n, k = n + 1 := ⟨k - 1, by omega⟩
    have hi1 : i < rows.length := by omega
    have hi2 : i < ts.length := by omega
    have e1 := h1 _ (List.getElem_mem hi1)
    have e2 := h2 _ (List.getElem_mem hi2)
    rw [plimsollref14_Sum.l0]
    refine (if_pos (by omega)).trans ((if_pos (by omega)).trans ((if_pos (by omega)).trans ?_))
    rw [rd_nat hi2, t27 hi1]
    refine (if_neg (by omega)).trans ((if_pos (by omega)).trans ?_)
    rw [inc_nat hi1 (by omega), ih k (i + 1) (by omega) (by omega), show k + 1 - (d + 1) - 1 = k - d - 1 by omega]
theorem ref_l0_bad (rows : List S27) (ts : List Int) (vars : Nat) (hr : rows.length ≤ 1000) (hl : rows.length = ts.length) (b : Nat) (hb : b < rows.length) (hbad : ts.getD b 0 < 0 ∨ ((pr rows).getD b ([], 0)).1.length ≠ vars)
    (hok : ∀ j, j < b → ¬ (ts.getD j 0 < 0 ∨ ((pr rows).getD j ([], 0)).1.length ≠ vars)) : ∀ (d k i : Nat), d < k → i + d = b → plimsollref14_Sum.l0 k rows ts (vars : Int) i = some rerr := by
  have eq1 : ∀ (j : Nat) (hj : j < rows.length), ts.getD j 0 = ts[j]'(by omega) ∧ ((pr rows).getD j ([], 0)).1 = rows[j].f0 := by
    intro j hj
    constructor
    · simp [List.getD_eq_getElem?_getD, List.getElem?_eq_getElem (show j < ts.length by omega)]
    · unfold pr; simp [List.getD_eq_getElem?_getD, List.getElem?_eq_getElem hj]
  intro d
  induction d with
  | zero =>
    intro k i hk hi
    obtain ⟨k, rfl⟩ : ∃ n, k = n + 1 := ⟨k - 1, by omega⟩
    obtain rfl : i = b := by omega
    rw [(eq1 i hb).1, (eq1 i hb).2] at hbad
    rw [plimsollref14_Sum.l0]
    refine (if_pos (by omega)).trans ((if_pos (by omega)).trans ((if_pos (by omega)).trans ?_))
    rw [rd_nat (show i < ts.length by omega), t27 hb]
    by_cases ht : ts[i]'(by omega) < 0
    · exact if_pos ht
    · refine (if_neg ht).trans (if_neg ?_)
      rcases hbad with h | h
      · exact absurd h ht
      · omega
  | succ d ih =>
    intro k i hk hi
    obtain ⟨k, rfl⟩ : ∃ n, k = n + 1 := ⟨k - 1, by omega⟩
    have hi1 : i < rows.length := by omega
    have hi2 : i < ts.length := by omega
    have ho := hok i (by omega)
    rw [(eq1 i hi1).1, (eq1 i hi1).2] at ho
    rw [plimsollref14_Sum.l0]
    refine (if_pos (by omega)).trans ((if_pos (by omega)).trans ((if_pos (by omega)).trans ?_))
    rw [rd_nat hi2, t27 hi1]
    refine (if_neg (by omega)).trans ((if_pos (by omega)).trans ?_)
    rw [inc_nat hi1 (by omega)]
    exact ih k (i + 1) (by omega) (by omega)
theorem ref_l1 (rows : List S27) (ts : List Int) (vars : Int) (hr : rows.length ≤ 1000) (hl : rows.length = ts.length) : ∀ (d k i : Nat) (col : List Int), d + rows.length + 6 < k → i + d = rows.length → col = (rows.take i).map (·.f1) →
    plimsollref14_Sum.l1 k rows ts vars col i = (match dotF (some 0) (rows.map (·.f1)) ts with | some n => plimsollref14_Sum.l2 (k - d - 1) rows ts vars (rows.map (·.f1)) 0 [] n | none => some rerr) := by
  intro d
  induction d with
  | zero =>
    intro k i col hk hi hc
    obtain ⟨k, rfl⟩ : ∃ n, k = n + 1 := ⟨k - 1, by omega⟩
    rw [plimsollref14_Sum.l1]
    refine (if_neg (by omega)).trans ?_
    have e : col = rows.map (·.f1) := by rw [hc, List.take_of_length_le (by omega)]
    rw [e, ref_dot_val _ ts (by simp; omega) (by simp; omega) k (by simp; omega)]
    cases dotF (some 0) (rows.map (·.f1)) ts with
    | none => rfl
    | some n => rfl
  | succ d ih =>
    intro k i col hk hi hc
    obtain ⟨k, rfl⟩ : ∃ n, k = n + 1 := ⟨k - 1, by omega⟩
    have hi1 : i < rows.length := by omega
    have hcl : col.length = i := by rw [hc]; simp; omega
    rw [plimsollref14_Sum.l1]
    refine (if_pos (by omega)).trans ((if_pos (by omega)).trans ((if_pos (by omega)).trans ?_))
    rw [t27 hi1, inc_nat hi1 (by omega), ih k (i + 1) _ (by omega) (by omega) (by rw [hc, List.take_succ_eq_append_getElem hi1, List.map_append]; rfl), show k + 1 - (d + 1) - 1 = k - d - 1 by omega]
theorem ref_l3 (rows : List S27) (ts : List Int) (vars v : Nat) (hr : rows.length ≤ 1000) (hl : rows.length = ts.length) (hv : v < vars) (h1 : ∀ r ∈ rows, r.f0.length = vars) (hvars : vars ≤ 64) (out : List Int) (ho : out.length ≤ 1000) (mo : Int) :
    ∀ (d k i : Nat) (col : List Int), d + rows.length + 6 < k → i + d = rows.length → col.length = rows.length → col.take i = (rows.take i).map (fun r => r.f0.getD v 0) →
    plimsollref14_Sum.l3 k rows ts (vars : Int) col v i out mo = (match dotF (some 0) (rows.map (fun r => r.f0.getD v 0)) ts with | some n => plimsollref14_Sum.l2 (k - d - 1) rows ts (vars : Int) (rows.map (fun r => r.f0.getD v 0)) (v + 1 : Nat) (out ++ [n]) mo | none => some rerr) := by
  intro d
  induction d with
  | zero =>
    intro k i col hk hi hcl hc
    obtain ⟨k, rfl⟩ : ∃ n, k = n + 1 := ⟨k - 1, by omega⟩
    rw [plimsollref14_Sum.l3]
    refine (if_neg (by omega)).trans ?_
    have e : col = rows.map (fun r => r.f0.getD v 0) := by
      rw [List.take_of_length_le (by omega), List.take_of_length_le (by omega)] at hc
      exact hc
    rw [e, ref_dot_val _ ts (by simp; omega) (by simp; omega) k (by simp; omega)]
    cases dotF (some 0) (rows.map (fun r => r.f0.getD v 0)) ts with
    | none => rfl
    | some n =>
      simp only [Option.bind_some, if_true]
      refine (if_pos (by omega)).trans ?_
      have e2 : wrap64 ((v : Int) + 1) = ((v + 1 : Nat) : Int) := by unfold wrap64; omega
      rw [e2]; rfl
  | succ d ih =>
    intro k i col hk hi hcl hc
    obtain ⟨k, rfl⟩ : ∃ n, k = n + 1 := ⟨k - 1, by omega⟩
    have hi1 : i < rows.length := by omega
    have e1 := h1 _ (List.getElem_mem hi1)
    rw [plimsollref14_Sum.l3]
    refine (if_pos (by omega)).trans ((if_pos (by omega)).trans ((if_pos (by omega)).trans ?_))
    rw [t27 hi1]
    refine (if_pos (by omega)).trans ((if_pos (by omega)).trans ?_)
    have e : (i : Int).toNat = i := by omega
    rw [rd_nat (show v < rows[i].f0.length by omega), inc_nat hi1 (by omega), e, ih k (i + 1) _ (by omega) (by omega) (by rw [List.length_set]; exact hcl) ?_, show k + 1 - (d + 1) - 1 = k - d - 1 by omega]
    rw [List.take_succ_eq_append_getElem (by rw [List.length_set]; omega), List.take_set_of_le (by omega), List.getElem_set_self, List.take_succ_eq_append_getElem hi1, List.map_append, hc]
    simp [List.getD_eq_getElem?_getD, List.getElem?_eq_getElem (show v < rows[i].f0.length by omega)]
theorem ref_l2 (rows : List S27) (ts : List Int) (vars : Nat) (hr : rows.length ≤ 1000) (hl : rows.length = ts.length) (h1 : ∀ r ∈ rows, r.f0.length = vars) (hvars : vars ≤ 64) (A : List (Option Int)) (hA : A.length = vars)
    (hcol : ∀ v, v < vars → A[v]? = some (dotF (some 0) (rows.map (fun r => r.f0.getD v 0)) ts)) (mo : Int) : ∀ (d k v : Nat) (out col : List Int), d * (rows.length + 2) + rows.length + 10 < k → v + d = vars → out.length = v → col.length = rows.length →
    plimsollref14_Sum.l2 k rows ts (vars : Int) col v out mo = some (match getAll (A.drop v) with | some c => (out ++ c, mo, true) | none => rerr) := by
  intro d
  induction d with
  | zero =>
    intro k v out col hk hv ho hcl
    obtain ⟨k, rfl⟩ : ∃ n, k = n + 1 := ⟨k - 1, by omega⟩
    rw [plimsollref14_Sum.l2]
    refine (if_neg (by omega)).trans ?_
    rw [List.drop_of_length_le (by omega)]
    simp [getAll]
  | succ d ih =>
    intro k v out col hk hv ho hcl
    obtain ⟨k, rfl⟩ : ∃ n, k = n + 1 := ⟨k - 1, by omega⟩
    have hmul : (d + 1) * (rows.length + 2) = d * (rows.length + 2) + (rows.length + 2) := Nat.succ_mul _ _
    rw [plimsollref14_Sum.l2]
    refine (if_pos (by omega)).trans ?_
    have h := ref_l3 rows ts vars v hr hl (by omega) h1 hvars out (by omega) mo rows.length k 0 col (by omega) (by omega) hcl (by simp)
    have h' : plimsollref14_Sum.l3 k rows ts (vars : Int) col v 0 out mo = _ := h
    rw [h']
    have hc := hcol v (by omega)
    obtain ⟨hv2, hc2⟩ := List.getElem?_eq_some_iff.1 hc
    rw [List.drop_eq_getElem_cons hv2, hc2]
    cases dotF (some 0) (rows.map (fun r => r.f0.getD v 0)) ts with
    | none => rfl
    | some n =>
      simp only [getAll]
      rw [ih (k - rows.length - 1) (v + 1) (out ++ [n]) _ (by omega) (by omega) (by simp; omega) (by simp)]
      cases getAll (A.drop (v + 1)) with
      | none => rfl
      | some c => simp
theorem ref_sum_val (l : List S27) (ts : List Int) (vars : Int) (hl : l.length ≤ 1000) (k : Nat) (hk : 100000 ≤ k) : plimsollref14_Sum.f k l ts vars = some (match sumSpec (pr l) ts vars with | some (c, m) => (c, m, true) | none => rerr) := by
  obtain ⟨k, rfl⟩ : ∃ n, k = n + 1 := ⟨k - 1, by omega⟩
  unfold plimsollref14_Sum.f
  have hpl : (pr l).length = l.length := by unfold pr; simp
  have bad : sumSpec (pr l) ts vars = none → plimsollref14_Sum.j0 (k + 1) l ts vars true = some (match sumSpec (pr l) ts vars with | some (c, m) => (c, m, true) | none => rerr) := by
    intro h; rw [h, plimsollref14_Sum.j0]; exact if_pos rfl
  by_cases h1 : l.length = ts.length
  · refine (if_pos (by omega)).trans ?_
    by_cases h2 : vars < 0
    · refine (if_pos h2).trans ?_
      exact bad (by unfold sumSpec; rw [if_neg (by omega)])
    · refine (if_neg h2).trans ?_
      by_cases h3 : vars > 64
      · rw [decide_eq_true h3]
        exact bad (by unfold sumSpec; rw [if_neg (by omega)])
      · rw [decide_eq_false h3, plimsollref14_Sum.j0]
        refine (if_neg (by decide)).trans ?_
        obtain ⟨n, rfl⟩ : ∃ n : Nat, vars = (n : Int) := ⟨vars.toNat, by omega⟩
        have e : ((n : Int)).toNat = n := by omega
        unfold sumSpec
        rw [if_pos ⟨by omega, by omega, by omega⟩, e]
        have e0 : (((0 : Nat)) : Int) = 0 := rfl
        cases hs : sumR n (pr l) ts (List.replicate n (some 0)) (some 0) with
        | none =>
          obtain ⟨b, g1, g2, g3⟩ := sumR_none _ _ _ _ (by omega) hs
          have h := ref_l0_bad l ts n hl h1 b (by omega) g2 g3 b k 0 (by omega) (by omega)
          rw [e0] at h
          rw [h]; rfl
        | some x =>
          obtain ⟨A, m⟩ := x
          obtain ⟨g1, g2, g3, g4, g5⟩ := sumR_some (vars := n) _ _ _ _ _ _ (by simp) (by omega) hs
          have g4' : ∀ r ∈ l, r.f0.length = n := fun r hr => g4 (r.f0, r.f1) (List.mem_map.2 ⟨r, hr, rfl⟩)
          have h := ref_l0_ok l ts n hl h1 g4' g5 l.length k 0 (by omega) (by omega)
          rw [e0] at h
          have h' := ref_l1 l ts (n : Int) hl h1 l.length (k - l.length - 1) 0 [] (by omega) (by omega) (by simp)
          rw [e0] at h'
          rw [h, h']
          have em : (pr l).map (·.2) = l.map (·.f1) := by unfold pr; rw [List.map_map]; rfl
          rw [em] at g2
          simp only [Option.bind_some]
          rw [← g2]
          cases m with
          | none =>
            cases getAll A <;> rfl
          | some mo =>
            have hcol : ∀ v, v < n → A[v]? = some (dotF (some 0) (l.map (fun r => r.f0.getD v 0)) ts) := by
              intro v hv
              have := g3 v hv
              rw [this]
              congr 1
              have ec : (pr l).map (fun r => r.1.getD v 0) = l.map (fun r => r.f0.getD v 0) := by unfold pr; rw [List.map_map]; rfl
              rw [ec]
              congr 1
              rw [List.getElem?_eq_getElem (by simp; exact hv)]; simp
            have hbig : n * (l.length + 2) ≤ 64 * 1002 := Nat.mul_le_mul (by omega) (by omega)
            have h2 := ref_l2 l ts n hl h1 g4' (by omega) A g1 hcol mo n (k - l.length - 1 - l.length - 1) 0 [] (l.map (·.f1)) (by omega) (by omega) rfl (by simp)
            rw [e0] at h2
            show plimsollref14_Sum.l2 _ l ts (n : Int) (l.map (·.f1)) 0 [] mo = _
            rw [h2, List.drop_zero]
            cases getAll A <;> rfl
  · refine (if_neg (by omega)).trans ?_
    exact bad (by unfold sumSpec; rw [if_neg (by omega)])
theorem few_val (l : List S27) : ∃ b, (∀ k, 100 ≤ k → plimsolllaw14_few.f k l = some b) ∧ (b = true → l.length ≤ 40) := by
  by_cases h : (l.length : Int) > 40
  · exact ⟨false, fun k _ => by unfold plimsolllaw14_few.f; exact if_pos h, fun h => by cases h⟩
  · have hl : ∀ (d i : Nat), i + d = l.length → ∃ b, ∀ k, d < k → plimsolllaw14_few.l0 k l i = some b := by
      intro d
      induction d with
      | zero =>
        intro i hi
        refine ⟨true, fun k hk => ?_⟩
        obtain ⟨k, rfl⟩ : ∃ n, k = n + 1 := ⟨k - 1, by omega⟩
        rw [plimsolllaw14_few.l0]
        exact if_neg (by omega)
      | succ d ih =>
        intro i hi
        have hi1 : i < l.length := by omega
        obtain ⟨b, hb⟩ := ih (i + 1) (by omega)
        by_cases hc : (((rd_T27 l i).f0).length : Int) > 100
        · refine ⟨false, fun k hk => ?_⟩
          obtain ⟨k, rfl⟩ : ∃ n, k = n + 1 := ⟨k - 1, by omega⟩
          rw [plimsolllaw14_few.l0]
          exact (if_pos (by omega)).trans ((if_pos (by omega)).trans (if_pos hc))
        · refine ⟨b, fun k hk => ?_⟩
          obtain ⟨k, rfl⟩ : ∃ n, k = n + 1 := ⟨k - 1, by omega⟩
          rw [plimsolllaw14_few.l0]
          refine (if_pos (by omega)).trans ((if_pos (by omega)).trans ((if_neg hc).trans ?_))
          rw [inc_nat hi1 (by omega)]
          exact hb k (by omega)
    obtain ⟨b, hb⟩ := hl l.length 0 (by omega)
    exact ⟨b, fun k hk => by unfold plimsolllaw14_few.f; exact (if_neg h).trans (hb k (by omega)), fun _ => by omega⟩
theorem ints_l (x y : List Int) (hx : x.length ≤ 1000000) (hl : x.length = y.length) : ∀ (d k i : Nat), d < k → i + d = x.length → plimsollref01_Ints.l0 k x y i = some (decide (x.drop i = y.drop i)) := by
  intro d
  induction d with
  | zero =>
    intro k i hk hi
    obtain ⟨k, rfl⟩ : ∃ n, k = n + 1 := ⟨k - 1, by omega⟩
    rw [plimsollref01_Ints.l0]
    refine (if_neg (by omega)).trans ?_
    rw [List.drop_of_length_le (show x.length ≤ i by omega), List.drop_of_length_le (show y.length ≤ i by omega)]; simp
  | succ d ih =>
    intro k i hk hi
    obtain ⟨k, rfl⟩ : ∃ n, k = n + 1 := ⟨k - 1, by omega⟩
    have h1 : i < x.length := by omega
    have h2 : i < y.length := by omega
    rw [plimsollref01_Ints.l0]
    refine (if_pos (by omega)).trans ((if_pos (by omega)).trans ((if_pos (by omega)).trans ?_))
    rw [rd_nat h1, rd_nat h2, List.drop_eq_getElem_cons h1, List.drop_eq_getElem_cons h2]
    by_cases he : x[i] = y[i]
    · refine (if_pos he).trans ?_
      rw [inc_nat h1 hx, ih k (i + 1) (by omega) (by omega)]
      congr 1; rw [decide_eq_decide, he]
      exact ⟨fun h => by rw [h], fun h => by injection h⟩
    · refine (if_neg he).trans ?_
      congr 1; symm; rw [decide_eq_false_iff_not]; intro h; injection h with h; exact he h
theorem ints_val (x y : List Int) (hx : x.length ≤ 1000000) (k : Nat) (hk : x.length + 1 ≤ k) : plimsollref01_Ints.f k x y = some (decide (x = y)) := by
  unfold plimsollref01_Ints.f
  by_cases hl : x.length = y.length
  · refine (if_pos (by omega)).trans ?_
    have := ints_l x y hx hl x.length k 0 (by omega) (by omega)
    simpa using this
  · refine (if_neg (by omega)).trans ?_
    congr 1; symm; rw [decide_eq_false_iff_not]; intro h; exact hl (by rw [h])
theorem same_val (x : List Int) (a : Int) (y : List Int) (b : Int) (hx : x.length ≤ 1000000) (k : Nat) (hk : x.length + 1 ≤ k) : plimsollref14_Same.f k x a y b = some (decide (a = b ∧ x = y)) := by
  unfold plimsollref14_Same.f
  rw [ints_val x y hx k hk]
  by_cases h : a = b
  · rw [if_pos h]; simp [h]
  · rw [if_neg h]; simp [h]
theorem sumSpec_len {rs : List (List Int × Int)} {ts : List Int} {vars : Int} {c : List Int} {m : Int} (h : sumSpec rs ts vars = some (c, m)) : (c.length : Int) = vars ∧ vars ≤ 64 := by
  unfold sumSpec at h
  split at h
  · rename_i hc
    rw [Option.bind_eq_some_iff] at h
    obtain ⟨⟨A, m'⟩, h1, h2⟩ := h
    rw [Option.bind_eq_some_iff] at h2
    obtain ⟨c', h3, h4⟩ := h2
    rw [Option.map_eq_some_iff] at h4
    obtain ⟨m2, _, h5⟩ := h4
    simp only [Prod.mk.injEq] at h5
    obtain ⟨rfl, rfl⟩ := h5
    have g := (sumR_some (vars := vars.toNat) _ _ _ _ _ _ (by simp) hc.1 h1).1
    have := getAll_some h3
    have e : A.length = c'.length := by have h7 := congrArg List.length this; simpa using h7
    omega
  · cases h
theorem implies_l (x y : List Int) (hx : x.length ≤ 1000000) (hl : x.length = y.length) (b : Int) : ∀ (d k i : Nat), d < k → i + d = x.length → lin_Implies.l0 k x (x.length : Int) i y b = some (decide (x.drop i = y.drop i)) := by
  intro d
  induction d with
  | zero =>
    intro k i hk hi
    obtain ⟨k, rfl⟩ : ∃ n, k = n + 1 := ⟨k - 1, by omega⟩
    rw [lin_Implies.l0]
    refine (if_neg (by omega)).trans ?_
    rw [List.drop_of_length_le (show x.length ≤ i by omega), List.drop_of_length_le (show y.length ≤ i by omega)]; simp
  | succ d ih =>
    intro k i hk hi
    obtain ⟨k, rfl⟩ : ∃ n, k = n + 1 := ⟨k - 1, by omega⟩
    have h1 : i < x.length := by omega
    have h2 : i < y.length := by omega
    rw [lin_Implies.l0]
    refine (if_pos (by omega)).trans ((if_pos (by omega)).trans ((if_pos (by omega)).trans ((if_pos (by omega)).trans ?_)))
    rw [rd_nat h1, rd_nat h2, List.drop_eq_getElem_cons h1, List.drop_eq_getElem_cons h2]
    by_cases he : x[i] = y[i]
    · refine (if_pos he).trans ?_
      rw [inc_nat h1 hx, ih k (i + 1) (by omega) (by omega)]
      congr 1; rw [decide_eq_decide, he]
      exact ⟨fun h => by rw [h], fun h => by injection h⟩
    · refine (if_neg he).trans ?_
      congr 1; symm; rw [decide_eq_false_iff_not]; intro h; injection h with h; exact he h
theorem implies_val (x : List Int) (a : Int) (y : List Int) (b : Int) (hx : x.length ≤ 1000000) (k : Nat) (hk : x.length + 2 ≤ k) : lin_Implies.f k x a y b = some (decide (x = y ∧ a ≤ b)) := by
  obtain ⟨k, rfl⟩ : ∃ n, k = n + 1 := ⟨k - 1, by omega⟩
  unfold lin_Implies.f
  by_cases hl : x.length = y.length
  · refine (if_pos (by omega)).trans ?_
    rw [lin_Implies.j0]
    by_cases hab : a > b
    · refine (if_pos (decide_eq_true hab)).trans ?_
      congr 1; symm; rw [decide_eq_false_iff_not]; omega
    · refine (if_neg (by simpa using hab)).trans ?_
      have := implies_l x y hx hl b x.length k 0 (by omega) (by omega)
      have h' : lin_Implies.l0 k x (x.length : Int) 0 y b = _ := this
      rw [h']
      congr 1; rw [decide_eq_decide, List.drop_zero, List.drop_zero]
      constructor
      · intro h; exact ⟨h, by omega⟩
      · intro h; exact h.1
  · refine (if_neg (by omega)).trans ?_
    rw [lin_Implies.j0]
    refine (if_pos rfl).trans ?_
    congr 1; symm; rw [decide_eq_false_iff_not]; intro h; exact hl (by rw [h.1])
theorem proves_val (l : List S27) (ts : List Int) (w : List Int) (mo : Int) (hl : l.length ≤ 1000) (k : Nat) (hk : 100000 ≤ k) : lin_Proves.f k l ts w mo = some (match sumSpec (pr l) ts (w.length : Int) with | some (c, m) => decide (c = w ∧ m ≤ mo) | none => false) := by
  unfold lin_Proves.f
  rw [sum_val l ts _ hl k hk]
  cases hs : sumSpec (pr l) ts (w.length : Int) with
  | none => simp [err]
  | some x =>
    obtain ⟨c, m⟩ := x
    have := sumSpec_len hs
    simp only [Option.bind_some, if_true]
    rw [implies_val c m w mo (by omega) k (by omega)]
    rfl
theorem LinProves : LinProves_Pure := by
  intro l ts w mo _ _ _ _
  obtain ⟨b, hb, hb2⟩ := few_val l
  refine ⟨100000 + 1, ?_⟩
  unfold plimsolllaw14_LinProves.f
  have out : plimsolllaw14_LinProves.j0 (100000 + 1) l ts true w mo = some true := by
    rw [plimsolllaw14_LinProves.j0, awake_ok _ (by omega)]; rfl
  rw [hb _ (by omega)]
  simp only [Option.bind_some]
  cases b with
  | false => rw [if_neg (by decide)]; exact out
  | true =>
    have hl := hb2 rfl
    rw [if_pos rfl]
    by_cases h100 : (w.length : Int) > 100
    · rw [decide_eq_true h100]; exact out
    · rw [decide_eq_false h100, plimsolllaw14_LinProves.j0, ref_sum_val l ts _ (by omega) _ (by omega), awake_ok _ (by omega), proves_val l ts w mo (by omega) _ (by omega)]
      simp only [Option.bind_some]
      refine (if_neg (by decide)).trans ?_
      cases hs : sumSpec (pr l) ts (w.length : Int) with
      | none => simp [rerr]
      | some x =>
        obtain ⟨c, m⟩ := x
        have := sumSpec_len hs
        simp only [if_true]
        rw [same_val c 0 w 0 (by omega) _ (by omega)]
        by_cases hc : c = w
        · simp [hc]
        · simp [hc]
end Go.Proofs.Ythfkajolockcgaa.Pure
