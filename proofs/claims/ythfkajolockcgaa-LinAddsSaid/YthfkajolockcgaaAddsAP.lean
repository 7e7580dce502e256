/- The plain side of LinAdds: sums of small inequalities, and of one more that counts nothing. -/
/- What the sums and the proofs of LinAdds come to, in plain lists; each theorem names its conditions. -/
import Derived.Test.YthfkajolockcgaaQLinAddsx4
import Derived.Test.YthfkajolockcgaaOpen
import Derived.Test.YthfkajolockcgaaLinPlain
namespace Go.Proofs.Ythfkajolockcgaa.Adds
open Go.RowKit Go.Proofs.Ythfkajolockcgaa.QLinAdds Go.Proofs.YthfkajolockcgaaW.PrintWords Go.Proofs.YthfkajolockcgaaW.PrintLast Go.Proofs.Ythfkajolockcgaa.Open Go.Proofs.Ythfkajolockcgaa.Lin
theorem awake_ok (k : Nat) (hk : 40 ≤ k) : plimsolllaw14_awake.f k = some true := by
  unfold plimsolllaw14_awake.f; rw [if_pos hk]
theorem inc_nat {i n : Nat} (h : i < n) (hn : n ≤ 1000000) : wrap64 ((i : Int) + 1) = ((i + 1 : Nat) : Int) := by unfold wrap64; omega
theorem rd_nat {x : List Int} {i : Nat} (h : i < x.length) : rd x (i : Int) = x[i] := by unfold rd; simp [List.getD_eq_getElem?_getD, List.getElem?_eq_getElem h]
theorem of_val (n : Int) : lin_of.f n = some (n, decide (Fine n)) := by
  unfold lin_of.f
  by_cases h : n > -4611686018427387904
  · refine (if_pos h).trans ?_
    congr 2; rw [decide_eq_decide]; unfold Fine; omega
  · refine (if_neg h).trans ?_
    have : ¬ Fine n := by unfold Fine; omega
    rw [decide_eq_false this]
theorem sv_of (n : Int) : sv (n, decide (Fine n)) = if Fine n then some n else none := by
  unfold sv; by_cases h : Fine n <;> simp [h]
theorem good_of (n : Int) : GoodP (n, decide (Fine n)) := fun h => of_decide_eq_true h
theorem plus_val (a b : Int × Bool) (ha : GoodP a) (hb : GoodP b) : ∃ r : Int × Bool, lin_sure_plus.f a.1 a.2 b.1 b.2 = some r ∧ GoodP r ∧ sv r = (sv a).bind fun s => (sv b).bind fun p => pls s p := by
  obtain ⟨x, xo⟩ := a
  obtain ⟨y, yo⟩ := b
  unfold lin_sure_plus.f
  cases xo with
  | false => exact ⟨(0, false), by simp, (fun h => by cases h), rfl⟩
  | true =>
    cases yo with
    | false => exact ⟨(0, false), by simp, (fun h => by cases h), rfl⟩
    | true =>
      have hx : Fine x := ha rfl
      have hy : Fine y := hb rfl
      have e : wrap64 (x + y) = x + y := by unfold Fine at hx hy; unfold wrap64; omega
      refine ⟨(x + y, decide (Fine (x + y))), by simp [of_val, e], good_of _, ?_⟩
      rw [sv_of]
      show _ = pls x y
      unfold pls
      by_cases h : Fine (x + y)
      · rw [if_pos h, if_pos ⟨hx, hy, h⟩]
      · rw [if_neg h, if_neg (fun h' => h h'.2.2)]
theorem size_val (n : Int) (h : Fine n) : lin_size.f n = some (n.natAbs : Int) := by
  unfold Fine at h
  unfold lin_size.f
  by_cases h0 : n < 0
  · rw [if_pos h0]
    have e : wrap64 (-n) = -n := by unfold wrap64; omega
    rw [e, IntWalk.u64_in _ (by omega)]; congr 1; omega
  · rw [if_neg h0, IntWalk.u64_in _ (by omega)]; congr 1; omega
theorem times_val (a b : Int × Bool) (ha : GoodP a) (hb : GoodP b) (k : Nat) (hk : 1 ≤ k) : ∃ r : Int × Bool, lin_sure_times.f k a.1 a.2 b.1 b.2 = some r ∧ GoodP r ∧ sv r = (sv a).bind fun x => (sv b).bind fun y => tms x y := by
  obtain ⟨k, rfl⟩ : ∃ m, k = m + 1 := ⟨k - 1, by omega⟩
  obtain ⟨x, xo⟩ := a
  obtain ⟨y, yo⟩ := b
  have no : (some (0, false) : Option (Int × Bool)) = some (0, false) ∧ GoodP (0, false) ∧ sv (0, false) = none := ⟨rfl, (fun h => by cases h), rfl⟩
  unfold lin_sure_times.f
  cases xo with
  | false => exact ⟨(0, false), by simp [lin_sure_times.j0], no.2.1, rfl⟩
  | true =>
    cases yo with
    | false => exact ⟨(0, false), by simp [lin_sure_times.j0], no.2.1, rfl⟩
    | true =>
      have hx : Fine x := ha rfl
      have hy : Fine y := hb rfl
      have fx := hx
      have fy := hy
      unfold Fine at fx fy
      obtain ⟨hi, lo, h1, h2, h3, h4, h5, h6⟩ := mul_words (x.natAbs : Int) (y.natAbs : Int) (by omega) (by omega) (by omega) (by omega)
      have hf := fine_prod x y
      have hm : bits_Mul64.f (x.natAbs : Int) (y.natAbs : Int) = some (hi, lo) := by unfold bits_Mul64.f; rw [h1, h2]
      show ∃ r : Int × Bool, (if true = true then lin_sure_times.j0 (k + 1) (!true) x true y true else lin_sure_times.j0 (k + 1) true x true y true) = some r ∧ GoodP r ∧ sv r = tms x y
      rw [if_pos rfl, lin_sure_times.j0, size_val x hx, size_val y hy]
      simp only [Option.bind_some, hm]
      rw [if_neg (by decide)]
      by_cases g1 : hi = 0
      · rw [if_pos g1]
        by_cases g2 : lo ≥ 4611686018427387904
        · rw [if_pos g2]
          refine ⟨_, rfl, no.2.1, ?_⟩
          unfold tms; rw [if_neg (fun h => by have := hf.1 h.2.2; omega)]; rfl
        · rw [if_neg g2]
          have hxy : Fine (x * y) := hf.2 (by omega)
          have e : wrap64 (x * y) = x * y := by unfold Fine at hxy; unfold wrap64; omega
          rw [e, of_val]
          refine ⟨_, rfl, good_of _, ?_⟩
          rw [sv_of, if_pos hxy]
          unfold tms; rw [if_pos ⟨hx, hy, hxy⟩]
      · rw [if_neg g1]
        refine ⟨_, rfl, no.2.1, ?_⟩
        unfold tms; rw [if_neg (fun h => by have := hf.1 h.2.2; omega)]; rfl
/-- one more product -/
theorem step_val (acc : Int × Bool) (c t : Int) (ha : GoodP acc) (k : Nat) (hk : 1 ≤ k) : ∃ p r : Int × Bool, lin_sure_times.f k c (decide (Fine c)) t (decide (Fine t)) = some p ∧ lin_sure_plus.f acc.1 acc.2 p.1 p.2 = some r ∧ GoodP r ∧ sv r = stp (sv acc) c t := by
  obtain ⟨p, h1, h2, h3⟩ := times_val (c, decide (Fine c)) (t, decide (Fine t)) (good_of c) (good_of t) k hk
  obtain ⟨r, h4, h5, h6⟩ := plus_val acc p ha h2
  refine ⟨p, r, h1, h4, h5, ?_⟩
  rw [h6, h3, sv_of, sv_of]
  unfold stp
  cases sv acc with
  | none => rfl
  | some s =>
    simp only [Option.bind_some]
    congr 1
    unfold tms
    by_cases g1 : Fine c
    · by_cases g2 : Fine t
      · simp [g1, g2]
      · simp [g1, g2]
    · simp [g1]
theorem fine0 : Fine 0 := by unfold Fine; omega
theorem bnd {α β : Type} {o : Option α} {a : α} {f : α → Option β} {r : Option β} (h : o = some a) (k : f a = r) : o.bind f = r := by rw [h]; exact k
def pr (l : List S27) : List (List Int × Int) := l.map fun x => (x.f0, x.f1)
def AX (X : List S49) : List (Option Int) := X.map fun s => sv (s.f0, s.f1)
def GX (X : List S49) : Prop := ∀ s ∈ X, GoodP (s.f0, s.f1)
theorem t49 {X : List S49} {i : Nat} (h : i < X.length) : rd_T49 X (i : Int) = X[i] := by unfold rd_T49; simp [List.getD_eq_getElem?_getD, List.getElem?_eq_getElem h]
theorem t27 {X : List S27} {i : Nat} (h : i < X.length) : rd_T27 X (i : Int) = X[i] := by unfold rd_T27; simp [List.getD_eq_getElem?_getD, List.getElem?_eq_getElem h]
theorem GX_set {X : List S49} (h : GX X) (i : Nat) (r : Int × Bool) (hr : GoodP r) : GX (X.set i ⟨r.1, r.2⟩) := by
  intro s hs
  rcases List.mem_or_eq_of_mem_set hs with hs | rfl
  · exact h s hs
  · exact hr
theorem AX_set (X : List S49) (i : Nat) (r : Int × Bool) : AX (X.set i ⟨r.1, r.2⟩) = (AX X).set i (sv r) := by unfold AX; rw [List.map_set]
theorem AX_len (X : List S49) : (AX X).length = X.length := by unfold AX; simp
theorem AX_get {X : List S49} {i : Nat} (h : i < X.length) : (AX X)[i]'(by rw [AX_len]; exact h) = sv (X[i].f0, X[i].f1) := by unfold AX; simp
def err : List Int × Int × Int := ([], 0, 14)
def fin (A : List (Option Int)) (m : Option Int) : List Int × Int × Int := match (getAll A).bind fun c => m.map fun x => (c, x) with | some (c, x) => (c, x, 0) | none => err

theorem sum_l2 (ts : List Int) (vars : Int) (rows : List S27) (x11 x46 x47 : Int) (cs : List Int) (mo t : Int) (hcs : cs.length ≤ 1000000) (ht0 : 0 ≤ x11) (ht1 : x11 < (ts.length : Int)) (ht : rd ts x11 = t) (m : Int × Bool) (hm : GoodP m) :
    ∀ (d k i : Nat) (X : List S49), d + 5 < k → i + d = cs.length → X.length = cs.length → GX X → ∃ X' m', GX X' ∧ GoodP m' ∧ X'.length = X.length ∧ AX X' = (AX X).take i ++ rowStp ((AX X).drop i) (cs.drop i) t ∧ sv m' = stp (sv m) mo t ∧
      lin_Sum.l2 k ts vars X x11 rows x46 x47 cs (cs.length : Int) i m.1 m.2 cs mo = lin_Sum.l1 (k - d - 1) ts vars X' rows x46 (wrap64 (x47 + 1)) m'.1 m'.2 := by
  intro d
  induction d with
  | zero =>
    intro k i X hk hi hX hG
    obtain ⟨k, rfl⟩ : ∃ n, k = n + 1 := ⟨k - 1, by omega⟩
    obtain ⟨p, r, h1, h2, h3, h4⟩ := step_val m mo t hm k (by omega)
    refine ⟨X, r, hG, h3, rfl, ?_, h4, ?_⟩
    · have : (AX X).length ≤ i := by rw [AX_len]; omega
      rw [List.take_of_length_le this, List.drop_of_length_le this]
      unfold rowStp; simp
    · rw [lin_Sum.l2]
      refine (if_neg (by omega)).trans ?_
      rw [of_val]
      simp only [Option.bind_some]
      refine (if_pos ht0).trans ((if_pos ht1).trans ?_)
      rw [ht, of_val]
      simp only [Option.bind_some, h1, h2]
      rfl
  | succ d ih =>
    intro k i X hk hi hX hG
    obtain ⟨k, rfl⟩ : ∃ n, k = n + 1 := ⟨k - 1, by omega⟩
    have hi1 : i < cs.length := by omega
    have hi2 : i < X.length := by omega
    have hG1 : GoodP (X[i].f0, X[i].f1) := hG _ (List.getElem_mem hi2)
    obtain ⟨p, r, h1, h2, h3, h4⟩ := step_val (X[i].f0, X[i].f1) cs[i] t hG1 k (by omega)
    obtain ⟨X', m', g1, g2, g3, g4, g5, g6⟩ := ih k (i + 1) (X.set i ⟨r.1, r.2⟩) (by omega) (by omega) (by rw [List.length_set]; exact hX) (GX_set hG i r h3)
    refine ⟨X', m', g1, g2, by rw [g3, List.length_set], ?_, g5, ?_⟩
    · rw [g4, AX_set, h4, ← AX_get hi2]
      have hA : i < (AX X).length := by rw [AX_len]; exact hi2
      rw [List.drop_set_of_lt (by omega), List.take_succ_eq_append_getElem (by rw [List.length_set]; exact hA), List.take_set_of_le (by omega), List.getElem_set_self]
      rw [List.drop_eq_getElem_cons hA, List.drop_eq_getElem_cons hi1, List.append_assoc]
      rfl
    · rw [lin_Sum.l2]
      refine (if_pos (by omega)).trans ((if_pos (by omega)).trans ((if_pos (by omega)).trans ((if_pos (by omega)).trans ?_)))
      rw [rd_nat hi1, of_val]
      simp only [Option.bind_some]
      refine (if_pos ht0).trans ((if_pos ht1).trans ?_)
      rw [ht, of_val, t49 hi2]
      simp only [Option.bind_some, h1, h2]
      rw [inc_nat hi1 hcs]
      have e : (i : Int).toNat = i := by omega
      rw [e, g6, show k + 1 - (d + 1) - 1 = k - d - 1 by omega]

theorem sum_l3 (X : List S49) (hX : X.length ≤ 1000000) (m : Int × Bool) (mo : Int) : ∀ (d k i : Nat) (out : List Int), d < k → i + d = X.length → out.length = X.length →
    lin_Sum.l3 k X (X.length : Int) i m.1 m.2 out mo = some (match (getAll ((AX X).drop i)).bind fun c => if m.2 = true then some (out.take i ++ c) else none with | some c => (c, mo, 0) | none => err) := by
  intro d
  induction d with
  | zero =>
    intro k i out hk hi ho
    obtain ⟨k, rfl⟩ : ∃ n, k = n + 1 := ⟨k - 1, by omega⟩
    rw [lin_Sum.l3]
    refine (if_neg (by omega)).trans ?_
    rw [List.drop_of_length_le (by rw [AX_len]; omega), List.take_of_length_le (by omega)]
    cases m.2 <;> simp [getAll, err]
  | succ d ih =>
    intro k i out hk hi ho
    obtain ⟨k, rfl⟩ : ∃ n, k = n + 1 := ⟨k - 1, by omega⟩
    have hi2 : i < X.length := by omega
    have hA : i < (AX X).length := by rw [AX_len]; exact hi2
    rw [lin_Sum.l3]
    refine (if_pos (by omega)).trans ((if_pos (by omega)).trans ((if_pos (by omega)).trans ?_))
    rw [t49 hi2, List.drop_eq_getElem_cons hA, AX_get hi2]
    by_cases hok : X[i].f1 = true
    · refine (if_pos hok).trans ((if_pos (by omega)).trans ?_)
      have e : (i : Int).toNat = i := by omega
      rw [inc_nat hi2 hX, e, ih k (i + 1) _ (by omega) (by omega) (by rw [List.length_set]; exact ho)]
      have es : sv (X[i].f0, X[i].f1) = some X[i].f0 := by unfold sv; rw [if_pos hok]
      rw [es, List.take_succ_eq_append_getElem (by rw [List.length_set]; omega), List.take_set_of_le (by omega), List.getElem_set_self]
      simp only [getAll]
      cases getAll ((AX X).drop (i + 1)) with
      | none => rfl
      | some c => cases m.2 <;> simp
    · refine (if_neg hok).trans ?_
      have es : sv (X[i].f0, X[i].f1) = none := by unfold sv; rw [if_neg hok]
      rw [es]; rfl

theorem sum_l1 (rows : List S27) (ts : List Int) (vars : Nat) (hv : vars ≤ 64) (hr : rows.length ≤ 1000000) (hl : rows.length = ts.length) : ∀ (d k i : Nat) (X : List S49) (m : Int × Bool), (d + 1) * (vars + 10) < k → i + d = rows.length → X.length = vars → GX X → GoodP m →
    lin_Sum.l1 k ts (vars : Int) X rows (rows.length : Int) i m.1 m.2 = some (match sumR vars ((pr rows).drop i) (ts.drop i) (AX X) (sv m) with | none => err | some x => fin x.1 x.2) := by
  intro d
  induction d with
  | zero =>
    intro k i X m hk hi hX hG hm
    obtain ⟨k, rfl⟩ : ∃ n, k = n + 1 := ⟨k - 1, by omega⟩
    rw [lin_Sum.l1]
    refine (if_neg (by omega)).trans ((if_pos (by omega)).trans ((if_pos (by omega)).trans ?_))
    have h := sum_l3 X (by omega) m m.1 X.length k 0 (List.replicate vars 0) (by omega) (by omega) (by simp [hX])
    have e : ((vars : Int)).toNat = vars := by omega
    rw [e]
    have h' := h
    simp only [Int.natCast_zero, List.drop_zero, List.take_zero, List.nil_append] at h'
    rw [h']
    have e1 : (pr rows).drop i = [] := List.drop_of_length_le (by unfold pr; simp; omega)
    rw [e1, List.drop_of_length_le (show ts.length ≤ i by omega)]
    simp only [sumR, fin]
    congr 1
    cases getAll (AX X) with
    | none => rfl
    | some c => 
      obtain ⟨mx, mo⟩ := m
      cases mo <;> simp [sv]
  | succ d ih =>
    intro k i X m hk hi hX hG hm
    obtain ⟨k, rfl⟩ : ∃ n, k = n + 1 := ⟨k - 1, by omega⟩
    have hi1 : i < rows.length := by omega
    have hi2 : i < ts.length := by omega
    have hp : i < (pr rows).length := by unfold pr; simp; omega
    have hpe : (pr rows)[i] = (rows[i].f0, rows[i].f1) := List.getElem_map _
    have hmul : (d + 1 + 1) * (vars + 10) = (d + 1) * (vars + 10) + (vars + 10) := Nat.succ_mul _ _
    obtain ⟨k, rfl⟩ : ∃ n, k = n + 1 := ⟨k - 1, by omega⟩
    rw [lin_Sum.l1]
    refine (if_pos (by omega)).trans ((if_pos (by omega)).trans ((if_pos (by omega)).trans ((if_pos (by omega)).trans ?_)))
    rw [rd_nat hi2, t27 hi1, List.drop_eq_getElem_cons hp, List.drop_eq_getElem_cons hi2, hpe]
    simp only [sumR]
    have bad : (ts[i] < 0 ∨ rows[i].f0.length ≠ vars) → lin_Sum.j3 (k + 1) ts (vars : Int) X i rows (rows.length : Int) i true m.1 m.2 rows[i].f0 rows[i].f1 = some (match (if ts[i] < 0 ∨ rows[i].f0.length ≠ vars then none else sumR vars ((pr rows).drop (i + 1)) (ts.drop (i + 1)) (rowStp (AX X) rows[i].f0 ts[i]) (stp (sv m) rows[i].f1 ts[i])) with | none => err | some x => fin x.1 x.2) := by
      intro h
      rw [if_pos h, lin_Sum.j3]
      exact if_pos rfl
    by_cases ht : ts[i] < 0
    · refine (if_pos ht).trans ?_
      exact bad (.inl ht)
    · refine (if_neg ht).trans ?_
      by_cases hc : rows[i].f0.length = vars
      · have e : ((rows[i].f0.length : Int) != (vars : Int)) = false := by simp [hc]
        rw [e, if_neg (fun h => h.elim ht (fun h => h hc)), lin_Sum.j3]
        refine (if_neg (by decide)).trans ?_
        obtain ⟨X', m', g1, g2, g3, g4, g5, g6⟩ := sum_l2 ts (vars : Int) rows i (rows.length : Int) i rows[i].f0 rows[i].f1 ts[i] (by omega) (by omega) (by omega) (rd_nat hi2) m hm rows[i].f0.length k 0 X (by omega) (by omega) (by omega) hG
        have g6' : lin_Sum.l2 k ts (vars : Int) X i rows (rows.length : Int) i rows[i].f0 (rows[i].f0.length : Int) 0 m.1 m.2 rows[i].f0 rows[i].f1 = _ := g6
        rw [g6', inc_nat hi1 hr, ih _ (i + 1) X' m' (by omega) (by omega) (by omega) g1 g2, g4, g5]
        rfl
      · have e : ((rows[i].f0.length : Int) != (vars : Int)) = true := by simp; omega
        rw [e]
        exact bad (.inr hc)

theorem sum_l0 (rows : List S27) (ts : List Int) (vars : Int) (n : Nat) (hn : n ≤ 64) : ∀ (d k i : Nat) (X : List S49), d < k → i + d = n → X.length = n → (∀ (j : Nat) (h : j < X.length), j < i → X[j] = ⟨0, true⟩) →
    ∃ m : Int × Bool, GoodP m ∧ sv m = some 0 ∧ lin_Sum.l0 k rows ts vars X (n : Int) i = lin_Sum.l1 (k - d - 1) ts vars (List.replicate n ⟨0, true⟩) rows (rows.length : Int) 0 m.1 m.2 := by
  intro d
  induction d with
  | zero =>
    intro k i X hk hi hX hall
    obtain ⟨k, rfl⟩ : ∃ n, k = n + 1 := ⟨k - 1, by omega⟩
    refine ⟨(0, decide (Fine 0)), good_of 0, by rw [sv_of, if_pos fine0], ?_⟩
    rw [lin_Sum.l0]
    refine (if_neg (by omega)).trans ?_
    rw [of_val]
    simp only [Option.bind_some]
    have : X = List.replicate n ⟨0, true⟩ := List.ext_getElem (by simp [hX]) (fun j h1 h2 => by rw [hall j h1 (by omega)]; simp)
    rw [this]; rfl
  | succ d ih =>
    intro k i X hk hi hX hall
    obtain ⟨k, rfl⟩ : ∃ n, k = n + 1 := ⟨k - 1, by omega⟩
    rw [lin_Sum.l0]
    obtain ⟨m, h1, h2, h3⟩ := ih k (i + 1) (X.set i ⟨0, true⟩) (by omega) (by omega) (by rw [List.length_set]; exact hX) (fun j hj hji => by
      rw [List.getElem_set]
      split
      · rfl
      · rw [List.length_set] at hj
        exact hall j hj (by omega))
    refine ⟨m, h1, h2, ?_⟩
    refine (if_pos (by omega)).trans ?_
    rw [of_val]
    simp only [Option.bind_some]
    refine (if_pos (by omega)).trans ((if_pos (by omega)).trans ?_)
    have e : (i : Int).toNat = i := by omega
    rw [e, decide_eq_true fine0, inc_nat (show i < n by omega) (by omega), h3, show k + 1 - (d + 1) - 1 = k - d - 1 by omega]

theorem sum_val (l : List S27) (ts : List Int) (vars : Int) (hl : l.length ≤ 1000) (k : Nat) (hk : 100000 ≤ k) : lin_Sum.f k l ts vars = some (match sumSpec (pr l) ts vars with | some (c, m) => (c, m, 0) | none => err) := by
  obtain ⟨k, rfl⟩ : ∃ n, k = n + 1 := ⟨k - 1, by omega⟩
  unfold lin_Sum.f
  have hpl : (pr l).length = l.length := by unfold pr; simp
  have bad : sumSpec (pr l) ts vars = none → lin_Sum.j0 (k + 1) l ts vars true = some (match sumSpec (pr l) ts vars with | some (c, m) => (c, m, 0) | none => err) := by
    intro h; rw [h, lin_Sum.j0]; exact if_pos rfl
  by_cases h1 : l.length = ts.length
  · refine (if_pos (by omega)).trans ?_
    by_cases h2 : vars < 0
    · refine (if_pos h2).trans ?_
      exact bad (by unfold sumSpec; rw [if_neg (by omega)])
    · refine (if_neg h2).trans ?_
      by_cases h3 : vars > 64
      · rw [decide_eq_true h3]
        exact bad (by unfold sumSpec; rw [if_neg (by omega)])
      · rw [decide_eq_false h3, lin_Sum.j0]
        refine (if_neg (by decide)).trans ((if_pos (by omega)).trans ((if_pos (by omega)).trans ?_))
        simp only [Option.bind_some]
        obtain ⟨m, g1, g2, g3⟩ := sum_l0 l ts vars vars.toNat (by omega) vars.toNat k 0 (List.replicate vars.toNat z49) (by omega) (by omega) (by simp) (fun j _ hj => by omega)
        have e : ((List.replicate vars.toNat z49).length : Int) = (vars.toNat : Int) := by simp
        have e0 : (((0 : Nat)) : Int) = 0 := rfl
        rw [e0] at g3
        rw [e, g3]
        have ev : vars = (vars.toNat : Int) := by omega
        have hbig : (l.length + 1) * (vars.toNat + 10) ≤ 1001 * 74 := Nat.mul_le_mul (by omega) (by omega)
        have h := sum_l1 l ts vars.toNat (by omega) (by omega) h1 l.length (k - vars.toNat - 1) 0 (List.replicate vars.toNat ⟨0, true⟩) m (by omega) (by omega) (by simp) (fun s hs => by rw [List.eq_of_mem_replicate hs]; exact fun _ => fine0) g1
        rw [← ev, e0] at h
        rw [h]
        unfold sumSpec
        rw [if_pos ⟨by omega, by omega, by omega⟩]
        have ea : AX (List.replicate vars.toNat ⟨0, true⟩) = List.replicate vars.toNat (some 0) := by unfold AX; simp [sv]
        rw [ea, g2, List.drop_zero, List.drop_zero]
        congr 1
        cases sumR vars.toNat (pr l) ts (List.replicate vars.toNat (some 0)) (some 0) with
        | none => rfl
        | some x => simp only [Option.bind_some, fin]
  · refine (if_neg (by omega)).trans ?_
    exact bad (by unfold sumSpec; rw [if_neg (by omega)])
theorem few_val (l : List S27) : ∃ b, (∀ k, 100 ≤ k → plimsolllaw14_few.f k l = some b) ∧ (b = true → l.length ≤ 40) := by
  by_cases h : (l.length : Int) > 40
  · exact ⟨false, fun k _ => by unfold plimsolllaw14_few.f; exact if_pos h, fun h => by cases h⟩
  · have hl : ∀ (d i : Nat), i + d = l.length → ∃ b, ∀ k, d < k → plimsolllaw14_few.l0 k l i = some b := by
      intro d
      induction d with
      | zero =>
        intro i hi
        refine ⟨true, fun k hk => ?_⟩
        obtain ⟨k, rfl⟩ : ∃ n, k = n + 1 := ⟨k - 1, by omega⟩
        rw [plimsolllaw14_few.l0]
        exact if_neg (by omega)
      | succ d ih =>
        intro i hi
        have hi1 : i < l.length := by omega
        obtain ⟨b, hb⟩ := ih (i + 1) (by omega)
        by_cases hc : (((rd_T27 l i).f0).length : Int) > 100
        · refine ⟨false, fun k hk => ?_⟩
          obtain ⟨k, rfl⟩ : ∃ n, k = n + 1 := ⟨k - 1, by omega⟩
          rw [plimsolllaw14_few.l0]
          exact (if_pos (by omega)).trans ((if_pos (by omega)).trans (if_pos hc))
        · refine ⟨b, fun k hk => ?_⟩
          obtain ⟨k, rfl⟩ : ∃ n, k = n + 1 := ⟨k - 1, by omega⟩
          rw [plimsolllaw14_few.l0]
          refine (if_pos (by omega)).trans ((if_pos (by omega)).trans ((if_neg hc).trans ?_))
          rw [inc_nat hi1 (by omega)]
          exact hb k (by omega)
    obtain ⟨b, hb⟩ := hl l.length 0 (by omega)
    exact ⟨b, fun k hk => by unfold plimsolllaw14_few.f; exact (if_neg h).trans (hb k (by omega)), fun _ => by omega⟩
theorem ints_l (x y : List Int) (hx : x.length ≤ 1000000) (hl : x.length = y.length) : ∀ (d k i : Nat), d < k → i + d = x.length → plimsollref01_Ints.l0 k x y i = some (decide (x.drop i = y.drop i)) := by
  intro d
  induction d with
  | zero =>
    intro k i hk hi
    obtain ⟨k, rfl⟩ : ∃ n, k = n + 1 := ⟨k - 1, by omega⟩
    rw [plimsollref01_Ints.l0]
    refine (if_neg (by omega)).trans ?_
    rw [List.drop_of_length_le (show x.length ≤ i by omega), List.drop_of_length_le (show y.length ≤ i by omega)]; simp
  | succ d ih =>
    intro k i hk hi
    obtain ⟨k, rfl⟩ : ∃ n, k = n + 1 := ⟨k - 1, by omega⟩
    have h1 : i < x.length := by omega
    have h2 : i < y.length := by omega
    rw [plimsollref01_Ints.l0]
    refine (if_pos (by omega)).trans ((if_pos (by omega)).trans ((if_pos (by omega)).trans ?_))
    rw [rd_nat h1, rd_nat h2, List.drop_eq_getElem_cons h1, List.drop_eq_getElem_cons h2]
    by_cases he : x[i] = y[i]
    · refine (if_pos he).trans ?_
      rw [inc_nat h1 hx, ih k (i + 1) (by omega) (by omega)]
      congr 1; rw [decide_eq_decide, he]
      exact ⟨fun h => by rw [h], fun h => by injection h⟩
    · refine (if_neg he).trans ?_
      congr 1; symm; rw [decide_eq_false_iff_not]; intro h; injection h with h; exact he h
theorem ints_val (x y : List Int) (hx : x.length ≤ 1000000) (k : Nat) (hk : x.length + 1 ≤ k) : plimsollref01_Ints.f k x y = some (decide (x = y)) := by
  unfold plimsollref01_Ints.f
  by_cases hl : x.length = y.length
  · refine (if_pos (by omega)).trans ?_
    have := ints_l x y hx hl x.length k 0 (by omega) (by omega)
    simpa using this
  · refine (if_neg (by omega)).trans ?_
    congr 1; symm; rw [decide_eq_false_iff_not]; intro h; exact hl (by rw [h])
theorem same_val (x : List Int) (a : Int) (y : List Int) (b : Int) (hx : x.length ≤ 1000000) (k : Nat) (hk : x.length + 1 ≤ k) : plimsollref14_Same.f k x a y b = some (decide (a = b ∧ x = y)) := by
  unfold plimsollref14_Same.f
  rw [ints_val x y hx k hk]
  by_cases h : a = b
  · rw [if_pos h]; simp [h]
  · rw [if_neg h]; simp [h]
theorem sumSpec_len {rs : List (List Int × Int)} {ts : List Int} {vars : Int} {c : List Int} {m : Int} (h : sumSpec rs ts vars = some (c, m)) : (c.length : Int) = vars ∧ vars ≤ 64 := by
  unfold sumSpec at h
  split at h
  · rename_i hc
    rw [Option.bind_eq_some_iff] at h
    obtain ⟨⟨A, m'⟩, h1, h2⟩ := h
    rw [Option.bind_eq_some_iff] at h2
    obtain ⟨c', h3, h4⟩ := h2
    rw [Option.map_eq_some_iff] at h4
    obtain ⟨m2, _, h5⟩ := h4
    simp only [Prod.mk.injEq] at h5
    obtain ⟨rfl, rfl⟩ := h5
    have g := (sumR_some (vars := vars.toNat) _ _ _ _ _ _ (by simp) hc.1 h1).1
    have := getAll_some h3
    have e : A.length = c'.length := by have h7 := congrArg List.length this; simpa using h7
    omega
  · cases h
theorem implies_l (x y : List Int) (hx : x.length ≤ 1000000) (hl : x.length = y.length) (b : Int) : ∀ (d k i : Nat), d < k → i + d = x.length → lin_Implies.l0 k x (x.length : Int) i y b = some (decide (x.drop i = y.drop i)) := by
  intro d
  induction d with
  | zero =>
    intro k i hk hi
    obtain ⟨k, rfl⟩ : ∃ n, k = n + 1 := ⟨k - 1, by omega⟩
    rw [lin_Implies.l0]
    refine (if_neg (by omega)).trans ?_
    rw [List.drop_of_length_le (show x.length ≤ i by omega), List.drop_of_length_le (show y.length ≤ i by omega)]; simp
  | succ d ih =>
    intro k i hk hi
    obtain ⟨k, rfl⟩ : ∃ n, k = n + 1 := ⟨k - 1, by omega⟩
    have h1 : i < x.length := by omega
    have h2 : i < y.length := by omega
    rw [lin_Implies.l0]
    refine (if_pos (by omega)).trans ((if_pos (by omega)).trans ((if_pos (by omega)).trans ((if_pos (by omega)).trans ?_)))
    rw [rd_nat h1, rd_nat h2, List.drop_eq_getElem_cons h1, List.drop_eq_getElem_cons h2]
    by_cases he : x[i] = y[i]
    · refine (if_pos he).trans ?_
      rw [inc_nat h1 hx, ih k (i + 1) (by omega) (by omega)]
      congr 1; rw [decide_eq_decide, he]
      exact ⟨fun h => by rw [h], fun h => by injection h⟩
    · refine (if_neg he).trans ?_
      congr 1; symm; rw [decide_eq_false_iff_not]; intro h; injection h with h; exact he h
theorem implies_val (x : List Int) (a : Int) (y : List Int) (b : Int) (hx : x.length ≤ 1000000) (k : Nat) (hk : x.length + 2 ≤ k) : lin_Implies.f k x a y b = some (decide (x = y ∧ a ≤ b)) := by
  obtain ⟨k, rfl⟩ : ∃ n, k = n + 1 := ⟨k - 1, by omega⟩
  unfold lin_Implies.f
  by_cases hl : x.length = y.length
  · refine (if_pos (by omega)).trans ?_
    rw [lin_Implies.j0]
    by_cases hab : a > b
    · refine (if_pos (decide_eq_true hab)).trans ?_
      congr 1; symm; rw [decide_eq_false_iff_not]; omega
    · refine (if_neg (by simpa using hab)).trans ?_
      have := implies_l x y hx hl b x.length k 0 (by omega) (by omega)
      have h' : lin_Implies.l0 k x (x.length : Int) 0 y b = _ := this
      rw [h']
      congr 1; rw [decide_eq_decide, List.drop_zero, List.drop_zero]
      constructor
      · intro h; exact ⟨h, by omega⟩
      · intro h; exact h.1
  · refine (if_neg (by omega)).trans ?_
    rw [lin_Implies.j0]
    refine (if_pos rfl).trans ?_
    congr 1; symm; rw [decide_eq_false_iff_not]; intro h; exact hl (by rw [h.1])
theorem proves_val (l : List S27) (ts : List Int) (w : List Int) (mo : Int) (hl : l.length ≤ 1000) (k : Nat) (hk : 100000 ≤ k) : lin_Proves.f k l ts w mo = some (match sumSpec (pr l) ts (w.length : Int) with | some (c, m) => decide (c = w ∧ m ≤ mo) | none => false) := by
  unfold lin_Proves.f
  rw [sum_val l ts _ hl k hk]
  cases hs : sumSpec (pr l) ts (w.length : Int) with
  | none => simp [err]
  | some x =>
    obtain ⟨c, m⟩ := x
    have := sumSpec_len hs
    simp only [Option.bind_some, if_true]
    rw [implies_val c m w mo (by omega) k (by omega)]
    rfl
/-! the sum of small rows, exactly -/
theorem getAll_map : ∀ (c : List Int), getAll (c.map some) = some c := by
  intro c
  induction c with
  | nil => rfl
  | cons x c ih => simp only [List.map_cons, getAll, ih, Option.map_some]
def colOf (rs : List (List Int × Int)) (v : Nat) : List Int := rs.map (fun r => r.1.getD v 0)
def SmallR (n : Nat) (r : List Int × Int) : Prop := r.1.length = n ∧ (∀ c ∈ r.1, -1099511627776 ≤ c ∧ c ≤ 1099511627776) ∧ -1099511627776 ≤ r.2 ∧ r.2 ≤ 1099511627776
theorem small_total {cs ts : List Int} (hn : cs.length ≤ 11) (hc : ∀ c ∈ cs, -1099511627776 ≤ c ∧ c ≤ 1099511627776) (ht : ∀ t ∈ ts, 0 ≤ t ∧ t ≤ 510) : dotF (some 0) cs ts = some (prodSum cs ts) := by
  have h := dotF_small (A := 1099511627776) (T := 510) (by omega) (by omega) cs ts 0 hc (fun t h => by have := ht t h; omega) (by
    have : cs.length * ((1099511627776 : Int) * 510).toNat ≤ 11 * ((1099511627776 : Int) * 510).toNat := Nat.mul_le_mul hn (Nat.le_refl _)
    have e : ((1099511627776 : Int) * 510).toNat = 560750930165760 := by decide
    rw [e] at this ⊢
    omega)
  rw [h]; congr 1; omega
theorem sum_small {rs : List (List Int × Int)} {ts : List Int} {n : Nat} (hl : rs.length = ts.length) (hn : rs.length ≤ 11) (hv : n ≤ 50) (ht : ∀ t ∈ ts, 0 ≤ t ∧ t ≤ 510) (hr : ∀ r ∈ rs, SmallR n r) :
    sumSpec rs ts (n : Int) = some ((List.range n).map (fun v => prodSum (colOf rs v) ts), prodSum (rs.map (·.2)) ts) := by
  unfold sumSpec
  rw [if_pos ⟨hl, by omega, by omega⟩]
  have en : (n : Int).toNat = n := by omega
  rw [en]
  cases hS : sumR n rs ts (List.replicate n (some 0)) (some 0) with
  | none =>
    obtain ⟨i, hi, hb, _⟩ := sumR_none rs ts _ _ hl hS
    exfalso
    rcases hb with hb | hb
    · have := ht (ts.getD i 0) (by rw [List.getD_eq_getElem?_getD, List.getElem?_eq_getElem (by omega)]; exact List.getElem_mem _)
      omega
    · have := (hr (rs.getD i ([], 0)) (by rw [List.getD_eq_getElem?_getD, List.getElem?_eq_getElem hi]; exact List.getElem_mem _)).1
      exact hb this
  | some y =>
    obtain ⟨A, m⟩ := y
    obtain ⟨h1, h2, h3, _, _⟩ := sumR_some rs ts _ _ A m (by simp) hl hS
    have e2 : m = some (prodSum (rs.map (·.2)) ts) := by
      rw [h2]
      exact small_total (by simpa using hn) (fun c hc => by
        obtain ⟨r, hr', rfl⟩ := List.mem_map.1 hc
        exact (hr r hr').2.2) ht
    have e1 : A = ((List.range n).map (fun v => prodSum (colOf rs v) ts)).map some := by
      apply List.ext_getElem?
      intro v
      by_cases hvn : v < n
      · rw [h3 v hvn]
        have e0 : (List.replicate n (some (0 : Int)))[v]?.getD none = some 0 := by simp [hvn]
        rw [e0, small_total (by simpa using hn) (fun c hc => by
          obtain ⟨r, hr', rfl⟩ := List.mem_map.1 hc
          have g := hr r hr'
          have hv' : v < r.1.length := by have := g.1; omega
          rw [List.getD_eq_getElem?_getD, List.getElem?_eq_getElem hv']
          exact g.2.1 _ (List.getElem_mem hv')) ht]
        simp [hvn, colOf]
      · rw [List.getElem?_eq_none (by omega), List.getElem?_eq_none (by simp; omega)]
    simp only [Option.bind_some]
    rw [e1, e2, getAll_map]
    rfl
theorem prodSum_append : ∀ (a c b d : List Int), a.length = c.length → prodSum (a ++ b) (c ++ d) = prodSum a c + prodSum b d := by
  intro a
  induction a with
  | nil => intro c b d h; cases c with
    | nil => simp [prodSum]
    | cons => simp at h
  | cons x a ih =>
    intro c b d h
    cases c with
    | nil => simp at h
    | cons y c =>
      simp only [List.cons_append, prodSum]
      rw [ih c b d (by simpa using h)]; omega
theorem prodSum_rev : ∀ (a c : List Int), a.length = c.length → prodSum a.reverse c.reverse = prodSum a c := by
  intro a
  induction a with
  | nil => intro c h; cases c with
    | nil => rfl
    | cons => simp at h
  | cons x a ih =>
    intro c h
    cases c with
    | nil => simp at h
    | cons y c =>
      rw [List.reverse_cons, List.reverse_cons, prodSum_append _ _ _ _ (by simpa using h), ih c (by simpa using h)]
      simp only [prodSum]; omega
theorem sum_rev {rs : List (List Int × Int)} {ts : List Int} {n : Nat} (hl : rs.length = ts.length) (hn : rs.length ≤ 11) (hv : n ≤ 50) (ht : ∀ t ∈ ts, 0 ≤ t ∧ t ≤ 510) (hr : ∀ r ∈ rs, SmallR n r) :
    sumSpec rs.reverse ts.reverse (n : Int) = sumSpec rs ts (n : Int) := by
  rw [sum_small hl hn hv ht hr, sum_small (by simpa using hl) (by simpa using hn) hv (fun t h => ht t (List.mem_reverse.1 h)) (fun r h => hr r (List.mem_reverse.1 h))]
  congr 2
  · apply List.map_congr_left
    intro v _
    unfold colOf
    rw [List.map_reverse, prodSum_rev _ _ (by simpa using hl)]
  · rw [List.map_reverse, prodSum_rev _ _ (by simpa using hl)]
theorem u8b {t : Int} (h : IntG .u8 t) : 0 ≤ t ∧ t ≤ 255 := by
  unfold IntG at h
  simp only [Lit.wf, Bool.and_eq_true, decide_eq_true_eq] at h
  exact h

theorem prodSum_twice : ∀ (a t : List Int), prodSum a (t.map (fun x => 2 * x)) = 2 * prodSum a t := by
  intro a
  induction a with
  | nil => intro t; cases t <;> simp [prodSum]
  | cons x a ih =>
    intro t
    cases t with
    | nil => simp [prodSum]
    | cons y t =>
      simp only [List.map_cons, prodSum, ih]
      rw [Int.mul_add, ← Int.mul_assoc, ← Int.mul_assoc, Int.mul_comm x 2]
theorem dotF_append : ∀ (a b c d : List Int) (s : Option Int), a.length = c.length → dotF s (a ++ b) (c ++ d) = dotF (dotF s a c) b d := by
  intro a
  induction a with
  | nil => intro b c d s h; cases c with
    | nil => cases b <;> cases d <;> rfl
    | cons y c => simp at h
  | cons x a ih => intro b c d s h; cases c with
    | nil => simp at h
    | cons y c => simp only [List.cons_append, dotF]; exact ih b c d _ (by simpa using h)
theorem small_fine {rs : List (List Int × Int)} {ts : List Int} (hn : rs.length ≤ 11) (hl : rs.length = ts.length) (cs : List Int) (hcl : cs.length = rs.length) (hc : ∀ c ∈ cs, -1099511627776 ≤ c ∧ c ≤ 1099511627776) (ht : ∀ t ∈ ts, 0 ≤ t ∧ t ≤ 510) : Fine (prodSum cs ts) := by
  rw [prodSum_sumN cs ts (by omega)]
  have hb : ∀ i, i < cs.length → -(560750930165760 : Int) ≤ cs.getD i 0 * ts.getD i 0 ∧ cs.getD i 0 * ts.getD i 0 ≤ 560750930165760 := by
    intro i hi
    have h1 := hc (cs.getD i 0) (by rw [List.getD_eq_getElem?_getD, List.getElem?_eq_getElem hi]; exact List.getElem_mem hi)
    have h2 := ht (ts.getD i 0) (by rw [List.getD_eq_getElem?_getD, List.getElem?_eq_getElem (by omega)]; exact List.getElem_mem _)
    generalize cs.getD i 0 = a at *
    generalize ts.getD i 0 = b at *
    constructor
    · have : -(1099511627776 : Int) * b ≤ a * b := Int.mul_le_mul_of_nonneg_right h1.1 h2.1
      omega
    · have : a * b ≤ (1099511627776 : Int) * b := Int.mul_le_mul_of_nonneg_right h1.2 h2.1
      omega
  obtain ⟨h1, h2⟩ := sumN_bound hb
  unfold Fine
  omega
/-- A row more, none of which counts. -/
theorem sum_more {rs : List (List Int × Int)} {ts : List Int} {n : Nat} {r : List Int × Int} (hl : rs.length = ts.length) (hn : rs.length ≤ 10) (hv : n ≤ 50) (ht : ∀ t ∈ ts, 0 ≤ t ∧ t ≤ 510) (hr : ∀ r ∈ rs, SmallR n r)
    (hrl : r.1.length = n) (hrc : ∀ c ∈ r.1, -1152921504606846976 < c ∧ c < 1152921504606846976) (hrm : -1152921504606846976 < r.2 ∧ r.2 < 1152921504606846976) :
    sumSpec (rs ++ [r]) (ts ++ [0]) (n : Int) = some ((List.range n).map (fun v => prodSum (colOf rs v) ts), prodSum (rs.map (·.2)) ts) := by
  unfold sumSpec
  rw [if_pos ⟨by simp [hl], by omega, by omega⟩]
  have en : (n : Int).toNat = n := by omega
  rw [en]
  have last : ∀ s c : Int, Fine s → -1152921504606846976 < c ∧ c < 1152921504606846976 → dotF (some s) [c] [0] = some s := by
    intro s c hs hc
    have h1 : tms c 0 = some 0 := by
      unfold tms
      rw [if_pos ⟨by unfold Fine; omega, fine0, by rw [Int.mul_zero]; exact fine0⟩, Int.mul_zero]
    have h2 : pls s 0 = some s := by
      unfold pls
      rw [if_pos ⟨hs, fine0, by rw [Int.add_zero]; exact hs⟩, Int.add_zero]
    show dotF (stp (some s) c 0) [] [] = some s
    have h3 : stp (some s) c 0 = some s := by
      unfold stp
      rw [Option.bind_some, h1, Option.bind_some, h2]
    rw [h3]
    rfl
  cases hS : sumR n (rs ++ [r]) (ts ++ [0]) (List.replicate n (some 0)) (some 0) with
  | none =>
    obtain ⟨i, hi, hb, _⟩ := sumR_none (rs ++ [r]) (ts ++ [0]) _ _ (by simp [hl]) hS
    exfalso
    have hi2 : i < rs.length + 1 := by simpa using hi
    rcases Nat.lt_or_ge i rs.length with h | h
    · rw [List.getD_eq_getElem?_getD, List.getD_eq_getElem?_getD, List.getElem?_append_left (by omega), List.getElem?_append_left h, List.getElem?_eq_getElem (by omega), List.getElem?_eq_getElem h] at hb
      rcases hb with hb | hb
      · have := ht _ (List.getElem_mem (show i < ts.length by omega))
        simp only [Option.getD_some] at hb
        omega
      · exact hb (hr _ (List.getElem_mem h)).1
    · have e : i = rs.length := by omega
      subst e
      rw [List.getD_eq_getElem?_getD, List.getD_eq_getElem?_getD, List.getElem?_append_right (by omega), List.getElem?_append_right (by omega), hl, Nat.sub_self] at hb
      rcases hb with hb | hb
      · simp at hb
      · exact hb hrl
  | some y =>
    obtain ⟨A, m⟩ := y
    obtain ⟨h1, h2, h3, _, _⟩ := sumR_some (rs ++ [r]) (ts ++ [0]) _ _ A m (by simp) (by simp [hl]) hS
    have e2 : m = some (prodSum (rs.map (·.2)) ts) := by
      rw [h2, List.map_append, dotF_append _ _ _ _ _ (by rw [List.length_map]; exact hl), small_total (by rw [List.length_map]; omega) (fun c hc => by
        obtain ⟨r', hr', rfl⟩ := List.mem_map.1 hc
        exact (hr r' hr').2.2) ht]
      exact last _ _ (small_fine (by omega) hl _ (List.length_map _) (fun c hc => by
        obtain ⟨r', hr', rfl⟩ := List.mem_map.1 hc
        exact (hr r' hr').2.2) ht) hrm
    have e1 : A = ((List.range n).map (fun v => prodSum (colOf rs v) ts)).map some := by
      apply List.ext_getElem?
      intro v
      by_cases hvn : v < n
      · rw [h3 v hvn]
        have e0 : (List.replicate n (some (0 : Int)))[v]?.getD none = some 0 := by simp [hvn]
        have hcb : ∀ c ∈ colOf rs v, -1099511627776 ≤ c ∧ c ≤ 1099511627776 := fun c hc => by
          obtain ⟨r', hr', rfl⟩ := List.mem_map.1 hc
          have g := hr r' hr'
          have hv' : v < r'.1.length := by have := g.1; omega
          rw [List.getD_eq_getElem?_getD, List.getElem?_eq_getElem hv']
          exact g.2.1 _ (List.getElem_mem hv')
        rw [e0, List.map_append, dotF_append _ _ _ _ _ (by rw [List.length_map]; exact hl)]
        have e5 : dotF (some 0) (rs.map (fun r => r.1.getD v 0)) ts = some (prodSum (colOf rs v) ts) := small_total (by rw [List.length_map]; omega) hcb ht
        have hv2 : v < r.1.length := by omega
        have hrv : -1152921504606846976 < r.1.getD v 0 ∧ r.1.getD v 0 < 1152921504606846976 := by rw [List.getD_eq_getElem?_getD, List.getElem?_eq_getElem hv2]; exact hrc _ (List.getElem_mem hv2)
        have e6 := last (prodSum (colOf rs v) ts) (r.1.getD v 0) (small_fine (by omega) hl (colOf rs v) (List.length_map _) hcb ht) hrv
        rw [e5, List.map_cons, List.map_nil, e6]
        simp [hvn]
      · rw [List.getElem?_eq_none (by omega), List.getElem?_eq_none (by simp; omega)]
    simp only [Option.bind_some]
    rw [e1, e2, getAll_map]
    rfl
end Go.Proofs.Ythfkajolockcgaa.Adds
