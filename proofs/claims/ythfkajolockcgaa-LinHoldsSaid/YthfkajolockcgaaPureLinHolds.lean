/- The pure statement of LinHolds: Holds answers as the reference's sums of products do, for any inequality and any numbers; no condition. -/
import Derived.Test.YthfkajolockcgaaRdLinHolds
import Derived.Test.YthfkajolockcgaaLinPlain
namespace Go.Proofs.Ythfkajolockcgaa.Pure
open Go.RowKit Go.Proofs.Ythfkajolockcgaa.QLinHolds Go.Proofs.YthfkajolockcgaaW.PrintWords Go.Proofs.YthfkajolockcgaaW.PrintLast Go.Proofs.Ythfkajolockcgaa.Open Go.Proofs.Ythfkajolockcgaa.RdLinHolds Go.Proofs.Ythfkajolockcgaa.Lin
theorem awake_ok (k : Nat) (hk : 40 ≤ k) : plimsolllaw14_awake.f k = some true := by
  unfold plimsolllaw14_awake.f; rw [if_pos hk]
theorem inc_nat {i n : Nat} (h : i < n) (hn : n ≤ 1000000) : wrap64 ((i : Int) + 1) = ((i + 1 : Nat) : Int) := by unfold wrap64; omega
theorem rd_nat {x : List Int} {i : Nat} (h : i < x.length) : rd x (i : Int) = x[i] := by unfold rd; simp [List.getD_eq_getElem?_getD, List.getElem?_eq_getElem h]
theorem of_val (n : Int) : lin_of.f n = some (n, decide (Fine n)) := by
  unfold lin_of.f
  by_cases h : n > -4611686018427387904
  · refine (if_pos h).trans ?_
    congr 2; rw [decide_eq_decide]; unfold Fine; omega
  · refine (if_neg h).trans ?_
    have : ¬ Fine n := by unfold Fine; omega
    rw [decide_eq_false this]
theorem sv_of (n : Int) : sv (n, decide (Fine n)) = if Fine n then some n else none := by
  unfold sv; by_cases h : Fine n <;> simp [h]
theorem good_of (n : Int) : GoodP (n, decide (Fine n)) := fun h => of_decide_eq_true h
theorem plus_val (a b : Int × Bool) (ha : GoodP a) (hb : GoodP b) : ∃ r : Int × Bool, lin_sure_plus.f a.1 a.2 b.1 b.2 = some r ∧ GoodP r ∧ sv r = (sv a).bind fun s => (sv b).bind fun p => pls s p := by
  obtain ⟨x, xo⟩ := a
  obtain ⟨y, yo⟩ := b
  unfold lin_sure_plus.f
  cases xo with
  | false => exact ⟨(0, false), by simp, (fun h => by cases h), rfl⟩
  | true =>
    cases yo with
    | false => exact ⟨(0, false), by simp, (fun h => by cases h), rfl⟩
    | true =>
      have hx : Fine x := ha rfl
      have hy : Fine y := hb rfl
      have e : wrap64 (x + y) = x + y := by unfold Fine at hx hy; unfold wrap64; omega
      refine ⟨(x + y, decide (Fine (x + y))), by simp [of_val, e], good_of _, ?_⟩
      rw [sv_of]
      show _ = pls x y
      unfold pls
      by_cases h : Fine (x + y)
      · rw [if_pos h, if_pos ⟨hx, hy, h⟩]
      · rw [if_neg h, if_neg (fun h' => h h'.2.2)]
theorem size_val (n : Int) (h : Fine n) : lin_size.f n = some (n.natAbs : Int) := by
  unfold Fine at h
  unfold lin_size.f
  by_cases h0 : n < 0
  · rw [if_pos h0]
    have e : wrap64 (-n) = -n := by unfold wrap64; omega
    rw [e, IntWalk.u64_in _ (by omega)]; congr 1; omega
  · rw [if_neg h0, IntWalk.u64_in _ (by omega)]; congr 1; omega
theorem times_val (a b : Int × Bool) (ha : GoodP a) (hb : GoodP b) (k : Nat) (hk : 1 ≤ k) : ∃ r : Int × Bool, lin_sure_times.f k a.1 a.2 b.1 b.2 = some r ∧ GoodP r ∧ sv r = (sv a).bind fun x => (sv b).bind fun y => tms x y := by
  obtain ⟨k, rfl⟩ : ∃ m, k = m + 1 := ⟨k - 1, by omega⟩
  obtain ⟨x, xo⟩ := a
  obtain ⟨y, yo⟩ := b
  have no : (some (0, false) : Option (Int × Bool)) = some (0, false) ∧ GoodP (0, false) ∧ sv (0, false) = none := ⟨rfl, (fun h => by cases h), rfl⟩
  unfold lin_sure_times.f
  cases xo with
  | false => exact ⟨(0, false), by simp [lin_sure_times.j0], no.2.1, rfl⟩
  | true =>
    cases yo with
    | false => exact ⟨(0, false), by simp [lin_sure_times.j0], no.2.1, rfl⟩
    | true =>
      have hx : Fine x := ha rfl
      have hy : Fine y := hb rfl
      have fx := hx
      have fy := hy
      unfold Fine at fx fy
      obtain ⟨hi, lo, h1, h2, h3, h4, h5, h6⟩ := mul_words (x.natAbs : Int) (y.natAbs : Int) (by omega) (by omega) (by omega) (by omega)
      have hf := fine_prod x y
      have hm : bits_Mul64.f (x.natAbs : Int) (y.natAbs : Int) = some (hi, lo) := by unfold bits_Mul64.f; rw [h1, h2]
      show ∃ r : Int × Bool, (if true = true then lin_sure_times.j0 (k + 1) (!true) x true y true else lin_sure_times.j0 (k + 1) true x true y true) = some r ∧ GoodP r ∧ sv r = tms x y
      rw [if_pos rfl, lin_sure_times.j0, size_val x hx, size_val y hy]
      simp only [Option.bind_some, hm]
      rw [if_neg (by decide)]
      by_cases g1 : hi = 0
      · rw [if_pos g1]
        by_cases g2 : lo ≥ 4611686018427387904
        · rw [if_pos g2]
          refine ⟨_, rfl, no.2.1, ?_⟩
          unfold tms; rw [if_neg (fun h => by have := hf.1 h.2.2; omega)]; rfl
        · rw [if_neg g2]
          have hxy : Fine (x * y) := hf.2 (by omega)
          have e : wrap64 (x * y) = x * y := by unfold Fine at hxy; unfold wrap64; omega
          rw [e, of_val]
          refine ⟨_, rfl, good_of _, ?_⟩
          rw [sv_of, if_pos hxy]
          unfold tms; rw [if_pos ⟨hx, hy, hxy⟩]
      · rw [if_neg g1]
        refine ⟨_, rfl, no.2.1, ?_⟩
        unfold tms; rw [if_neg (fun h => by have := hf.1 h.2.2; omega)]; rfl
/-- one more product -/
theorem step_val (acc : Int × Bool) (c t : Int) (ha : GoodP acc) (k : Nat) (hk : 1 ≤ k) : ∃ p r : Int × Bool, lin_sure_times.f k c (decide (Fine c)) t (decide (Fine t)) = some p ∧ lin_sure_plus.f acc.1 acc.2 p.1 p.2 = some r ∧ GoodP r ∧ sv r = stp (sv acc) c t := by
  obtain ⟨p, h1, h2, h3⟩ := times_val (c, decide (Fine c)) (t, decide (Fine t)) (good_of c) (good_of t) k hk
  obtain ⟨r, h4, h5, h6⟩ := plus_val acc p ha h2
  refine ⟨p, r, h1, h4, h5, ?_⟩
  rw [h6, h3, sv_of, sv_of]
  unfold stp
  cases sv acc with
  | none => rfl
  | some s =>
    simp only [Option.bind_some]
    congr 1
    unfold tms
    by_cases g1 : Fine c
    · by_cases g2 : Fine t
      · simp [g1, g2]
      · simp [g1, g2]
    · simp [g1]
theorem holds_l (q : List Int) (most : Int) (at_ : List Int) (hq : q.length ≤ 1000000) (hl : q.length = at_.length) : ∀ (d k i : Nat) (acc : Int × Bool), d + 1 < k → i + d = q.length → GoodP acc →
    lin_Holds.l0 k at_ q (q.length : Int) i q most acc.1 acc.2 = some (match dotF (sv acc) (q.drop i) (at_.drop i) with | some s => (decide (s ≤ most), 0) | none => (false, 14)) := by
  intro d
  induction d with
  | zero =>
    intro k i acc hk hi ha
    obtain ⟨k, rfl⟩ : ∃ m, k = m + 1 := ⟨k - 1, by omega⟩
    rw [lin_Holds.l0]
    refine (if_neg (by omega)).trans ?_
    rw [List.drop_of_length_le (show q.length ≤ i by omega)]
    obtain ⟨x, xo⟩ := acc
    cases xo <;> simp [dotF, sv]
  | succ d ih =>
    intro k i acc hk hi ha
    obtain ⟨k, rfl⟩ : ∃ m, k = m + 1 := ⟨k - 1, by omega⟩
    rw [lin_Holds.l0]
    refine (if_pos (by omega)).trans ((if_pos (by omega)).trans ((if_pos (by omega)).trans ?_))
    rw [rd_nat (show i < q.length by omega), rd_nat (show i < at_.length by omega), of_val, of_val]
    simp only [Option.bind_some]
    refine (if_pos (by omega)).trans ?_
    obtain ⟨p, r, h1, h2, h3, h4⟩ := step_val acc (q[i]'(by omega)) (at_[i]'(by omega)) ha k (by omega)
    rw [h1]
    simp only [Option.bind_some, h2]
    have hn := ih k (i + 1) r (by omega) (by omega) h3
    rw [inc_nat (show i < q.length by omega) hq, hn, h4, List.drop_eq_getElem_cons (show i < q.length by omega), List.drop_eq_getElem_cons (show i < at_.length by omega)]
    rfl
theorem fine0 : Fine 0 := by unfold Fine; omega
theorem holds_val (q : List Int) (most : Int) (at_ : List Int) (hq : q.length ≤ 1000000) (k : Nat) (hk : q.length + 2 ≤ k) :
    lin_Holds.f k q most at_ = some (if q.length = at_.length then (match dotF (some 0) q at_ with | some s => (decide (s ≤ most), (0 : Int)) | none => (false, 14)) else (false, 14)) := by
  unfold lin_Holds.f
  by_cases hl : q.length = at_.length
  · rw [if_pos (by omega), if_pos hl, of_val]
    simp only [Option.bind_some]
    have h := holds_l q most at_ hq hl q.length k 0 (0, decide (Fine 0)) (by omega) (by omega) (good_of 0)
    rw [sv_of, if_pos fine0] at h
    simpa using h
  · rw [if_neg (by omega), if_neg hl]
theorem ref_fine_val (n : Int) : plimsollref14_fine.f n = some (decide (Fine n)) := by
  unfold plimsollref14_fine.f
  by_cases h : n > -4611686018427387904
  · refine (if_pos h).trans ?_
    congr 1; rw [decide_eq_decide]; unfold Fine; omega
  · refine (if_neg h).trans ?_
    have : ¬ Fine n := by unfold Fine; omega
    rw [decide_eq_false this]
theorem quot_le {x y : Int} (hy : 0 < y) : (x > 4611686018427387903 / y) ↔ ¬ (x * y < 4611686018427387904) := by
  constructor
  · intro h h2
    have := (Int.le_ediv_iff_mul_le hy).2 (show x * y ≤ 4611686018427387903 by omega)
    omega
  · intro h
    by_cases g : x ≤ 4611686018427387903 / y
    · have := (Int.le_ediv_iff_mul_le hy).1 g
      omega
    · omega
theorem ref_times_val (a b : Int) (k : Nat) (hk : 3 ≤ k) : plimsollref14_Times.f k a b = some (match tms a b with | some p => (p, true) | none => (0, false)) := by
  obtain ⟨k, rfl⟩ : ∃ m, k = m + 3 := ⟨k - 3, by omega⟩
  unfold plimsollref14_Times.f
  rw [ref_fine_val, ref_fine_val]
  simp only [Option.bind_some]
  have bad : tms a b = none → plimsollref14_Times.j0 (k + 3) a b true = some (match tms a b with | some p => (p, true) | none => (0, false)) := by
    intro h; rw [h, plimsollref14_Times.j0]; rfl
  by_cases ha : Fine a
  · rw [if_pos (decide_eq_true ha)]
    by_cases hb : Fine b
    · rw [decide_eq_true hb, plimsollref14_Times.j0]
      refine (if_neg (by decide)).trans ?_
      by_cases a0 : a = 0
      · rw [if_pos a0, plimsollref14_Times.j1]
        refine (if_pos rfl).trans ?_
        have : tms a b = some 0 := by unfold tms; subst a0; rw [Int.zero_mul, if_pos ⟨ha, hb, by unfold Fine; omega⟩]
        rw [this]
      · rw [if_neg a0, plimsollref14_Times.j1]
        by_cases b0 : b = 0
        · refine (if_pos (by simp [b0])).trans ?_
          have : tms a b = some 0 := by unfold tms; subst b0; rw [Int.mul_zero, if_pos ⟨ha, hb, by unfold Fine; omega⟩]
          rw [this]
        · refine (if_neg (by simp [b0])).trans ?_
          have fa := ha
          have fb := hb
          unfold Fine at fa fb
          have two : ∀ x : Int, x = (a.natAbs : Int) → plimsollref14_Times.j2 (k + 1) a b x b = some (match tms a b with | some p => (p, true) | none => (0, false)) := by
            intro x hx
            have hf := fine_prod a b
            have q := quot_le (x := x) (y := (b.natAbs : Int)) (by omega)
            rw [hx, ← hf, ← hx] at q
            have hq0 : 0 ≤ (4611686018427387903 : Int) / (b.natAbs : Int) := Int.ediv_nonneg (by omega) (by omega)
            have hq1 : (4611686018427387903 : Int) / (b.natAbs : Int) ≤ 4611686018427387903 := by
              have := Int.ediv_le_self (b.natAbs : Int) (show (0 : Int) ≤ 4611686018427387903 by omega)
              exact this
            have fin : (if x > (4611686018427387903 : Int) / (b.natAbs : Int) then (some (0, false)) else (some (wrap64 (a * b), true)) : Option (Int × Bool)) = some (match tms a b with | some p => (p, true) | none => (0, false)) := by
              by_cases g : x > (4611686018427387903 : Int) / (b.natAbs : Int)
              · rw [if_pos g]
                have : tms a b = none := by unfold tms; rw [if_neg (fun h => (q.1 g) h.2.2)]
                rw [this]
              · rw [if_neg g]
                have hab : Fine (a * b) := by
                  by_cases h : Fine (a * b)
                  · exact h
                  · exact absurd (q.2 h) g
                have : tms a b = some (a * b) := by unfold tms; rw [if_pos ⟨ha, hb, hab⟩]
                rw [this]
                unfold Fine at hab
                have e : wrap64 (a * b) = a * b := by unfold wrap64; omega
                rw [e]
            rw [plimsollref14_Times.j2]
            by_cases hn : b < 0
            · have e : wrap64 (-b) = (b.natAbs : Int) := by unfold wrap64; omega
              refine (if_pos hn).trans ?_
              rw [e]
              refine (if_neg (by omega)).trans ?_
              have e2 : wrap64 ((4611686018427387903 : Int) / (b.natAbs : Int)) = (4611686018427387903 : Int) / (b.natAbs : Int) := by clear e; unfold wrap64; omega
              rw [e2]; exact fin
            · refine (if_neg hn).trans ((if_neg b0).trans ?_)
              have e3 : (b.natAbs : Int) = b := by omega
              rw [e3] at fin hq0 hq1
              have e2 : wrap64 ((4611686018427387903 : Int) / b) = (4611686018427387903 : Int) / b := by unfold wrap64; omega
              rw [e2]; exact fin
          by_cases ha0 : a < 0
          · refine (if_pos ha0).trans ?_
            exact two _ (by unfold wrap64; omega)
          · refine (if_neg ha0).trans ?_
            exact two _ (by omega)
    · rw [decide_eq_false hb]
      exact bad (by unfold tms; rw [if_neg (fun h => hb h.2.1)])
  · rw [if_neg (by simpa using ha)]
    exact bad (by unfold tms; rw [if_neg (fun h => ha h.1)])
theorem ref_plus_val (a b : Int) : plimsollref14_Plus.f a b = some (match pls a b with | some p => (p, true) | none => (0, false)) := by
  unfold plimsollref14_Plus.f
  rw [ref_fine_val, ref_fine_val, ref_fine_val]
  simp only [Option.bind_some]
  unfold pls
  by_cases ha : Fine a
  · rw [if_pos (decide_eq_true ha)]
    by_cases hb : Fine b
    · rw [if_pos (decide_eq_true hb)]
      have e : wrap64 (a + b) = a + b := by unfold Fine at ha hb; unfold wrap64; omega
      rw [e]
      by_cases hc : Fine (a + b)
      · rw [if_pos (decide_eq_true hc), if_pos ⟨ha, hb, hc⟩]
      · rw [if_neg (by simpa using hc), if_neg (fun h => hc h.2.2)]
    · rw [if_neg (by simpa using hb), if_neg (fun h => hb h.2.1)]
  · rw [if_neg (by simpa using ha), if_neg (fun h => ha h.1)]
theorem ref_dot_l (a b : List Int) (ha : a.length ≤ 1000000) (hl : a.length ≤ b.length) : ∀ (d k i : Nat) (s : Int), d + 4 < k → i + d = a.length →
    plimsollref14_Dot.l0 k a b s i = some (match dotF (some s) (a.drop i) (b.drop i) with | some s => (s, true) | none => (0, false)) := by
  intro d
  induction d with
  | zero =>
    intro k i s hk hi
    obtain ⟨k, rfl⟩ : ∃ m, k = m + 1 := ⟨k - 1, by omega⟩
    rw [plimsollref14_Dot.l0]
    refine (if_neg (by omega)).trans ?_
    rw [List.drop_of_length_le (show a.length ≤ i by omega)]
    simp [dotF]
  | succ d ih =>
    intro k i s hk hi
    obtain ⟨k, rfl⟩ : ∃ m, k = m + 1 := ⟨k - 1, by omega⟩
    rw [plimsollref14_Dot.l0]
    refine (if_pos (by omega)).trans ((if_pos (by omega)).trans ((if_pos (by omega)).trans ?_))
    rw [rd_nat (show i < a.length by omega), rd_nat (show i < b.length by omega), ref_times_val _ _ k (by omega)]
    simp only [Option.bind_some]
    rw [List.drop_eq_getElem_cons (show i < a.length by omega), List.drop_eq_getElem_cons (show i < b.length by omega), inc_nat (show i < a.length by omega) ha]
    simp only [dotF, stp, Option.bind_some]
    cases ht : tms (a[i]'(by omega)) (b[i]'(by omega)) with
    | none => simp [dotF_none]
    | some p =>
      simp only [if_true, ref_plus_val, Option.bind_some]
      cases hp : pls s p with
      | none => simp [dotF_none]
      | some r =>
        simp only [if_true]
        exact ih k (i + 1) r (by omega) (by omega)
theorem ref_dot_val (a b : List Int) (ha : a.length ≤ 1000000) (hl : a.length ≤ b.length) (k : Nat) (hk : a.length + 5 ≤ k) : plimsollref14_Dot.f k a b = some (match dotF (some 0) a b with | some s => (s, true) | none => (0, false)) := by
  have := ref_dot_l a b ha hl a.length k 0 0 (by omega) (by omega)
  unfold plimsollref14_Dot.f
  simpa using this
theorem LinHolds : LinHolds_Pure := by
  intro q most at_ _ _ _
  refine ⟨1000 + 1, ?_⟩
  unfold plimsolllaw14_LinHolds.f
  have out : plimsolllaw14_LinHolds.j0 (1000 + 1) at_ true q most = some true := by
    rw [plimsolllaw14_LinHolds.j0, awake_ok _ (by omega)]; rfl
  by_cases h : (q.length : Int) > 100
  · rw [if_pos h]; exact out
  · rw [if_neg h]
    by_cases h2 : (at_.length : Int) > 100
    · rw [decide_eq_true h2]; exact out
    · rw [decide_eq_false h2, plimsolllaw14_LinHolds.j0, holds_val q most at_ (by omega) _ (by omega), awake_ok _ (by omega)]
      simp only [Option.bind_some]
      refine (if_neg (by decide)).trans ?_
      by_cases hl : q.length = at_.length
      · refine (if_pos (by omega)).trans ?_
        rw [ref_dot_val q at_ (by omega) (by omega) _ (by omega), if_pos hl]
        cases hd : dotF (some 0) q at_ with
        | none => simp
        | some s => simp
      · refine (if_neg (by omega)).trans ?_
        rw [if_neg hl]; simp
end Go.Proofs.Ythfkajolockcgaa.Pure
