/- The pure statement of KindOrder: below goes on, two that are below one another are one, and each class that is there is below itself; no condition. -/
import Derived.Test.YtpjpjepfcmajfaaRdKindOrder
import Derived.Test.YtpjpjepfcmajfaaChain
namespace Go.Proofs.Ytpjpjepfcmajfaa.Pure
open Go.RowKit Go.Proofs.Ytpjpjepfcmajfaa.PKindOrder Go.Proofs.YtpjpjepfcmajfaaW.PrintWords Go.Proofs.YtpjpjepfcmajfaaW.PrintLast Go.Proofs.Ytpjpjepfcmajfaa.Open Go.Proofs.Ytpjpjepfcmajfaa.RdKindOrder Go.Proofs.Ytpjpjepfcmajfaa.Chain
/-- what stands above class i -/
def sf (l : List S41) (i : Int) : Int := (rd_T41 l i).f0
theorem up_val (l : List S41) (a : Int) : kind_up.f l a = some (upc (sf l) l.length a) := by
  unfold kind_up.f
  by_cases h : a < 0
  · rw [show upc (sf l) l.length a = -1 by unfold upc; rw [if_pos h]]
    exact if_pos h
  · refine (if_neg h).trans ?_
    by_cases h1 : a ≥ (l.length : Int)
    · rw [show upc (sf l) l.length a = -1 by unfold upc; rw [if_neg h, if_pos h1]]
      exact if_pos h1
    · refine (if_neg h1).trans ((if_pos (by omega)).trans ((if_pos (by omega)).trans ?_))
      by_cases h2 : (rd_T41 l a).f0 ≥ a
      · rw [show upc (sf l) l.length a = -1 by unfold upc sf; rw [if_neg h, if_neg (by omega), if_pos h2]]
        exact if_pos h2
      · rw [show upc (sf l) l.length a = (rd_T41 l a).f0 by unfold upc sf; rw [if_neg h, if_neg (by omega), if_neg (by omega)]]
        exact if_neg h2
theorem below_l (l : List S41) (b : Int) : ∀ (k : Nat) (a : Int), a < (k : Int) → a < (l.length : Int) → kind_Below.l0 (k + 1) l a b = some (decide (b ∈ abv (sf l) l.length a)) := by
  intro k
  induction k with
  | zero =>
    intro a ha hl
    rw [kind_Below.l0]
    refine (if_neg (by omega)).trans ?_
    rw [abv_out (by omega)]; simp
  | succ k ih =>
    intro a ha hl
    rw [kind_Below.l0]
    by_cases h0 : a ≥ 0
    · refine (if_pos h0).trans ?_
      rw [abv_in (s := sf l) h0 hl]
      by_cases hb : a = b
      · refine (if_pos hb).trans ?_
        simp [hb]
      · refine (if_neg hb).trans ?_
        have hu := upc_lt (s := sf l) (n := l.length) h0
        rw [up_val]
        simp only [Option.bind_some]
        rw [ih _ (by omega) (by omega)]
        congr 1
        rw [decide_eq_decide, List.mem_cons]
        constructor
        · intro h; exact .inr h
        · rintro (h | h)
          · exact absurd h.symm hb
          · exact h
    · refine (if_neg h0).trans ?_
      rw [abv_out (by omega)]; simp
theorem below_val (l : List S41) (a b : Int) (k : Nat) (hk : l.length + 3 ≤ k) : kind_Below.f k l a b = some (decide (b ∈ abv (sf l) l.length a)) := by
  obtain ⟨k, rfl⟩ : ∃ m, k = m + 2 := ⟨k - 2, by omega⟩
  have no : b < 0 ∨ (l.length : Int) ≤ b ∨ (l.length : Int) ≤ a → (some false : Option Bool) = some (decide (b ∈ abv (sf l) l.length a)) := by
    intro h
    congr 1
    symm
    rw [decide_eq_false_iff_not]
    intro hm
    have := abv_mem _ _ hm
    omega
  unfold kind_Below.f
  by_cases h1 : b < 0
  · refine (if_pos h1).trans ?_
    rw [kind_Below.j0]; exact (if_pos rfl).trans (no (.inl h1))
  · refine (if_neg h1).trans ?_
    by_cases h2 : b ≥ (l.length : Int)
    · refine (if_pos h2).trans ?_
      rw [kind_Below.j0]; exact (if_pos rfl).trans (no (.inr (.inl h2)))
    · refine (if_neg h2).trans ?_
      rw [kind_Below.j0]
      by_cases h3 : a ≥ (l.length : Int)
      · refine (if_pos (decide_eq_true h3)).trans (no (.inr (.inr h3)))
      · refine (if_neg (by simpa using h3)).trans ?_
        exact below_l l b k a (by omega) (by omega)
theorem isref_val (a0 a1 : Int) : kind_IsRef.f a0 a1 = some (isref a0) := by
  unfold kind_IsRef.f isref
  by_cases h2 : a0 = 2
  · simp [h2]
  · by_cases h3 : a0 = 3
    · simp [h3]
    · by_cases h4 : a0 = 4
      · simp [h4]
      · simp [h2, h3, h4]
theorem sub_val (l : List S41) (a0 a1 b0 b1 : Int) (k : Nat) (hk : l.length + 3 ≤ k) : kind_Sub.f k l a0 a1 b0 b1 = some (sub (sf l) l.length a0 a1 b0 b1) := by
  unfold kind_Sub.f sub
  rw [isref_val, below_val l a1 b1 k hk]
  simp only [Option.bind_some]
  by_cases h4 : a0 = 4
  · rw [if_pos h4, if_pos h4]
  · rw [if_neg h4, if_neg h4]
    by_cases h3 : a0 = 3
    · rw [if_pos h3, if_pos h3]
      by_cases hb : b0 = 3
      · rw [if_pos hb]; simp [hb]
      · rw [if_neg hb]
        have : ¬ ((a0 == b0 && a1 == b1) = true) := by simp; omega
        rw [if_neg this]; simp [hb]
    · rw [if_neg h3, if_neg h3]
      by_cases he : (a0 == b0 && a1 == b1) = true
      · rw [if_pos he]
        simp at he
        obtain ⟨rfl, rfl⟩ := he
        by_cases h1 : a0 = 1
        · simp [h1]
        · rw [if_neg h1]; simp [h1]; rfl
      · rw [if_neg he]
        simp at he
        congr 1
        symm
        rw [decide_eq_false_iff_not]
        rintro ⟨_, h5, h6⟩
        exact he h5 h6
theorem join_l (l : List S41) (b0 b1 : Int) : ∀ (k : Nat) (a : Int), a < (k : Int) → a < (l.length : Int) → kind_Join.l0 (k + l.length + 4) l a b0 b1 = some (match (abv (sf l) l.length a).find? (fun c => decide (c ∈ abv (sf l) l.length b1)) with | some c => (3, c) | none => (0, 0)) := by
  intro k
  induction k with
  | zero =>
    intro a ha hl
    rw [show 0 + l.length + 4 = (l.length + 3) + 1 by omega, kind_Join.l0]
    refine (if_neg (by omega)).trans ?_
    rw [abv_out (c := a) (by omega)]; rfl
  | succ k ih =>
    intro a ha hl
    rw [show k + 1 + l.length + 4 = (k + l.length + 4) + 1 by omega, kind_Join.l0]
    by_cases h0 : a ≥ 0
    · refine (if_pos h0).trans ?_
      rw [below_val l b1 a _ (by omega)]
      simp only [Option.bind_some]
      rw [abv_in (s := sf l) h0 hl]
      by_cases hb : a ∈ abv (sf l) l.length b1
      · rw [if_pos (decide_eq_true hb), List.find?_cons_of_pos (p := fun c => decide (c ∈ abv (sf l) l.length b1)) (decide_eq_true hb)]
      · rw [if_neg (by simpa using hb), List.find?_cons_of_neg (p := fun c => decide (c ∈ abv (sf l) l.length b1)) (by simpa using hb), up_val]
        simp only [Option.bind_some]
        have hu := upc_lt (s := sf l) (n := l.length) h0
        rw [ih _ (by omega) (by omega)]
    · refine (if_neg h0).trans ?_
      rw [abv_out (c := a) (by omega)]; rfl
theorem upc_len (l : List S41) (a : Int) : upc (sf l) l.length a < (l.length : Int) := by
  by_cases h : 0 ≤ a ∧ a < (l.length : Int)
  · have := upc_lt (s := sf l) (n := l.length) h.1; omega
  · have : upc (sf l) l.length a = -1 := by unfold upc; split <;> (try split) <;> (try split) <;> omega
    omega
theorem join_val (l : List S41) (a0 a1 b0 b1 : Int) (k : Nat) (hk : 2 * l.length + 6 ≤ k) : kind_Join.f k l a0 a1 b0 b1 = some (join (sf l) l.length a0 a1 b0 b1) := by
  obtain ⟨m, rfl⟩ : ∃ m, k = m + l.length + 4 := ⟨k - l.length - 4, by omega⟩
  unfold kind_Join.f join
  rw [sub_val l a0 a1 b0 b1 _ (by omega), sub_val l b0 b1 a0 a1 _ (by omega), up_val]
  simp only [Option.bind_some]
  have hu := upc_len l a1
  rw [join_l l b0 b1 m _ (by omega) hu]
  by_cases h1 : sub (sf l) l.length a0 a1 b0 b1 = true
  · rw [if_pos h1, if_pos h1]
  · rw [if_neg h1, if_neg h1]
    by_cases h2 : sub (sf l) l.length b0 b1 a0 a1 = true
    · rw [if_pos h2, if_pos h2]
    · rw [if_neg h2, if_neg h2]
      by_cases h3 : a0 = 3
      · rw [if_pos h3]
        by_cases h4 : b0 = 3
        · rw [if_pos h4, if_pos ⟨h3, h4⟩]; rfl
        · rw [if_neg h4, if_neg (fun h => h4 h.2)]
      · rw [if_neg h3, if_neg (fun h => h3 h.1)]
theorem few_val (l : List S41) : ∃ l', plimsolllaw03_few.f l = some l' ∧ l'.length ≤ 40 := by
  unfold plimsolllaw03_few.f
  by_cases h : (l.length : Int) > 40
  · refine ⟨l.take 40, ?_, by rw [List.length_take]; omega⟩
    rw [if_pos h, if_pos (by omega)]
  · exact ⟨l, by rw [if_neg h], by omega⟩
theorem awake_ok (k : Nat) (hk : 30 ≤ k) : plimsolllaw03_awake.f k = some true := by
  have h : plimsolllaw03_awake.f 30 = some true := by decide +kernel
  exact at_rounds (plimsolllaw03_awake.mono) hk h
theorem KindOrder : KindOrder_Pure := by
  intro l a b c _ _ _ _
  obtain ⟨l', hf, hl⟩ := few_val l
  refine ⟨1000 + 2, ?_⟩
  have tr := abv_trans (s := sf l') (n := l'.length) a b c
  have m1 := abv_mem (s := sf l') (n := l'.length) a b
  have m2 := abv_mem (s := sf l') (n := l'.length) b a
  have sl : a ∈ abv (sf l') l'.length a ↔ 0 ≤ a ∧ a < (l'.length : Int) := abv_self
  unfold plimsolllaw03_KindOrder.f
  rw [hf]
  simp only [Option.bind_some]
  rw [below_val l' a b _ (by omega), below_val l' b c _ (by omega), below_val l' a c _ (by omega)]
  simp only [Option.bind_some]
  have j1 : plimsolllaw03_KindOrder.j1 1001 a b l' false = some true := by
    rw [show (1001 : Nat) = 1000 + 1 from rfl, plimsolllaw03_KindOrder.j1, awake_ok _ (by omega), below_val l' a a _ (by omega), below_val l' a b _ (by omega)]
    simp only [Option.bind_some]
    by_cases h0 : a ≥ 0
    · by_cases h1 : a < (l'.length : Int)
      · by_cases h2 : b ∈ abv (sf l') l'.length a
        · simp [h0, h1, h2, sl, m1 h2]
        · simp [h0, h1, h2, sl]
      · have : b ∉ abv (sf l') l'.length a := fun h => by have := m1 h; omega
        simp [h0, h1, sl, this]
    · have : b ∉ abv (sf l') l'.length a := fun h => by have := m1 h; omega
      simp [h0, sl, this]
  have j0 : plimsolllaw03_KindOrder.j0 (1000 + 2) a b l' false = some true := by
    rw [show (1000 : Nat) + 2 = 1001 + 1 from rfl, plimsolllaw03_KindOrder.j0, below_val l' a b _ (by omega), below_val l' b a _ (by omega)]
    simp only [Option.bind_some]
    by_cases h1 : b ∈ abv (sf l') l'.length a
    · by_cases h2 : a ∈ abv (sf l') l'.length b
      · have : a = b := by have := m1 h1; have := m2 h2; omega
        subst this
        simp [h1]
        exact j1
      · simp [h1, h2]; exact j1
    · simp [h1]; exact j1
  by_cases h1 : b ∈ abv (sf l') l'.length a
  · by_cases h2 : c ∈ abv (sf l') l'.length b
    · have h3 := tr h1 h2
      rw [if_pos (decide_eq_true h1), if_pos (decide_eq_true h2), decide_eq_true h3]
      exact j0
    · rw [if_pos (decide_eq_true h1), if_neg (by simpa using h2)]
      exact j0
  · rw [if_neg (by simpa using h1)]
    exact j0
end Go.Proofs.Ytpjpjepfcmajfaa.Pure
