/- Small laws of rows and numbers. -/
import Derived.Test.YtcfbhobpfnlkpaaUJudgeFoundx0
import Derived.Test.YtcfbhobpfnlkpaaUJudgeFoundx1
import Derived.Test.YtcfbhobpfnlkpaaUJudgeFoundx2
import Derived.Test.YtcfbhobpfnlkpaaUJudgeFoundx3
import Derived.Test.YtcfbhobpfnlkpaaUJudgeFoundx4
import Derived.Test.YtcfbhobpfnlkpaaUJudgeFoundx5
import Derived.Test.YtcfbhobpfnlkpaaUJudgeFoundx6
import Derived.Test.YtcfbhobpfnlkpaaUJudgeFoundx7
import Derived.Test.YtcfbhobpfnlkpaaJudgeChain
namespace Go.Proofs.Ytcfbhobpfnlkpaa.Flow
open Go.RowKit Go.Proofs.Ytcfbhobpfnlkpaa.QJudgeFound Go.Proofs.YtcfbhobpfnlkpaaW.PrintWords Go.Proofs.YtcfbhobpfnlkpaaW.PrintLast Go.Proofs.Ytcfbhobpfnlkpaa.Chain
theorem inc_nat {i n : Nat} (h : i < n) (hn : n ≤ 1000000) : wrap64 ((i : Int) + 1) = ((i + 1 : Nat) : Int) := by unfold wrap64; omega
theorem inc_big {i n : Nat} (h : i < n) (hn : n ≤ 9223372036854775807) : wrap64 ((i : Int) + 1) = ((i + 1 : Nat) : Int) := by unfold wrap64; omega
theorem rd_nat {x : List Int} {i : Nat} (h : i < x.length) : rd x (i : Int) = x[i] := by unfold rd; simp [List.getD_eq_getElem?_getD, List.getElem?_eq_getElem h]
theorem tc {X : List S80} {i : Nat} (h : i < X.length) : rd_T80 X (i : Int) = X[i] := by unfold rd_T80; simp [List.getD_eq_getElem?_getD, List.getElem?_eq_getElem h]
theorem tt {X : List S39} {i : Nat} (h : i < X.length) : rd_T39 X (i : Int) = X[i] := by unfold rd_T39; simp [List.getD_eq_getElem?_getD, List.getElem?_eq_getElem h]
theorem tm {X : List S52} {i : Nat} (h : i < X.length) : rd_T52 X (i : Int) = X[i] := by unfold rd_T52; simp [List.getD_eq_getElem?_getD, List.getElem?_eq_getElem h]
theorem ti {X : List S49} {i : Nat} (h : i < X.length) : rd_T49 X (i : Int) = X[i] := by unfold rd_T49; simp [List.getD_eq_getElem?_getD, List.getElem?_eq_getElem h]
def sf (l : List S80) (i : Int) : Int := (rd_T80 l i).f0
theorem up_val (l : List S80) (a : Int) : kind_up.f l a = some (upc (sf l) l.length a) := by
  unfold kind_up.f
  by_cases h : a < 0
  · rw [show upc (sf l) l.length a = -1 by unfold upc; rw [if_pos h]]
    exact if_pos h
  · refine (if_neg h).trans ?_
    by_cases h1 : a ≥ (l.length : Int)
    · rw [show upc (sf l) l.length a = -1 by unfold upc; rw [if_neg h, if_pos h1]]
      exact if_pos h1
    · refine (if_neg h1).trans ((if_pos (by omega)).trans ((if_pos (by omega)).trans ?_))
      by_cases h2 : (rd_T80 l a).f0 ≥ a
      · rw [show upc (sf l) l.length a = -1 by unfold upc sf; rw [if_neg h, if_neg (by omega), if_pos h2]]
        exact if_pos h2
      · rw [show upc (sf l) l.length a = (rd_T80 l a).f0 by unfold upc sf; rw [if_neg h, if_neg (by omega), if_neg (by omega)]]
        exact if_neg h2
theorem below_l (l : List S80) (b : Int) : ∀ (k : Nat) (a : Int), a < (k : Int) → a < (l.length : Int) → kind_Below.l0 (k + 1) l a b = some (decide (b ∈ abv (sf l) l.length a)) := by
  intro k
  induction k with
  | zero =>
    intro a ha hl
    rw [kind_Below.l0]
    refine (if_neg (by omega)).trans ?_
    rw [abv_out (by omega)]; simp
  | succ k ih =>
    intro a ha hl
    rw [kind_Below.l0]
    by_cases h0 : a ≥ 0
    · refine (if_pos h0).trans ?_
      rw [abv_in (s := sf l) h0 hl]
      by_cases hb : a = b
      · refine (if_pos hb).trans ?_
        simp [hb]
      · refine (if_neg hb).trans ?_
        have hu := upc_lt (s := sf l) (n := l.length) h0
        rw [up_val]
        simp only [Option.bind_some]
        rw [ih _ (by omega) (by omega)]
        congr 1
        rw [decide_eq_decide, List.mem_cons]
        constructor
        · intro h; exact .inr h
        · rintro (h | h)
          · exact absurd h.symm hb
          · exact h
    · refine (if_neg h0).trans ?_
      rw [abv_out (by omega)]; simp
theorem below_val (l : List S80) (a b : Int) (k : Nat) (hk : l.length + 3 ≤ k) : kind_Below.f k l a b = some (decide (b ∈ abv (sf l) l.length a)) := by
  obtain ⟨k, rfl⟩ : ∃ m, k = m + 2 := ⟨k - 2, by omega⟩
  have no : b < 0 ∨ (l.length : Int) ≤ b ∨ (l.length : Int) ≤ a → (some false : Option Bool) = some (decide (b ∈ abv (sf l) l.length a)) := by
    intro h
    congr 1
    symm
    rw [decide_eq_false_iff_not]
    intro hm
    have := abv_mem _ _ hm
    omega
  unfold kind_Below.f
  by_cases h1 : b < 0
  · refine (if_pos h1).trans ?_
    rw [kind_Below.j0]; exact (if_pos rfl).trans (no (.inl h1))
  · refine (if_neg h1).trans ?_
    by_cases h2 : b ≥ (l.length : Int)
    · refine (if_pos h2).trans ?_
      rw [kind_Below.j0]; exact (if_pos rfl).trans (no (.inr (.inl h2)))
    · refine (if_neg h2).trans ?_
      rw [kind_Below.j0]
      by_cases h3 : a ≥ (l.length : Int)
      · refine (if_pos (decide_eq_true h3)).trans (no (.inr (.inr h3)))
      · refine (if_neg (by simpa using h3)).trans ?_
        exact below_l l b k a (by omega) (by omega)
theorem isref_val (a0 a1 : Int) : kind_IsRef.f a0 a1 = some (isref a0) := by
  unfold kind_IsRef.f isref
  by_cases h2 : a0 = 2
  · simp [h2]
  · by_cases h3 : a0 = 3
    · simp [h3]
    · by_cases h4 : a0 = 4
      · simp [h4]
      · simp [h2, h3, h4]
theorem sub_val (l : List S80) (a0 a1 b0 b1 : Int) (k : Nat) (hk : l.length + 3 ≤ k) : kind_Sub.f k l a0 a1 b0 b1 = some (sub (sf l) l.length a0 a1 b0 b1) := by
  unfold kind_Sub.f sub
  rw [isref_val, below_val l a1 b1 k hk]
  simp only [Option.bind_some]
  by_cases h4 : a0 = 4
  · rw [if_pos h4, if_pos h4]
  · rw [if_neg h4, if_neg h4]
    by_cases h3 : a0 = 3
    · rw [if_pos h3, if_pos h3]
      by_cases hb : b0 = 3
      · rw [if_pos hb]; simp [hb]
      · rw [if_neg hb]
        have : ¬ ((a0 == b0 && a1 == b1) = true) := by simp; omega
        rw [if_neg this]; simp [hb]
    · rw [if_neg h3, if_neg h3]
      by_cases he : (a0 == b0 && a1 == b1) = true
      · rw [if_pos he]
        simp at he
        obtain ⟨rfl, rfl⟩ := he
        by_cases h1 : a0 = 1
        · simp [h1]
        · rw [if_neg h1]; simp [h1]; rfl
      · rw [if_neg he]
        simp at he
        congr 1
        symm
        rw [decide_eq_false_iff_not]
        rintro ⟨_, h5, h6⟩
        exact he h5 h6
theorem ref_isref_val (a0 a1 : Int) : plimsollref01_IsRef.f a0 a1 = some (isref a0) := by
  unfold plimsollref01_IsRef.f isref
  by_cases h2 : a0 = 2
  · simp [h2]
  · by_cases h3 : a0 = 3
    · simp [h3]
    · by_cases h4 : a0 = 4
      · simp [h4]
      · simp [h2, h3, h4]
theorem in_l (x : List Int) (c : Int) (hx : x.length ≤ 1000000) : ∀ (d k i : Nat), d < k → i + d = x.length → plimsollref01_In.l0 k x c i = some (decide (c ∈ x.drop i)) := by
  intro d
  induction d with
  | zero =>
    intro k i hk hi
    obtain ⟨k, rfl⟩ : ∃ m, k = m + 1 := ⟨k - 1, by omega⟩
    rw [plimsollref01_In.l0]
    refine (if_neg (by omega)).trans ?_
    rw [List.drop_of_length_le (by omega)]; simp
  | succ d ih =>
    intro k i hk hi
    obtain ⟨k, rfl⟩ : ∃ m, k = m + 1 := ⟨k - 1, by omega⟩
    rw [plimsollref01_In.l0]
    refine (if_pos (by omega)).trans ((if_pos (by omega)).trans ?_)
    have hr : rd x (i : Int) = x[i]'(by omega) := by unfold rd; simp [List.getD_eq_getElem?_getD, List.getElem?_eq_getElem (show i < x.length by omega)]
    rw [hr, List.drop_eq_getElem_cons (show i < x.length by omega)]
    by_cases hm : x[i]'(by omega) = c
    · rw [if_pos hm]; simp [hm]
    · rw [if_neg hm]
      have e : wrap64 ((i : Int) + 1) = ((i + 1 : Nat) : Int) := by unfold wrap64; omega
      rw [e, ih k (i + 1) (by omega) (by omega)]
      congr 1
      rw [decide_eq_decide, List.mem_cons]
      constructor
      · intro h; exact .inr h
      · rintro (h | h)
        · exact absurd h.symm hm
        · exact h
theorem in_val (x : List Int) (c : Int) (k : Nat) (hx : x.length ≤ 1000000) (hk : x.length + 1 ≤ k) : plimsollref01_In.f k x c = some (decide (c ∈ x)) := by
  have := in_l x c hx x.length k 0 (by omega) (by omega)
  exact this
theorem above_l (l : List S80) : ∀ (m k : Nat) (c : Int) (out : List Int), c < (m : Int) → 2 * m + 2 ≤ k → out.length + m ≤ 1000001 →
    plimsollref01_Above.l0 k l c out = some (out ++ abv (sf l) l.length c) := by
  intro m
  induction m with
  | zero =>
    intro k c out hc hk _
    obtain ⟨k, rfl⟩ : ∃ m, k = m + 2 := ⟨k - 2, by omega⟩
    rw [plimsollref01_Above.l0]
    refine (if_neg (by omega)).trans ?_
    rw [plimsollref01_Above.j1, abv_out (by omega)]; simp
  | succ m ih =>
    intro k c out hc hk ho
    obtain ⟨k, rfl⟩ : ∃ m, k = m + 2 := ⟨k - 2, by omega⟩
    rw [plimsollref01_Above.l0]
    by_cases h0 : c ≥ 0
    · refine (if_pos h0).trans ?_
      rw [plimsollref01_Above.j1]
      by_cases h1 : c < (l.length : Int)
      · refine (if_pos (decide_eq_true h1)).trans ((if_pos (by omega)).trans ?_)
        simp only [Option.bind_some]
        refine (if_pos (by omega)).trans ((if_pos h1).trans ?_)
        have hu := upc_lt (s := sf l) (n := l.length) h0
        rw [abv_in (s := sf l) h0 h1]
        have hstep := ih k (upc (sf l) l.length c) (out ++ [c]) (by omega) (by omega) (by simp; omega)
        rw [List.append_assoc] at hstep
        by_cases h2 : (rd_T80 l c).f0 ≥ c
        · refine (if_pos h2).trans ?_
          have e : upc (sf l) l.length c = -1 := by unfold upc sf; rw [if_neg (by omega), if_neg (by omega), if_pos h2]
          rw [e] at hstep ⊢
          exact hstep
        · refine (if_neg h2).trans ?_
          have e : upc (sf l) l.length c = (rd_T80 l c).f0 := by unfold upc sf; rw [if_neg (by omega), if_neg (by omega), if_neg h2]
          rw [e] at hstep ⊢
          exact hstep
      · refine (if_neg (by simpa using h1)).trans ?_
        rw [abv_out (by omega)]; simp
    · refine (if_neg h0).trans ?_
      rw [plimsollref01_Above.j1, abv_out (by omega)]; simp
theorem above_val (l : List S80) (hl : l.length ≤ 1000000) (c : Int) (k : Nat) (hk : 2 * l.length + 4 ≤ k) : plimsollref01_Above.f k l c = some (abv (sf l) l.length c) := by
  unfold plimsollref01_Above.f
  by_cases h : c < (l.length : Int)
  · have := above_l l (l.length + 1) k c [] (by omega) (by omega) (by simp; omega)
    simpa using this
  · obtain ⟨k, rfl⟩ : ∃ m, k = m + 2 := ⟨k - 2, by omega⟩
    rw [plimsollref01_Above.l0]
    have hj : plimsollref01_Above.j1 (k + 1) l c [] false = some [] := by rw [plimsollref01_Above.j1]; simp
    rw [abv_out (by omega)]
    by_cases h0 : c ≥ 0
    · refine (if_pos h0).trans ?_
      rw [decide_eq_false h]; exact hj
    · exact (if_neg h0).trans hj
theorem ref_sub_val (l : List S80) (hl : l.length ≤ 1000000) (a0 a1 b0 b1 : Int) (k : Nat) (hk : 3 * l.length + 10 ≤ k) : plimsollref01_Sub.f k l a0 a1 b0 b1 = some (sub (sf l) l.length a0 a1 b0 b1) := by
  have hlen := (abv_len (s := sf l) (n := l.length) a1 (by omega)).1
  unfold plimsollref01_Sub.f sub
  rw [ref_isref_val, above_val l hl a1 k (by omega)]
  simp only [Option.bind_some]
  rw [in_val _ b1 k (by omega) (by omega)]
  simp only [Option.bind_some]
  by_cases h4 : a0 = 4
  · rw [if_pos h4, if_pos h4]
  · rw [if_neg h4, if_neg h4]
    by_cases h3 : a0 = 3
    · rw [if_pos h3, if_pos h3]
      by_cases hb : b0 = 3
      · rw [if_pos hb]; simp [hb]
      · rw [if_neg hb]; simp [hb]
    · rw [if_neg h3, if_neg h3]
      by_cases h1 : a0 = 1
      · subst h1; rw [if_pos rfl]; congr 1; rw [Bool.eq_iff_iff]; simp
      · rw [if_neg h1]
        by_cases h2 : a0 = 2
        · subst h2; rw [if_pos rfl]; congr 1; rw [Bool.eq_iff_iff]; simp
        · rw [if_neg h2]; simp [h1, h2]
def tot : List S80 → Nat
  | [] => 0
  | x :: r => 1 + x.f1.length + tot r
theorem tot_len : ∀ (l : List S80), l.length ≤ tot l := by
  intro l
  induction l with
  | nil => simp [tot]
  | cons x r ih => simp only [tot, List.length_cons]; omega
theorem tot_mem : ∀ (l : List S80) (x : S80), x ∈ l → x.f1.length < tot l := by
  intro l
  induction l with
  | nil => intro x h; simp at h
  | cons y r ih =>
    intro x h
    simp only [tot]
    rcases List.mem_cons.1 h with rfl | h
    · omega
    · have := ih x h; omega
theorem cup_val (l : List S80) (l1 : List S39) (l2 : List Int) (l3 : List S52) (l4 : List Int) (a5 a6 : Int) (a : Int) (h0 : 0 ≤ a) (h1 : a < (l.length : Int)) : class_up.f l l1 l2 l3 l4 a5 a6 a = some (upc (sf l) l.length a) := by
  unfold class_up.f
  refine (if_pos h0).trans ((if_pos h1).trans ?_)
  by_cases h2 : (rd_T80 l a).f0 ≥ a
  · rw [show upc (sf l) l.length a = -1 by unfold upc sf; rw [if_neg (by omega), if_neg (by omega), if_pos h2]]
    exact if_pos h2
  · rw [show upc (sf l) l.length a = (rd_T80 l a).f0 by unfold upc sf; rw [if_neg (by omega), if_neg (by omega), if_neg (by omega)]]
    exact if_neg h2
theorem concat_val (a b : List S39) (ha : a.length ≤ 1000000000) (hb : b.length ≤ 1000000000) (k : Nat) (hk : 6 ≤ k) : api_Type_49.f k [a, b] = some (a ++ b) := by
  obtain ⟨k, rfl⟩ : ∃ m, k = m + 6 := ⟨k - 6, by omega⟩
  have r0 : rd_L2 [a, b] 0 = a := rfl
  have r1 : rd_L2 [a, b] 1 = b := rfl
  have e1 : wrap64 (0 + (a.length : Int)) = (a.length : Int) := by unfold wrap64; omega
  have e2 : wrap64 ((a.length : Int) + (b.length : Int)) = ((a.length : Int) + (b.length : Int)) := by clear e1; unfold wrap64; omega
  have e3 : wrap64 (0 + 1) = 1 := by clear e1 e2; unfold wrap64; omega
  have e4 : wrap64 (1 + 1) = 2 := by clear e1 e2 e3; unfold wrap64; omega
  have el : (([a, b] : List (List S39)).length : Int) = 2 := rfl
  unfold api_Type_49.f
  rw [api_Type_49.l0, el, r0, e1, e3]
  refine (if_pos (by decide)).trans ((if_pos (by decide)).trans ((if_pos (by decide)).trans ((if_neg (by clear e1 e2 e3 e4; omega)).trans ?_)))
  rw [api_Type_49.l0, el, r1, e2, e4]
  refine (if_pos (by decide)).trans ((if_pos (by decide)).trans ((if_pos (by decide)).trans ((if_neg (by clear e1 e2 e3 e4; omega)).trans ?_)))
  rw [api_Type_49.l0]
  refine (if_neg (by decide)).trans ((if_pos (by clear e1 e2 e3 e4; omega)).trans ?_)
  rw [api_Type_49.l1, el, r0, e3]
  refine (if_pos (by decide)).trans ((if_pos (by decide)).trans ((if_pos (by decide)).trans ((if_pos (by clear e1 e2 e3 e4; simp; omega)).trans ?_)))
  rw [api_Type_49.l1, el, r1, e4]
  refine (if_pos (by decide)).trans ((if_pos (by decide)).trans ((if_pos (by decide)).trans ((if_pos (by clear e1 e2 e3 e4; simp; omega)).trans ?_)))
  rw [api_Type_49.l1]
  refine (if_neg (by decide)).trans ?_
  simp
def fl (l : List S80) (c : Int) : List S39 := (rd_T80 l c).f1
def flds (l : List S80) (c : Int) : List S39 := (abv (sf l) l.length c).reverse.flatMap (fl l)
theorem flds_in (l : List S80) (c : Int) (h0 : 0 ≤ c) (h1 : c < (l.length : Int)) : flds l c = flds l (upc (sf l) l.length c) ++ fl l c := by
  unfold flds
  rw [abv_in (s := sf l) h0 h1, List.reverse_cons, List.flatMap_append]; simp
theorem flds_out (l : List S80) (c : Int) (h : ¬ (0 ≤ c ∧ c < (l.length : Int))) : flds l c = [] := by
  unfold flds; rw [abv_out h]; rfl
theorem fl_len (l : List S80) (ht : tot l < 200) (c : Int) : (fl l c).length < 200 := by
  unfold fl rd_T80
  rw [List.getD_eq_getElem?_getD]
  cases h : l[c.toNat]? with
  | none => simp [z80]
  | some x =>
    have := tot_mem l x (List.mem_of_getElem? h)
    simp only [Option.getD_some]
    omega
theorem flds_len (l : List S80) (ht : tot l < 200) : ∀ c : Int, 0 ≤ c → ((flds l c).length : Int) ≤ 200 * (c + 1) := by
  refine chain_ind (s := sf l) (n := l.length) (fun c hc h0 => ?_) (fun c h0 h1 ih _ => ?_)
  · rw [flds_out l c hc]; simp; omega
  · rw [flds_in l c h0 h1, List.length_append]
    have hf := fl_len l ht c
    have hu := upc_lt (s := sf l) (n := l.length) h0
    by_cases hp : 0 ≤ upc (sf l) l.length c
    · have := ih hp; omega
    · rw [flds_out l _ (by omega)]; simp; omega
theorem flds_len' (l : List S80) (ht : tot l < 200) (c : Int) : (flds l c).length ≤ 100000 := by
  by_cases h : 0 ≤ c ∧ c < (l.length : Int)
  · have := flds_len l ht c h.1
    have := tot_len l
    omega
  · rw [flds_out l c h]; simp
theorem fields_l (l : List S80) (l1 : List S39) (l2 : List Int) (l3 : List S52) (l4 : List Int) (a5 a6 : Int) (ht : tot l < 200) : ∀ (m k : Nat) (c : Int) (out : List S39), c < (m : Int) → c < (l.length : Int) → m + 8 ≤ k → out.length + 200 * m ≤ 100000 →
    class_Fields.l0 k c out l l1 l2 l3 l4 a5 a6 = some (flds l c ++ out) := by
  intro m
  induction m with
  | zero =>
    intro k c out hc hl hk ho
    obtain ⟨k, rfl⟩ : ∃ m, k = m + 1 := ⟨k - 1, by omega⟩
    rw [class_Fields.l0]
    refine (if_neg (by omega)).trans ?_
    rw [flds_out l c (by omega)]; rfl
  | succ m ih =>
    intro k c out hc hl hk ho
    obtain ⟨k, rfl⟩ : ∃ m, k = m + 1 := ⟨k - 1, by omega⟩
    rw [class_Fields.l0]
    by_cases h0 : c ≥ 0
    · refine (if_pos h0).trans ((if_pos h0).trans ((if_pos hl).trans ?_))
      have hf := fl_len l ht c
      rw [concat_val (rd_T80 l c).f1 out (by unfold fl at hf; omega) (by omega) k (by omega), cup_val l l1 l2 l3 l4 a5 a6 c h0 hl]
      simp only [Option.bind_some]
      have hu := upc_lt (s := sf l) (n := l.length) h0
      have hn := ih k (upc (sf l) l.length c) ((rd_T80 l c).f1 ++ out) (by omega) (by omega) (by omega) (by rw [List.length_append]; unfold fl at hf; omega)
      rw [hn, flds_in l c h0 hl, List.append_assoc]; rfl
    · refine (if_neg h0).trans ?_
      rw [flds_out l c (by omega)]; rfl
theorem fields_val (l : List S80) (l1 : List S39) (l2 : List Int) (l3 : List S52) (l4 : List Int) (a5 a6 : Int) (ht : tot l < 200) (c : Int) (k : Nat) (hk : 300 ≤ k) : class_Fields.f k l l1 l2 l3 l4 a5 a6 c = some (flds l c) := by
  unfold class_Fields.f
  have hl := tot_len l
  by_cases h : c ≥ (l.length : Int)
  · refine (if_pos h).trans ?_
    rw [flds_out l c (by omega)]
  · refine (if_neg h).trans ?_
    have := fields_l l l1 l2 l3 l4 a5 a6 ht 201 k c [] (by omega) (by omega) (by omega) (by simp)
    simpa using this
theorem rfields_l (l : List S80) (l1 : List S39) (l2 : List Int) (l3 : List S52) (l4 : List Int) (a5 a6 : Int) (ht : tot l < 200) (x : List Int) (hx : x.length ≤ 200) (hxm : ∀ c ∈ x, 0 ≤ c ∧ c < (l.length : Int)) : ∀ (d k : Nat) (out : List S39), d + 1 ≤ k → d ≤ x.length → out.length + 200 * d ≤ 100000 →
    plimsollref05_Fields.l0 k x out ((d : Int) - 1) l l1 l2 l3 l4 a5 a6 = some (out ++ (x.take d).reverse.flatMap (fl l)) := by
  intro d
  induction d with
  | zero =>
    intro k out hk hd ho
    obtain ⟨k, rfl⟩ : ∃ m, k = m + 1 := ⟨k - 1, by omega⟩
    rw [plimsollref05_Fields.l0]
    refine (if_neg (by omega)).trans ?_
    simp
  | succ d ih =>
    intro k out hk hd ho
    obtain ⟨k, rfl⟩ : ∃ m, k = m + 1 := ⟨k - 1, by omega⟩
    have hd1 : d < x.length := by omega
    have e : ((d + 1 : Nat) : Int) - 1 = (d : Int) := by omega
    have hm := hxm _ (List.getElem_mem hd1)
    have hf := fl_len l ht x[d]
    rw [plimsollref05_Fields.l0, e]
    refine (if_pos (by omega)).trans ((if_pos (by omega)).trans ((if_pos (by omega)).trans ?_))
    rw [rd_nat hd1]
    refine (if_pos hm.1).trans ((if_pos hm.2).trans ((if_pos (by unfold fl at hf; omega)).trans ?_))
    have e2 : wrap64 ((d : Int) - 1) = (d : Int) - 1 := by unfold wrap64; omega
    rw [e2]
    clear e2
    rw [ih k (out ++ (rd_T80 l x[d]).f1) (by omega) (by omega) (by rw [List.length_append]; unfold fl at hf; omega), List.take_succ_eq_append_getElem hd1, List.reverse_append]
    simp [fl]
theorem rfields_val (l : List S80) (l1 : List S39) (l2 : List Int) (l3 : List S52) (l4 : List Int) (a5 a6 : Int) (ht : tot l < 200) (c : Int) (k : Nat) (hk : 1000 ≤ k) : plimsollref05_Fields.f k l l1 l2 l3 l4 a5 a6 c = some (flds l c) := by
  have hl := tot_len l
  have hlen := (abv_len (s := sf l) (n := l.length) c (by omega)).1
  unfold plimsollref05_Fields.f
  rw [above_val l (by omega) c k (by omega)]
  simp only [Option.bind_some]
  have e : wrap64 (((abv (sf l) l.length c).length : Int) - 1) = ((abv (sf l) l.length c).length : Int) - 1 := by unfold wrap64; omega
  rw [e]
  clear e
  rw [rfields_l l l1 l2 l3 l4 a5 a6 ht (abv (sf l) l.length c) (by omega) (fun x hx => by have := abv_mem _ _ hx; omega) _ k [] (by omega) (Nat.le_refl _) (by simp; omega)]
  unfold flds
  rw [List.take_length]; rfl
theorem in_B (a b c : Int) : plimsollref05_in.f a b c = some (decide (b ≤ a ∧ a ≤ c)) := by
  unfold plimsollref05_in.f
  by_cases h : a ≥ b
  · refine (if_pos h).trans (congrArg some ?_)
    rw [decide_eq_decide]; omega
  · refine (if_neg h).trans (congrArg some ?_)
    symm; rw [decide_eq_false_iff_not]; omega
def typB (t : S39) : Bool := decide (0 ≤ t.f0 ∧ t.f0 ≤ 5 ∧ (t.f1 = 0 ∨ (t.f0 = 3 ∧ 0 ≤ t.f1 ∧ t.f1 ≤ 7)))
theorem typ_val (t : S39) : plimsollref05_typ.f t.f0 t.f1 = some (typB t) := by
  unfold plimsollref05_typ.f typB
  rw [in_B, in_B]
  simp only [Option.bind_some, decide_eq_true_eq]
  by_cases h : 0 ≤ t.f0 ∧ t.f0 ≤ 5
  · refine (if_pos h).trans ?_
    by_cases h1 : t.f1 = 0
    · refine (if_pos h1).trans (congrArg some ?_)
      symm; rw [decide_eq_true_iff]; omega
    · refine (if_neg h1).trans ?_
      by_cases h2 : t.f0 = 3
      · refine (if_pos h2).trans (congrArg some ?_)
        rw [decide_eq_decide]; omega
      · refine (if_neg h2).trans (congrArg some ?_)
        symm; rw [decide_eq_false_iff_not]; omega
  · refine (if_neg h).trans (congrArg some ?_)
    symm; rw [decide_eq_false_iff_not]; omega
def typesB (l : List S39) (n : Int) : Bool := decide ((l.length : Int) ≤ n) && l.all typB
theorem all_drop {α : Type} (p : α → Bool) (l : List α) (i : Nat) (h : i < l.length) : (l.drop i).all p = (p l[i] && (l.drop (i + 1)).all p) := by
  rw [List.drop_eq_getElem_cons h, List.all_cons]
theorem typesB_l (l : List S39) (hl : l.length ≤ 9223372036854775807) : ∀ (d k i : Nat), d < k → i + d = l.length → plimsollref05_types.l0 k l i = some ((l.drop i).all typB) := by
  intro d
  induction d with
  | zero =>
    intro k i hk hi
    obtain ⟨k, rfl⟩ : ∃ n, k = n + 1 := ⟨k - 1, by omega⟩
    rw [plimsollref05_types.l0, List.drop_eq_nil_of_le (by omega)]
    exact if_neg (by omega)
  | succ d ih =>
    intro k i hk hi
    obtain ⟨k, rfl⟩ : ∃ n, k = n + 1 := ⟨k - 1, by omega⟩
    have h1 : i < l.length := by omega
    rw [plimsollref05_types.l0, all_drop typB l i h1]
    refine (if_pos (by omega)).trans ((if_pos (by omega)).trans ?_)
    rw [tt h1, typ_val]
    simp only [Option.bind_some]
    cases typB l[i] with
    | true => refine (if_pos rfl).trans ?_; rw [inc_big h1 hl, ih k (i + 1) (by omega) (by omega)]; rfl
    | false => exact (if_neg (by simp)).trans rfl
theorem types_B (l : List S39) (n : Int) (hl : l.length ≤ 9223372036854775807) (k : Nat) (hk : l.length + 1 ≤ k) : plimsollref05_types.f k l n = some (typesB l n) := by
  unfold plimsollref05_types.f typesB
  by_cases h : (l.length : Int) > n
  · refine (if_pos h).trans ?_
    rw [decide_eq_false (by omega)]; rfl
  · refine (if_neg h).trans ?_
    rw [decide_eq_true (by omega)]
    have := typesB_l l hl l.length k 0 (by omega) (by omega)
    simpa using this
def listB (l : List Int) (n m : Int) : Bool := decide ((l.length : Int) ≤ n) && l.all fun x => decide (0 ≤ x ∧ x ≤ m)
theorem listB_l (l : List Int) (m : Int) (hl : l.length ≤ 9223372036854775807) : ∀ (d k i : Nat), d < k → i + d = l.length → plimsollref05_list.l0 k l m i = some ((l.drop i).all fun x => decide (0 ≤ x ∧ x ≤ m)) := by
  intro d
  induction d with
  | zero =>
    intro k i hk hi
    obtain ⟨k, rfl⟩ : ∃ n, k = n + 1 := ⟨k - 1, by omega⟩
    rw [plimsollref05_list.l0, List.drop_eq_nil_of_le (by omega)]
    exact if_neg (by omega)
  | succ d ih =>
    intro k i hk hi
    obtain ⟨k, rfl⟩ : ∃ n, k = n + 1 := ⟨k - 1, by omega⟩
    have h1 : i < l.length := by omega
    rw [plimsollref05_list.l0, all_drop _ l i h1]
    refine (if_pos (by omega)).trans ((if_pos (by omega)).trans ?_)
    rw [rd_nat h1, in_B]
    simp only [Option.bind_some]
    by_cases hb : 0 ≤ l[i] ∧ l[i] ≤ m
    · rw [decide_eq_true hb]; refine (if_pos rfl).trans ?_; rw [inc_big h1 hl, ih k (i + 1) (by omega) (by omega)]; rfl
    · rw [decide_eq_false hb]; exact (if_neg (by simp)).trans rfl
theorem list_B (l : List Int) (n m : Int) (hl : l.length ≤ 9223372036854775807) (k : Nat) (hk : l.length + 1 ≤ k) : plimsollref05_list.f k l n m = some (listB l n m) := by
  unfold plimsollref05_list.f listB
  by_cases h : (l.length : Int) > n
  · refine (if_pos h).trans ?_
    rw [decide_eq_false (by omega)]; rfl
  · refine (if_neg h).trans ?_
    rw [decide_eq_true (by omega)]
    have := listB_l l m hl l.length k 0 (by omega) (by omega)
    simpa using this
def argsV (op : Int) : Int := if op < 1 ∨ 34 < op then -1 else if op ∈ ([1, 3, 4, 18, 19, 22, 23, 29, 30, 31, 34] : List Int) then 1 else if op = 27 ∨ op = 28 ∨ op = 32 then 2 else 0
theorem args_val (op : Int) (k : Nat) (hk : 20 ≤ k) : plimsollref01_Args.f k op = some (argsV op) := by
  obtain ⟨k, rfl⟩ : ∃ n, k = n + 1 := ⟨k - 1, by omega⟩
  unfold plimsollref01_Args.f argsV
  simp only [Option.bind_some]
  by_cases h : op < 1
  · refine (if_pos h).trans ?_
    rw [plimsollref01_Args.j0]
    exact (if_pos rfl).trans (congrArg some (if_pos (.inl h)).symm)
  · refine (if_neg h).trans ?_
    rw [plimsollref01_Args.j0]
    by_cases h2 : op > 34
    · rw [decide_eq_true h2]
      exact (if_pos rfl).trans (congrArg some (if_pos (.inr h2)).symm)
    · rw [decide_eq_false h2, if_neg (show ¬ (op < 1 ∨ 34 < op) by omega)]
      refine (if_neg (by simp)).trans ?_
      rw [in_val _ _ _ (by simp) (by simp; omega)]
      simp only [Option.bind_some, decide_eq_true_eq]
      by_cases h3 : op ∈ ([1, 3, 4, 18, 19, 22, 23, 29, 30, 31, 34] : List Int)
      · rw [if_pos h3, if_pos h3]
      · rw [if_neg h3, if_neg h3]
        by_cases a : op = 27
        · rw [if_pos a, if_pos (.inl a)]
        · rw [if_neg a]
          by_cases b : op = 28
          · rw [if_pos b, if_pos (.inr (.inl b))]
          · rw [if_neg b]
            by_cases c : op = 32
            · rw [if_pos c, if_pos (.inr (.inr c))]
            · rw [if_neg c, if_neg (by omega)]
def instrB (i : S49) : Bool := decide (0 ≤ argsV i.f0 ∧ (argsV i.f0 < 1 → i.f1 = 0) ∧ (argsV i.f0 < 2 → i.f2 = 0) ∧ 0 ≤ i.f1 ∧ i.f1 ≤ 255 ∧ 0 ≤ i.f2 ∧ i.f2 ≤ 255)
theorem instr_val (i : S49) (k : Nat) (hk : 20 ≤ k) : plimsollref01_Instr.f k i.f0 i.f1 i.f2 = some (instrB i) := by
  unfold plimsollref01_Instr.f instrB
  rw [args_val _ k hk]
  simp only [Option.bind_some]
  generalize argsV i.f0 = n
  repeat' split
  all_goals first
    | (refine congrArg some ?_; rw [decide_eq_decide]; omega)
    | (refine congrArg some ?_; symm; rw [decide_eq_false_iff_not]; omega)
def goodT (n : Int) (t : S39) : Bool := decide (((t.f0 = 1 ∨ t.f0 = 2) ∧ t.f1 = 0) ∨ (t.f0 = 3 ∧ 0 ≤ t.f1 ∧ t.f1 < n))
theorem goodT_val (t : S39) (n : Int) : plimsollref01_Good.f t.f0 t.f1 n = some (goodT n t) := by
  unfold plimsollref01_Good.f goodT
  repeat' split
  all_goals first
    | (refine congrArg some ?_; rw [decide_eq_decide]; omega)
    | (refine congrArg some ?_; symm; rw [decide_eq_true_iff]; omega)
    | (refine congrArg some ?_; symm; rw [decide_eq_false_iff_not]; omega)
theorem good_l (l0 : List S80) (l1 : List S39) (l2 : List Int) (l3 : List S52) (l4 : List Int) (a5 a6 : Int) (l : List S39) (hl : l.length ≤ 9223372036854775807) : ∀ (d k i : Nat), d < k → i + d = l.length → plimsollref05_good.l0 k l i l0 l1 l2 l3 l4 a5 a6 = some ((l.drop i).all (goodT l0.length)) := by
  intro d
  induction d with
  | zero =>
    intro k i hk hi
    obtain ⟨k, rfl⟩ : ∃ n, k = n + 1 := ⟨k - 1, by omega⟩
    rw [plimsollref05_good.l0, List.drop_eq_nil_of_le (by omega)]
    exact if_neg (by omega)
  | succ d ih =>
    intro k i hk hi
    obtain ⟨k, rfl⟩ : ∃ n, k = n + 1 := ⟨k - 1, by omega⟩
    have h1 : i < l.length := by omega
    rw [plimsollref05_good.l0, all_drop _ l i h1]
    refine (if_pos (by omega)).trans ((if_pos (by omega)).trans ?_)
    rw [tt h1, goodT_val]
    simp only [Option.bind_some]
    cases goodT l0.length l[i] with
    | true => refine (if_pos rfl).trans ?_; rw [inc_big h1 hl, ih k (i + 1) (by omega) (by omega)]; rfl
    | false => exact (if_neg (by simp)).trans rfl
theorem good_all (l0 : List S80) (l1 : List S39) (l2 : List Int) (l3 : List S52) (l4 : List Int) (a5 a6 : Int) (l : List S39) (hl : l.length ≤ 9223372036854775807) (k : Nat) (hk : l.length + 1 ≤ k) : plimsollref05_good.f k l0 l1 l2 l3 l4 a5 a6 l = some (l.all (goodT l0.length)) := by
  unfold plimsollref05_good.f
  have := good_l l0 l1 l2 l3 l4 a5 a6 l hl l.length k 0 (by omega) (by omega)
  simpa using this
theorem ext_T {a b : S39} : a = b ↔ a.f0 = b.f0 ∧ a.f1 = b.f1 := ⟨fun h => by subst h; exact ⟨rfl, rfl⟩, fun h => by cases a; cases b; simp_all⟩
instance : DecidableEq S39 := fun a b => if h : a.f0 = b.f0 ∧ a.f1 = b.f1 then isTrue (ext_T.2 h) else isFalse (fun e => h (ext_T.1 e))
theorem types_eq_l (x y : List S39) (hx : x.length ≤ 1000000) (hl : x.length = y.length) : ∀ (d k i : Nat), d < k → i + d = x.length → plimsollref01_Types.l0 k x y i = some (decide (x.drop i = y.drop i)) := by
  intro d
  induction d with
  | zero =>
    intro k i hk hi
    obtain ⟨k, rfl⟩ : ∃ n, k = n + 1 := ⟨k - 1, by omega⟩
    rw [plimsollref01_Types.l0, List.drop_eq_nil_of_le (by omega), List.drop_eq_nil_of_le (by omega)]
    exact (if_neg (by omega)).trans (by simp)
  | succ d ih =>
    intro k i hk hi
    obtain ⟨k, rfl⟩ : ∃ n, k = n + 1 := ⟨k - 1, by omega⟩
    have h1 : i < x.length := by omega
    have h2 : i < y.length := by omega
    rw [plimsollref01_Types.l0, List.drop_eq_getElem_cons h1, List.drop_eq_getElem_cons h2]
    refine (if_pos (by omega)).trans ((if_pos (by omega)).trans ((if_pos (by omega)).trans ?_))
    rw [tt h1, tt h2, inc_nat h1 hx]
    by_cases he : x[i] = y[i]
    · rw [he]
      refine (if_neg (by simp)).trans ?_
      rw [ih k (i + 1) (by omega) (by omega)]
      congr 1; rw [decide_eq_decide]
      exact ⟨fun h => by rw [h], fun h => by injection h⟩
    · refine (if_pos ?_).trans ?_
      · rw [Bool.or_eq_true, Bool.not_eq_true', Bool.not_eq_true', beq_eq_false_iff_ne, beq_eq_false_iff_ne]
        by_cases h0 : x[i].f0 = y[i].f0
        · exact .inr (fun h => he (ext_T.2 ⟨h0, h⟩))
        · exact .inl h0
      · congr 1; symm; rw [decide_eq_false_iff_not]
        intro h; injection h with h _; exact he h
theorem types_eq (x y : List S39) (hx : x.length ≤ 1000000) (k : Nat) (hk : x.length + 1 ≤ k) : plimsollref01_Types.f k x y = some (decide (x = y)) := by
  unfold plimsollref01_Types.f
  by_cases h : x.length = y.length
  · refine (if_pos (by omega)).trans ?_
    have := types_eq_l x y hx h x.length k 0 (by omega) (by omega)
    simpa using this
  · refine (if_neg (by omega)).trans ?_
    congr 1; symm; rw [decide_eq_false_iff_not]
    intro e; exact h (by rw [e])
def nextsV (i : S49) (pc : Int) : List Int := if i.f0 = 18 then [i.f1] else if i.f0 = 19 then [pc + 1, i.f1] else if i.f0 = 33 then [] else [pc + 1]
theorem nexts_val (i : S49) (pc : Int) (h0 : 0 ≤ pc) (h1 : pc ≤ 1000000) : flow_nexts.f i.f0 i.f1 i.f2 pc = some (nextsV i pc) := by
  have e : wrap64 (pc + 1) = pc + 1 := by unfold wrap64; omega
  unfold flow_nexts.f nextsV
  rw [e]
  repeat' split
  all_goals rfl
theorem index_l (l : List Int) (x : Int) (hl : l.length ≤ 1000000) : ∀ (d k i : Nat), d < k → i + d = l.length → ∃ r, slices_Index_int_int.l0 k l x l.length i = some r ∧ (0 ≤ r ↔ x ∈ l.drop i) := by
  intro d
  induction d with
  | zero =>
    intro k i hk hi
    obtain ⟨k, rfl⟩ : ∃ n, k = n + 1 := ⟨k - 1, by omega⟩
    refine ⟨-1, ?_, ?_⟩
    · rw [slices_Index_int_int.l0]
      exact if_neg (by omega)
    · rw [List.drop_eq_nil_of_le (by omega)]; simp
  | succ d ih =>
    intro k i hk hi
    obtain ⟨k, rfl⟩ : ∃ n, k = n + 1 := ⟨k - 1, by omega⟩
    have h1 : i < l.length := by omega
    by_cases he : x = l[i]
    · refine ⟨i, ?_, ?_⟩
      · rw [slices_Index_int_int.l0]
        refine (if_pos (by omega)).trans ((if_pos (by omega)).trans ((if_pos (by omega)).trans ?_))
        rw [rd_nat h1]
        exact if_pos he
      · rw [List.drop_eq_getElem_cons h1]
        exact ⟨fun _ => by rw [he]; exact List.mem_cons_self, fun _ => by omega⟩
    · obtain ⟨r, hr, hq⟩ := ih k (i + 1) (by omega) (by omega)
      refine ⟨r, ?_, ?_⟩
      · rw [slices_Index_int_int.l0]
        refine (if_pos (by omega)).trans ((if_pos (by omega)).trans ((if_pos (by omega)).trans ?_))
        rw [rd_nat h1, inc_nat h1 hl]
        exact (if_neg he).trans hr
      · rw [hq, List.drop_eq_getElem_cons h1]
        exact ⟨fun h => List.mem_cons_of_mem _ h, fun h => by
          rcases List.mem_cons.1 h with h | h
          · exact absurd h he
          · exact h⟩
theorem contains_val (l : List Int) (x : Int) (hl : l.length ≤ 1000000) (k : Nat) (hk : l.length + 1 ≤ k) : slices_Contains_int_int.f k l x = some (decide (x ∈ l)) := by
  obtain ⟨r, hr, hq⟩ := index_l l x hl l.length k 0 (by omega) (by omega)
  unfold slices_Contains_int_int.f slices_Index_int_int.f
  rw [show (0 : Int) = ((0 : Nat) : Int) from rfl, hr]
  simp only [Option.bind_some]
  congr 1; rw [decide_eq_decide]
  simpa using hq
end Go.Proofs.Ytcfbhobpfnlkpaa.Flow
