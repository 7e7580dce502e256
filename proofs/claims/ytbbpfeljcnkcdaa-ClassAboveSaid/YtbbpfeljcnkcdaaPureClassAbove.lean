/- The pure statement of ClassAbove: a class has the fields of each one above it first; no condition. -/
import Derived.Test.YtbbpfeljcnkcdaaRdClassAbove
import Derived.Test.YtbbpfeljcnkcdaaChain
namespace Go.Proofs.Ytbbpfeljcnkcdaa.Pure
open Go.RowKit Go.Proofs.Ytbbpfeljcnkcdaa.QClassAbove Go.Proofs.YtbbpfeljcnkcdaaW.PrintWords Go.Proofs.YtbbpfeljcnkcdaaW.PrintLast Go.Proofs.Ytbbpfeljcnkcdaa.Open Go.Proofs.Ytbbpfeljcnkcdaa.RdClassAbove Go.Proofs.Ytbbpfeljcnkcdaa.Chain
theorem inc_nat {i n : Nat} (h : i < n) (hn : n ≤ 1000000) : wrap64 ((i : Int) + 1) = ((i + 1 : Nat) : Int) := by unfold wrap64; omega
theorem rd_nat {x : List Int} {i : Nat} (h : i < x.length) : rd x (i : Int) = x[i] := by unfold rd; simp [List.getD_eq_getElem?_getD, List.getElem?_eq_getElem h]
theorem tc {X : List S50} {i : Nat} (h : i < X.length) : rd_T50 X (i : Int) = X[i] := by unfold rd_T50; simp [List.getD_eq_getElem?_getD, List.getElem?_eq_getElem h]
theorem tt {X : List S40} {i : Nat} (h : i < X.length) : rd_T40 X (i : Int) = X[i] := by unfold rd_T40; simp [List.getD_eq_getElem?_getD, List.getElem?_eq_getElem h]
/-- what stands above class i -/
def sf (l : List S50) (i : Int) : Int := (rd_T50 l i).f0
theorem up_val (l : List S50) (a : Int) : kind_up.f l a = some (upc (sf l) l.length a) := by
  unfold kind_up.f
  by_cases h : a < 0
  · rw [show upc (sf l) l.length a = -1 by unfold upc; rw [if_pos h]]
    exact if_pos h
  · refine (if_neg h).trans ?_
    by_cases h1 : a ≥ (l.length : Int)
    · rw [show upc (sf l) l.length a = -1 by unfold upc; rw [if_neg h, if_pos h1]]
      exact if_pos h1
    · refine (if_neg h1).trans ((if_pos (by omega)).trans ((if_pos (by omega)).trans ?_))
      by_cases h2 : (rd_T50 l a).f0 ≥ a
      · rw [show upc (sf l) l.length a = -1 by unfold upc sf; rw [if_neg h, if_neg (by omega), if_pos h2]]
        exact if_pos h2
      · rw [show upc (sf l) l.length a = (rd_T50 l a).f0 by unfold upc sf; rw [if_neg h, if_neg (by omega), if_neg (by omega)]]
        exact if_neg h2
theorem below_l (l : List S50) (b : Int) : ∀ (k : Nat) (a : Int), a < (k : Int) → a < (l.length : Int) → kind_Below.l0 (k + 1) l a b = some (decide (b ∈ abv (sf l) l.length a)) := by
  intro k
  induction k with
  | zero =>
    intro a ha hl
    rw [kind_Below.l0]
    refine (if_neg (by omega)).trans ?_
    rw [abv_out (by omega)]; simp
  | succ k ih =>
    intro a ha hl
    rw [kind_Below.l0]
    by_cases h0 : a ≥ 0
    · refine (if_pos h0).trans ?_
      rw [abv_in (s := sf l) h0 hl]
      by_cases hb : a = b
      · refine (if_pos hb).trans ?_
        simp [hb]
      · refine (if_neg hb).trans ?_
        have hu := upc_lt (s := sf l) (n := l.length) h0
        rw [up_val]
        simp only [Option.bind_some]
        rw [ih _ (by omega) (by omega)]
        congr 1
        rw [decide_eq_decide, List.mem_cons]
        constructor
        · intro h; exact .inr h
        · rintro (h | h)
          · exact absurd h.symm hb
          · exact h
    · refine (if_neg h0).trans ?_
      rw [abv_out (by omega)]; simp
theorem below_val (l : List S50) (a b : Int) (k : Nat) (hk : l.length + 3 ≤ k) : kind_Below.f k l a b = some (decide (b ∈ abv (sf l) l.length a)) := by
  obtain ⟨k, rfl⟩ : ∃ m, k = m + 2 := ⟨k - 2, by omega⟩
  have no : b < 0 ∨ (l.length : Int) ≤ b ∨ (l.length : Int) ≤ a → (some false : Option Bool) = some (decide (b ∈ abv (sf l) l.length a)) := by
    intro h
    congr 1
    symm
    rw [decide_eq_false_iff_not]
    intro hm
    have := abv_mem _ _ hm
    omega
  unfold kind_Below.f
  by_cases h1 : b < 0
  · refine (if_pos h1).trans ?_
    rw [kind_Below.j0]; exact (if_pos rfl).trans (no (.inl h1))
  · refine (if_neg h1).trans ?_
    by_cases h2 : b ≥ (l.length : Int)
    · refine (if_pos h2).trans ?_
      rw [kind_Below.j0]; exact (if_pos rfl).trans (no (.inr (.inl h2)))
    · refine (if_neg h2).trans ?_
      rw [kind_Below.j0]
      by_cases h3 : a ≥ (l.length : Int)
      · refine (if_pos (decide_eq_true h3)).trans (no (.inr (.inr h3)))
      · refine (if_neg (by simpa using h3)).trans ?_
        exact below_l l b k a (by omega) (by omega)
theorem in_l (x : List Int) (c : Int) (hx : x.length ≤ 1000000) : ∀ (d k i : Nat), d < k → i + d = x.length → plimsollref01_In.l0 k x c i = some (decide (c ∈ x.drop i)) := by
  intro d
  induction d with
  | zero =>
    intro k i hk hi
    obtain ⟨k, rfl⟩ : ∃ m, k = m + 1 := ⟨k - 1, by omega⟩
    rw [plimsollref01_In.l0]
    refine (if_neg (by omega)).trans ?_
    rw [List.drop_of_length_le (by omega)]; simp
  | succ d ih =>
    intro k i hk hi
    obtain ⟨k, rfl⟩ : ∃ m, k = m + 1 := ⟨k - 1, by omega⟩
    rw [plimsollref01_In.l0]
    refine (if_pos (by omega)).trans ((if_pos (by omega)).trans ?_)
    have hr : rd x (i : Int) = x[i]'(by omega) := by unfold rd; simp [List.getD_eq_getElem?_getD, List.getElem?_eq_getElem (show i < x.length by omega)]
    rw [hr, List.drop_eq_getElem_cons (show i < x.length by omega)]
    by_cases hm : x[i]'(by omega) = c
    · rw [if_pos hm]; simp [hm]
    · rw [if_neg hm]
      have e : wrap64 ((i : Int) + 1) = ((i + 1 : Nat) : Int) := by unfold wrap64; omega
      rw [e, ih k (i + 1) (by omega) (by omega)]
      congr 1
      rw [decide_eq_decide, List.mem_cons]
      constructor
      · intro h; exact .inr h
      · rintro (h | h)
        · exact absurd h.symm hm
        · exact h
theorem in_val (x : List Int) (c : Int) (k : Nat) (hx : x.length ≤ 1000000) (hk : x.length + 1 ≤ k) : plimsollref01_In.f k x c = some (decide (c ∈ x)) := by
  have := in_l x c hx x.length k 0 (by omega) (by omega)
  exact this
theorem above_l (l : List S50) : ∀ (m k : Nat) (c : Int) (out : List Int), c < (m : Int) → 2 * m + 2 ≤ k → out.length + m ≤ 1000001 →
    plimsollref01_Above.l0 k l c out = some (out ++ abv (sf l) l.length c) := by
  intro m
  induction m with
  | zero =>
    intro k c out hc hk _
    obtain ⟨k, rfl⟩ : ∃ m, k = m + 2 := ⟨k - 2, by omega⟩
    rw [plimsollref01_Above.l0]
    refine (if_neg (by omega)).trans ?_
    rw [plimsollref01_Above.j1, abv_out (by omega)]; simp
  | succ m ih =>
    intro k c out hc hk ho
    obtain ⟨k, rfl⟩ : ∃ m, k = m + 2 := ⟨k - 2, by omega⟩
    rw [plimsollref01_Above.l0]
    by_cases h0 : c ≥ 0
    · refine (if_pos h0).trans ?_
      rw [plimsollref01_Above.j1]
      by_cases h1 : c < (l.length : Int)
      · refine (if_pos (decide_eq_true h1)).trans ((if_pos (by omega)).trans ?_)
        simp only [Option.bind_some]
        refine (if_pos (by omega)).trans ((if_pos h1).trans ?_)
        have hu := upc_lt (s := sf l) (n := l.length) h0
        rw [abv_in (s := sf l) h0 h1]
        have hstep := ih k (upc (sf l) l.length c) (out ++ [c]) (by omega) (by omega) (by simp; omega)
        rw [List.append_assoc] at hstep
        by_cases h2 : (rd_T50 l c).f0 ≥ c
        · refine (if_pos h2).trans ?_
          have e : upc (sf l) l.length c = -1 := by unfold upc sf; rw [if_neg (by omega), if_neg (by omega), if_pos h2]
          rw [e] at hstep ⊢
          exact hstep
        · refine (if_neg h2).trans ?_
          have e : upc (sf l) l.length c = (rd_T50 l c).f0 := by unfold upc sf; rw [if_neg (by omega), if_neg (by omega), if_neg h2]
          rw [e] at hstep ⊢
          exact hstep
      · refine (if_neg (by simpa using h1)).trans ?_
        rw [abv_out (by omega)]; simp
    · refine (if_neg h0).trans ?_
      rw [plimsollref01_Above.j1, abv_out (by omega)]; simp
theorem above_val (l : List S50) (hl : l.length ≤ 1000000) (c : Int) (k : Nat) (hk : 2 * l.length + 4 ≤ k) : plimsollref01_Above.f k l c = some (abv (sf l) l.length c) := by
  unfold plimsollref01_Above.f
  by_cases h : c < (l.length : Int)
  · have := above_l l (l.length + 1) k c [] (by omega) (by omega) (by simp; omega)
    simpa using this
  · obtain ⟨k, rfl⟩ : ∃ m, k = m + 2 := ⟨k - 2, by omega⟩
    rw [plimsollref01_Above.l0]
    have hj : plimsollref01_Above.j1 (k + 1) l c [] false = some [] := by rw [plimsollref01_Above.j1]; simp
    rw [abv_out (by omega)]
    by_cases h0 : c ≥ 0
    · refine (if_pos h0).trans ?_
      rw [decide_eq_false h]; exact hj
    · exact (if_neg h0).trans hj
def tot : List S50 → Nat
  | [] => 0
  | x :: r => 1 + x.f1.length + tot r
theorem tot_len : ∀ (l : List S50), l.length ≤ tot l := by
  intro l
  induction l with
  | nil => simp [tot]
  | cons x r ih => simp only [tot, List.length_cons]; omega
theorem tot_mem : ∀ (l : List S50) (x : S50), x ∈ l → x.f1.length < tot l := by
  intro l
  induction l with
  | nil => intro x h; simp at h
  | cons y r ih =>
    intro x h
    simp only [tot]
    rcases List.mem_cons.1 h with rfl | h
    · omega
    · have := ih x h; omega
theorem some_dec {p q : Prop} [Decidable p] [Decidable q] (h : p ↔ q) : some (decide p) = some (decide q) := by rw [decide_eq_decide.2 h]
theorem few_l (l : List S50) (l1 : List S40) (l2 : List Int) (l3 : List S43) (l4 : List Int) (a5 a6 : Int) (hl : l.length ≤ 140737488351232) (hb : ∀ x ∈ l, x.f1.length ≤ 140737488351232) : ∀ (d k i n : Nat), d < k → i + d = l.length → n ≤ 200000000000000 →
    plimsolllaw07_few.l0 k n i l l1 l2 l3 l4 a5 a6 = some (decide (n + tot (l.drop i) < 200)) := by
  intro d
  induction d with
  | zero =>
    intro k i n hk hi hn
    obtain ⟨k, rfl⟩ : ∃ m, k = m + 1 := ⟨k - 1, by omega⟩
    rw [plimsolllaw07_few.l0]
    refine (if_neg (by omega)).trans ?_
    rw [List.drop_of_length_le (by omega)]
    exact some_dec (by simp only [tot]; omega)
  | succ d ih =>
    intro k i n hk hi hn
    obtain ⟨k, rfl⟩ : ∃ m, k = m + 1 := ⟨k - 1, by omega⟩
    have hi1 : i < l.length := by omega
    rw [plimsolllaw07_few.l0]
    refine (if_pos (by omega)).trans ?_
    by_cases h : (n : Int) < 2000
    · refine (if_pos h).trans ((if_pos (by omega)).trans ?_)
      have hx := hb _ (List.getElem_mem hi1)
      have e1 : wrap64 (1 + (l[i].f1.length : Int)) = ((1 + l[i].f1.length : Nat) : Int) := by unfold wrap64; omega
      rw [tc hi1, e1]
      clear e1
      have e2 : wrap64 ((n : Int) + ((1 + l[i].f1.length : Nat) : Int)) = ((n + (1 + l[i].f1.length) : Nat) : Int) := by unfold wrap64; omega
      rw [e2]
      clear e2
      have e3 : wrap64 ((i : Int) + 1) = ((i + 1 : Nat) : Int) := by unfold wrap64; omega
      rw [e3]
      clear e3
      rw [ih k (i + 1) _ (by omega) (by omega) (by omega), List.drop_eq_getElem_cons hi1]
      exact some_dec (by simp only [tot]; omega)
    · refine (if_neg h).trans ?_
      exact some_dec (by omega)
theorem few_val (l : List S50) (l1 : List S40) (l2 : List Int) (l3 : List S43) (l4 : List Int) (a5 a6 : Int) (hl : l.length ≤ 140737488351232) (hb : ∀ x ∈ l, x.f1.length ≤ 140737488351232) :
    ∃ b, (∀ k, l.length + 1 ≤ k → plimsolllaw07_few.f k l l1 l2 l3 l4 a5 a6 = some b) ∧ (b = true → tot l < 200) := by
  refine ⟨decide (tot l < 200), fun k hk => ?_, fun h => of_decide_eq_true h⟩
  have := few_l l l1 l2 l3 l4 a5 a6 hl hb l.length k 0 0 (by omega) (by omega) (by omega)
  unfold plimsolllaw07_few.f
  simpa using this
theorem cup_val (l : List S50) (l1 : List S40) (l2 : List Int) (l3 : List S43) (l4 : List Int) (a5 a6 : Int) (a : Int) (h0 : 0 ≤ a) (h1 : a < (l.length : Int)) : class_up.f l l1 l2 l3 l4 a5 a6 a = some (upc (sf l) l.length a) := by
  unfold class_up.f
  refine (if_pos h0).trans ((if_pos h1).trans ?_)
  by_cases h2 : (rd_T50 l a).f0 ≥ a
  · rw [show upc (sf l) l.length a = -1 by unfold upc sf; rw [if_neg (by omega), if_neg (by omega), if_pos h2]]
    exact if_pos h2
  · rw [show upc (sf l) l.length a = (rd_T50 l a).f0 by unfold upc sf; rw [if_neg (by omega), if_neg (by omega), if_neg (by omega)]]
    exact if_neg h2
theorem concat_val (a b : List S40) (ha : a.length ≤ 1000000000) (hb : b.length ≤ 1000000000) (k : Nat) (hk : 6 ≤ k) : api_Type_24.f k [a, b] = some (a ++ b) := by
  obtain ⟨k, rfl⟩ : ∃ m, k = m + 6 := ⟨k - 6, by omega⟩
  have r0 : rd_L2 [a, b] 0 = a := rfl
  have r1 : rd_L2 [a, b] 1 = b := rfl
  have e1 : wrap64 (0 + (a.length : Int)) = (a.length : Int) := by unfold wrap64; omega
  have e2 : wrap64 ((a.length : Int) + (b.length : Int)) = ((a.length : Int) + (b.length : Int)) := by clear e1; unfold wrap64; omega
  have e3 : wrap64 (0 + 1) = 1 := by clear e1 e2; unfold wrap64; omega
  have e4 : wrap64 (1 + 1) = 2 := by clear e1 e2 e3; unfold wrap64; omega
  have el : (([a, b] : List (List S40)).length : Int) = 2 := rfl
  unfold api_Type_24.f
  rw [api_Type_24.l0, el, r0, e1, e3]
  refine (if_pos (by decide)).trans ((if_pos (by decide)).trans ((if_pos (by decide)).trans ((if_neg (by clear e1 e2 e3 e4; omega)).trans ?_)))
  rw [api_Type_24.l0, el, r1, e2, e4]
  refine (if_pos (by decide)).trans ((if_pos (by decide)).trans ((if_pos (by decide)).trans ((if_neg (by clear e1 e2 e3 e4; omega)).trans ?_)))
  rw [api_Type_24.l0]
  refine (if_neg (by decide)).trans ((if_pos (by clear e1 e2 e3 e4; omega)).trans ?_)
  rw [api_Type_24.l1, el, r0, e3]
  refine (if_pos (by decide)).trans ((if_pos (by decide)).trans ((if_pos (by decide)).trans ((if_pos (by clear e1 e2 e3 e4; simp; omega)).trans ?_)))
  rw [api_Type_24.l1, el, r1, e4]
  refine (if_pos (by decide)).trans ((if_pos (by decide)).trans ((if_pos (by decide)).trans ((if_pos (by clear e1 e2 e3 e4; simp; omega)).trans ?_)))
  rw [api_Type_24.l1]
  refine (if_neg (by decide)).trans ?_
  simp
/-- the fields of a chain of classes, the last one's first -/
def fl (l : List S50) (c : Int) : List S40 := (rd_T50 l c).f1
def flds (l : List S50) (c : Int) : List S40 := (abv (sf l) l.length c).reverse.flatMap (fl l)
theorem flds_in (l : List S50) (c : Int) (h0 : 0 ≤ c) (h1 : c < (l.length : Int)) : flds l c = flds l (upc (sf l) l.length c) ++ fl l c := by
  unfold flds
  rw [abv_in (s := sf l) h0 h1, List.reverse_cons, List.flatMap_append]; simp
theorem flds_out (l : List S50) (c : Int) (h : ¬ (0 ≤ c ∧ c < (l.length : Int))) : flds l c = [] := by
  unfold flds; rw [abv_out h]; rfl
theorem fl_len (l : List S50) (ht : tot l < 200) (c : Int) : (fl l c).length < 200 := by
  unfold fl rd_T50
  rw [List.getD_eq_getElem?_getD]
  cases h : l[c.toNat]? with
  | none => simp [z50]
  | some x =>
    have := tot_mem l x (List.mem_of_getElem? h)
    simp only [Option.getD_some]
    omega
theorem flds_len (l : List S50) (ht : tot l < 200) : ∀ c : Int, 0 ≤ c → ((flds l c).length : Int) ≤ 200 * (c + 1) := by
  refine chain_ind (s := sf l) (n := l.length) (fun c hc h0 => ?_) (fun c h0 h1 ih _ => ?_)
  · rw [flds_out l c hc]; simp; omega
  · rw [flds_in l c h0 h1, List.length_append]
    have hf := fl_len l ht c
    have hu := upc_lt (s := sf l) (n := l.length) h0
    by_cases hp : 0 ≤ upc (sf l) l.length c
    · have := ih hp; omega
    · rw [flds_out l _ (by omega)]; simp; omega
theorem flds_len' (l : List S50) (ht : tot l < 200) (c : Int) : (flds l c).length ≤ 100000 := by
  by_cases h : 0 ≤ c ∧ c < (l.length : Int)
  · have := flds_len l ht c h.1
    have := tot_len l
    omega
  · rw [flds_out l c h]; simp
theorem fields_l (l : List S50) (l1 : List S40) (l2 : List Int) (l3 : List S43) (l4 : List Int) (a5 a6 : Int) (ht : tot l < 200) : ∀ (m k : Nat) (c : Int) (out : List S40), c < (m : Int) → c < (l.length : Int) → m + 8 ≤ k → out.length + 200 * m ≤ 100000 →
    class_Fields.l0 k c out l l1 l2 l3 l4 a5 a6 = some (flds l c ++ out) := by
  intro m
  induction m with
  | zero =>
    intro k c out hc hl hk ho
    obtain ⟨k, rfl⟩ : ∃ m, k = m + 1 := ⟨k - 1, by omega⟩
    rw [class_Fields.l0]
    refine (if_neg (by omega)).trans ?_
    rw [flds_out l c (by omega)]; rfl
  | succ m ih =>
    intro k c out hc hl hk ho
    obtain ⟨k, rfl⟩ : ∃ m, k = m + 1 := ⟨k - 1, by omega⟩
    rw [class_Fields.l0]
    by_cases h0 : c ≥ 0
    · refine (if_pos h0).trans ((if_pos h0).trans ((if_pos hl).trans ?_))
      have hf := fl_len l ht c
      rw [concat_val (rd_T50 l c).f1 out (by unfold fl at hf; omega) (by omega) k (by omega), cup_val l l1 l2 l3 l4 a5 a6 c h0 hl]
      simp only [Option.bind_some]
      have hu := upc_lt (s := sf l) (n := l.length) h0
      have hn := ih k (upc (sf l) l.length c) ((rd_T50 l c).f1 ++ out) (by omega) (by omega) (by omega) (by rw [List.length_append]; unfold fl at hf; omega)
      rw [hn, flds_in l c h0 hl, List.append_assoc]; rfl
    · refine (if_neg h0).trans ?_
      rw [flds_out l c (by omega)]; rfl
theorem fields_val (l : List S50) (l1 : List S40) (l2 : List Int) (l3 : List S43) (l4 : List Int) (a5 a6 : Int) (ht : tot l < 200) (c : Int) (k : Nat) (hk : 300 ≤ k) : class_Fields.f k l l1 l2 l3 l4 a5 a6 c = some (flds l c) := by
  unfold class_Fields.f
  have hl := tot_len l
  by_cases h : c ≥ (l.length : Int)
  · refine (if_pos h).trans ?_
    rw [flds_out l c (by omega)]
  · refine (if_neg h).trans ?_
    have := fields_l l l1 l2 l3 l4 a5 a6 ht 201 k c [] (by omega) (by omega) (by omega) (by simp)
    simpa using this
theorem size_val (l : List S50) (l1 : List S40) (l2 : List Int) (l3 : List S43) (l4 : List Int) (a5 a6 : Int) (ht : tot l < 200) (c : Int) (k : Nat) (hk : 300 ≤ k) : class_Size.f k l l1 l2 l3 l4 a5 a6 c = some (1 + ((flds l c).length : Int)) := by
  unfold class_Size.f
  rw [fields_val l l1 l2 l3 l4 a5 a6 ht c k hk]
  have := flds_len' l ht c
  simp only [Option.bind_some]
  congr 1; unfold wrap64; omega
/-- the classes from number i on that are c, or below it -/
def bls (l : List S50) (c : Int) : Nat → Nat → List Int
  | 0, _ => []
  | d + 1, i => (if c ∈ abv (sf l) l.length (i : Int) then [(i : Int)] else []) ++ bls l c d (i + 1)
theorem bls_len (l : List S50) (c : Int) : ∀ (d i : Nat), (bls l c d i).length ≤ d := by
  intro d
  induction d with
  | zero => intro i; simp [bls]
  | succ d ih => intro i; simp only [bls, List.length_append]; have := ih (i + 1); split <;> simp <;> omega
theorem bls_mem (l : List S50) (c x : Int) : ∀ (d i : Nat), x ∈ bls l c d i ↔ ((i : Int) ≤ x ∧ x < ((i + d : Nat) : Int) ∧ c ∈ abv (sf l) l.length x) := by
  intro d
  induction d with
  | zero => intro i; simp [bls]; omega
  | succ d ih =>
    intro i
    simp only [bls, List.mem_append]
    rw [ih (i + 1)]
    constructor
    · rintro (h | ⟨h1, h2, h3⟩)
      · split at h
        · simp only [List.mem_singleton] at h
          subst h
          rename_i hc
          exact ⟨by omega, by omega, hc⟩
        · cases h
      · exact ⟨by omega, by omega, h3⟩
    · rintro ⟨h1, h2, h3⟩
      by_cases he : x = (i : Int)
      · left; subst he; rw [if_pos h3]; exact List.mem_singleton.2 rfl
      · right; exact ⟨by omega, by omega, h3⟩
theorem below_loop (l : List S50) (l1 : List S40) (l2 : List Int) (l3 : List S43) (l4 : List Int) (a5 a6 : Int) (c : Int) (hl : l.length ≤ 1000) : ∀ (d k i : Nat) (out : List Int), d + 2000 ≤ k → i + d = l.length → out.length ≤ i →
    class_Below.l0 k c out (l.length : Int) i l l1 l2 l3 l4 a5 a6 = some (out ++ bls l c d i) := by
  intro d
  induction d with
  | zero =>
    intro k i out hk hi ho
    obtain ⟨k, rfl⟩ : ∃ m, k = m + 1 := ⟨k - 1, by omega⟩
    rw [class_Below.l0]
    refine (if_neg (by omega)).trans ?_
    simp [slices_Clip_int_int.f, bls]
  | succ d ih =>
    intro k i out hk hi ho
    obtain ⟨k, rfl⟩ : ∃ m, k = m + 1 := ⟨k - 1, by omega⟩
    rw [class_Below.l0]
    refine (if_pos (by omega)).trans ?_
    rw [below_val l (i : Int) c k (by omega)]
    simp only [Option.bind_some]
    rw [inc_nat (show i < l.length by omega) (by omega)]
    by_cases hm : c ∈ abv (sf l) l.length (i : Int)
    · refine (if_pos (decide_eq_true hm)).trans ((if_pos (by omega)).trans ?_)
      rw [ih k (i + 1) (out ++ [(i : Int)]) (by omega) (by omega) (by simp; omega)]
      simp only [bls]
      rw [if_pos hm, List.append_assoc]
    · refine (if_neg (by simpa using hm)).trans ?_
      rw [ih k (i + 1) out (by omega) (by omega) (by omega)]
      simp only [bls]
      rw [if_neg hm]; rfl
theorem cbelow_val (l : List S50) (l1 : List S40) (l2 : List Int) (l3 : List S43) (l4 : List Int) (a5 a6 : Int) (c : Int) (hl : l.length ≤ 1000) (k : Nat) (hk : 4000 ≤ k) : class_Below.f k l l1 l2 l3 l4 a5 a6 c = some (bls l c l.length 0) := by
  unfold class_Below.f
  have := below_loop l l1 l2 l3 l4 a5 a6 c hl l.length k 0 [] (by omega) (by omega) (by simp)
  simpa using this
theorem types_l (x y : List S40) (hx : x.length ≤ 1000000) (hl : x.length = y.length) : ∀ (d k i : Nat), d < k → i + d = x.length → x.drop i = y.drop i → plimsollref01_Types.l0 k x y i = some true := by
  intro d
  induction d with
  | zero =>
    intro k i hk hi _
    obtain ⟨k, rfl⟩ : ∃ n, k = n + 1 := ⟨k - 1, by omega⟩
    rw [plimsollref01_Types.l0]
    exact if_neg (by omega)
  | succ d ih =>
    intro k i hk hi he
    obtain ⟨k, rfl⟩ : ∃ n, k = n + 1 := ⟨k - 1, by omega⟩
    have h1 : i < x.length := by omega
    have h2 : i < y.length := by omega
    rw [List.drop_eq_getElem_cons h1, List.drop_eq_getElem_cons h2] at he
    injection he with he1 he2
    rw [plimsollref01_Types.l0]
    refine (if_pos (by omega)).trans ((if_pos (by omega)).trans ((if_pos (by omega)).trans ?_))
    rw [tt h1, tt h2, he1, inc_nat h1 hx]
    refine (if_neg (by simp)).trans ?_
    exact ih k (i + 1) (by omega) (by omega) he2
theorem types_same (x : List S40) (hx : x.length ≤ 1000000) (k : Nat) (hk : x.length + 1 ≤ k) : plimsollref01_Types.f k x x = some true := by
  unfold plimsollref01_Types.f
  refine (if_pos rfl).trans ?_
  exact types_l x x hx rfl x.length k 0 (by omega) (by omega) rfl
theorem awake_ok (k : Nat) (hk : 60 ≤ k) : plimsolllaw07_awake.f k = some true := by
  have h : plimsolllaw07_awake.f 60 = some true := by decide +kernel
  exact at_rounds (plimsolllaw07_awake.mono) hk h
theorem u8b {t : Int} (h : IntG .u8 t) : 0 ≤ t ∧ t ≤ 255 := by
  unfold IntG at h
  simp only [Lit.wf, Bool.and_eq_true, decide_eq_true_eq] at h
  exact h
theorem at_class {a n : Int} (h : IntG .u8 a) (hn : 0 < n) : 0 ≤ Int.tmod (wrap64 a) n ∧ Int.tmod (wrap64 a) n < n := by
  have hb := u8b h
  have e : wrap64 a = a := by unfold wrap64; omega
  rw [e, Int.tmod_eq_emod_of_nonneg hb.1]
  exact ⟨Int.emod_nonneg _ (by omega), Int.emod_lt_of_pos _ hn⟩
theorem in_below (l : List S50) (c x : Int) (hl : l.length ≤ 1000) (k : Nat) (hk : 2000 ≤ k) : plimsollref01_In.f k (bls l c l.length 0) x = some (decide (0 ≤ x ∧ x < (l.length : Int) ∧ c ∈ abv (sf l) l.length x)) := by
  have hb := bls_len l c l.length 0
  rw [in_val _ x k (by omega) (by omega)]
  refine some_dec ?_
  rw [bls_mem]; simp
theorem flds_prefix (l : List S50) (c i : Int) (h : i ∈ abv (sf l) l.length c) : ∃ s, flds l c = flds l i ++ s := by
  obtain ⟨p, hp⟩ := abv_suffix c i h
  refine ⟨p.reverse.flatMap (fl l), ?_⟩
  unfold flds
  rw [hp, List.reverse_append, List.flatMap_append]
theorem above_loop (l : List S50) (l1 : List S40) (l2 : List Int) (l3 : List S43) (l4 : List Int) (a5 a6 : Int) (ht : tot l < 200) (c : Int) (h0 : 0 ≤ c) (h1 : c < (l.length : Int)) : ∀ (d k i : Nat), d + 300000 ≤ k → i + d = l.length →
    plimsolllaw07_ClassAbove.l0 k c (flds l c) i l l1 l2 l3 l4 a5 a6 = some true := by
  have hl := tot_len l
  intro d
  induction d with
  | zero =>
    intro k i hk hi
    obtain ⟨k, rfl⟩ : ∃ m, k = m + 1 := ⟨k - 1, by omega⟩
    rw [plimsolllaw07_ClassAbove.l0]
    refine (if_neg (by omega)).trans ?_
    rw [awake_ok _ (by omega), cbelow_val l l1 l2 l3 l4 a5 a6 c (by omega) _ (by omega)]
    simp only [Option.bind_some]
    rw [in_below l c c (by omega) _ (by omega), decide_eq_true ⟨h0, h1, abv_self.2 ⟨h0, h1⟩⟩]
    rfl
  | succ d ih =>
    intro k i hk hi
    obtain ⟨k, rfl⟩ : ∃ m, k = m + 1 := ⟨k - 1, by omega⟩
    have hn := ih k (i + 1) (by omega) (by omega)
    rw [plimsolllaw07_ClassAbove.l0]
    refine (if_pos (by omega)).trans ?_
    rw [cbelow_val l l1 l2 l3 l4 a5 a6 (i : Int) (by omega) _ (by omega)]
    simp only [Option.bind_some]
    rw [in_below l (i : Int) c (by omega) _ (by omega), inc_nat (show i < l.length by omega) (by omega)]
    simp only [Option.bind_some]
    by_cases hm : 0 ≤ c ∧ c < (l.length : Int) ∧ (i : Int) ∈ abv (sf l) l.length c
    · refine (if_pos (decide_eq_true hm)).trans ?_
      obtain ⟨s, hs⟩ := flds_prefix l c i hm.2.2
      have hfl := flds_len' l ht (i : Int)
      have hcl := congrArg List.length hs
      rw [List.length_append] at hcl
      rw [fields_val l l1 l2 l3 l4 a5 a6 ht (i : Int) _ (by omega), size_val l l1 l2 l3 l4 a5 a6 ht (i : Int) _ (by omega), size_val l l1 l2 l3 l4 a5 a6 ht c _ (by omega)]
      simp only [Option.bind_some]
      refine (if_neg (by omega)).trans ((if_pos (by omega)).trans ((if_pos (by omega)).trans ?_))
      have e : (((flds l (i : Int)).length : Int)).toNat = (flds l (i : Int)).length := by omega
      have e2 : (flds l c).take (flds l (i : Int)).length = flds l (i : Int) := by rw [hs, List.take_left]
      rw [e, e2, types_same _ (by omega) _ (by omega)]
      simp only [Option.bind_some]
      refine (if_pos trivial).trans ((if_neg (by omega)).trans ?_)
      exact hn
    · refine (if_neg (by simpa using hm)).trans ?_
      exact hn
theorem ClassAbove : ClassAbove_Pure := by
  intro l l1 l2 l3 l4 a5 a6 x0 hg _ _ _ _ _ _ hx
  obtain ⟨b, hb, hb2⟩ := few_val l l1 l2 l3 l4 a5 a6 (by have := hg.1; omega) (fun x hx => by have := ((hg.2 x hx).2.1).1; omega)
  obtain ⟨K, hK⟩ : ∃ K : Nat, l.length + 700000 ≤ K := ⟨_, Nat.le_refl _⟩
  refine ⟨K + 2, ?_⟩
  unfold plimsolllaw07_ClassAbove.f
  have out : plimsolllaw07_ClassAbove.j0 (K + 2) x0 true l l1 l2 l3 l4 a5 a6 = some true := by
    rw [plimsolllaw07_ClassAbove.j0, awake_ok _ (by omega)]; rfl
  rw [hb _ (by omega)]
  simp only [Option.bind_some]
  cases b with
  | false => exact out
  | true =>
    have ht := hb2 rfl
    have hl := tot_len l
    refine (if_pos rfl).trans ?_
    by_cases h0 : (l.length : Int) = 0
    · rw [show ((l.length : Int) == 0) = true by simpa using h0]; exact out
    · rw [show ((l.length : Int) == 0) = false by simpa using h0]
      have cx := at_class hx (show 0 < (l.length : Int) by omega)
      rw [plimsolllaw07_ClassAbove.j0]
      refine (if_neg (by decide)).trans ((if_neg h0).trans ?_)
      generalize Int.tmod (wrap64 x0) (l.length : Int) = x at *
      rw [fields_val l l1 l2 l3 l4 a5 a6 ht x _ (by omega)]
      simp only [Option.bind_some]
      exact above_loop l l1 l2 l3 l4 a5 a6 ht x cx.1 cx.2 l.length (K + 1) 0 (by omega) (by omega)
end Go.Proofs.Ytbbpfeljcnkcdaa.Pure
