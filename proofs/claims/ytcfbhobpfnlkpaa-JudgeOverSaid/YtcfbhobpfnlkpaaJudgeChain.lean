/- Chains of classes: what stands above a class, and what two chains have in common; plain lists and numbers, no condition but those that each theorem names. -/
import Derived.Test.YtcfbhobpfnlkpaaV
namespace Go.Proofs.Ytcfbhobpfnlkpaa.Chain

def upc (s : Int → Int) (n a : Int) : Int := if a < 0 then -1 else if n ≤ a then -1 else if a ≤ s a then -1 else s a
theorem upc_lt {s : Int → Int} {n a : Int} (h : 0 ≤ a) : upc s n a < a := by unfold upc; split <;> (try split) <;> (try split) <;> omega
def ab (s : Int → Int) (n : Int) : Nat → Int → List Int
  | 0, _ => []
  | m + 1, c => if 0 ≤ c ∧ c < n then c :: ab s n m (upc s n c) else []
def abv (s : Int → Int) (n c : Int) : List Int := ab s n (c.toNat + 1) c
theorem ab_enough {s : Int → Int} {n : Int} : ∀ (m m' : Nat) (c : Int), c < m → c < m' → ab s n m c = ab s n m' c := by
  intro m
  induction m with
  | zero =>
    intro m' c h h'
    cases m' with
    | zero => rfl
    | succ m' => simp only [ab]; rw [if_neg (by omega)]
  | succ m ih =>
    intro m' c h h'
    cases m' with
    | zero => simp only [ab]; rw [if_neg (by omega)]
    | succ m' =>
      simp only [ab]
      by_cases hc : 0 ≤ c ∧ c < n
      · rw [if_pos hc, if_pos hc]
        have := upc_lt (s := s) (n := n) hc.1
        rw [ih m' (upc s n c) (by omega) (by omega)]
      · rw [if_neg hc, if_neg hc]
theorem abv_in {s : Int → Int} {n c : Int} (h0 : 0 ≤ c) (h1 : c < n) : abv s n c = c :: abv s n (upc s n c) := by
  have := upc_lt (s := s) (n := n) h0
  show (if 0 ≤ c ∧ c < n then c :: ab s n c.toNat (upc s n c) else []) = _
  rw [if_pos ⟨h0, h1⟩, ab_enough (s := s) (n := n) c.toNat ((upc s n c).toNat + 1) (upc s n c) (by omega) (by omega)]
  rfl
theorem abv_out {s : Int → Int} {n c : Int} (h : ¬ (0 ≤ c ∧ c < n)) : abv s n c = [] := by
  unfold abv; simp only [ab]; rw [if_neg h]
theorem chain_ind {s : Int → Int} {n : Int} {P : Int → Prop} (out : ∀ c, ¬ (0 ≤ c ∧ c < n) → P c) (inn : ∀ c, 0 ≤ c → c < n → P (upc s n c) → P c) : ∀ c, P c := by
  have h : ∀ (m : Nat) (c : Int), c < m → P c := by
    intro m
    induction m with
    | zero => intro c h; exact out c (by omega)
    | succ m ih =>
      intro c h
      by_cases hc : 0 ≤ c ∧ c < n
      · have := upc_lt (s := s) (n := n) hc.1
        exact inn c hc.1 hc.2 (ih _ (by omega))
      · exact out c hc
  intro c
  exact h (c.toNat + 1) c (by omega)
theorem abv_mem {s : Int → Int} {n : Int} : ∀ (c x : Int), x ∈ abv s n c → 0 ≤ x ∧ x ≤ c ∧ x < n ∧ c < n := by
  refine chain_ind (s := s) (n := n) (fun c hc x hx => ?_) (fun c h0 h1 ih x hx => ?_)
  · rw [abv_out hc] at hx; cases hx
  · rw [abv_in h0 h1] at hx
    rcases List.mem_cons.1 hx with rfl | hx
    · omega
    · have := ih x hx
      have := upc_lt (s := s) (n := n) h0
      omega
theorem abv_len {s : Int → Int} {n : Int} : ∀ (c : Int), 0 ≤ n → ((abv s n c).length : Int) ≤ n ∧ (0 ≤ c → ((abv s n c).length : Int) ≤ c + 1) := by
  refine chain_ind (s := s) (n := n) (fun c hc hn => ?_) (fun c h0 h1 ih hn => ?_)
  · rw [abv_out hc]; simp; omega
  · have h := ih hn
    have hu := upc_lt (s := s) (n := n) h0
    rw [abv_in h0 h1]
    simp only [List.length_cons]
    by_cases hp : 0 ≤ upc s n c
    · have := h.2 hp; omega
    · rw [abv_out (by omega)]; simp; omega
theorem abv_self {s : Int → Int} {n c : Int} : c ∈ abv s n c ↔ 0 ≤ c ∧ c < n := by
  constructor
  · intro h; have := abv_mem c c h; omega
  · intro h; rw [abv_in h.1 h.2]; exact List.mem_cons_self
theorem abv_up {s : Int → Int} {n c x : Int} (h : x ∈ abv s n (upc s n c)) (h0 : 0 ≤ c) : x < c := by
  have := (abv_mem _ x h).2.1
  have := upc_lt (s := s) (n := n) h0
  omega
theorem abv_trans {s : Int → Int} {n : Int} : ∀ (a b c : Int), b ∈ abv s n a → c ∈ abv s n b → c ∈ abv s n a := by
  refine chain_ind (s := s) (n := n) (fun a ha b c h1 h2 => ?_) (fun a h0 h1 ih b c hb hc => ?_)
  · rw [abv_out ha] at h1; cases h1
  · rw [abv_in h0 h1] at hb
    rcases List.mem_cons.1 hb with rfl | hb
    · exact hc
    · rw [abv_in h0 h1]; exact List.mem_cons_of_mem _ (ih b c hb hc)
theorem abv_total {s : Int → Int} {n : Int} : ∀ (a x y : Int), x ∈ abv s n a → y ∈ abv s n a → y ≤ x → y ∈ abv s n x := by
  refine chain_ind (s := s) (n := n) (fun a ha x y h1 h2 => ?_) (fun a h0 h1 ih x y hx hy hle => ?_)
  · rw [abv_out ha] at h1; cases h1
  · have hy' := hy
    rw [abv_in h0 h1] at hx hy
    rcases List.mem_cons.1 hx with rfl | hx
    · exact hy'
    · rcases List.mem_cons.1 hy with rfl | hy
      · have := abv_up hx h0; omega
      · exact ih x y hx hy hle
theorem abv_suffix {s : Int → Int} {n : Int} : ∀ (k i : Int), i ∈ abv s n k → ∃ p, abv s n k = p ++ abv s n i := by
  refine chain_ind (s := s) (n := n) (fun k hk i h => ?_) (fun k h0 h1 ih i hi => ?_)
  · rw [abv_out hk] at h; cases h
  · have hi' := hi
    rw [abv_in h0 h1] at hi
    rcases List.mem_cons.1 hi with rfl | hi
    · exact ⟨[], rfl⟩
    · obtain ⟨p, hp⟩ := ih i hi
      exact ⟨k :: p, by rw [abv_in h0 h1, hp]; rfl⟩
def near (s : Int → Int) (n a b : Int) : Option Int := (abv s n (upc s n a)).find? (fun c => decide (c ∈ abv s n b))
theorem find_first {s : Int → Int} {n : Int} {p : Int → Bool} : ∀ (a c : Int), (abv s n a).find? p = some c → c ∈ abv s n a ∧ p c = true ∧ ∀ d, d ∈ abv s n a → p d = true → d ≤ c := by
  refine chain_ind (s := s) (n := n) (fun a ha c h => ?_) (fun a h0 h1 ih c h => ?_)
  · rw [abv_out ha] at h; cases h
  · rw [abv_in h0 h1] at h ⊢
    by_cases hp : p a = true
    · rw [List.find?_cons_of_pos hp] at h
      injection h with h
      subst h
      refine ⟨List.mem_cons_self, hp, fun d hd _ => ?_⟩
      rcases List.mem_cons.1 hd with rfl | hd
      · omega
      · have := abv_up hd h0; omega
    · rw [List.find?_cons_of_neg hp] at h
      obtain ⟨h2, h3, h4⟩ := ih c h
      refine ⟨List.mem_cons_of_mem _ h2, h3, fun d hd hpd => ?_⟩
      rcases List.mem_cons.1 hd with rfl | hd
      · exact absurd hpd hp
      · exact h4 d hd hpd
theorem near_some {s : Int → Int} {n a b c : Int} (h : near s n a b = some c) : c ∈ abv s n (upc s n a) ∧ c ∈ abv s n b ∧ ∀ d, d ∈ abv s n (upc s n a) → d ∈ abv s n b → d ≤ c := by
  obtain ⟨h1, h2, h3⟩ := find_first _ _ h
  exact ⟨h1, of_decide_eq_true h2, fun d hd hb => h3 d hd (decide_eq_true hb)⟩
theorem near_none {s : Int → Int} {n a b : Int} (h : near s n a b = none) : ∀ d, d ∈ abv s n (upc s n a) → d ∉ abv s n b := by
  intro d hd hb
  have := List.find?_eq_none.1 h d hd
  exact this (decide_eq_true hb)
theorem near_turn {s : Int → Int} {n a b : Int} (h1 : b ∉ abv s n a) (h2 : a ∉ abv s n b) : near s n a b = near s n b a := by
  have cut : ∀ {x y d : Int}, d ∈ abv s n x → x ∉ abv s n y → d ∈ abv s n y → d ∈ abv s n (upc s n x) := by
    intro x y d hd hx hy
    have hb := abv_mem x d hd
    rw [abv_in (by omega) (by omega)] at hd
    rcases List.mem_cons.1 hd with rfl | hd
    · exact absurd hy hx
    · exact hd
  have wide : ∀ {x d : Int}, d ∈ abv s n (upc s n x) → d ∈ abv s n x := by
    intro x d hd
    by_cases hx : 0 ≤ x ∧ x < n
    · rw [abv_in hx.1 hx.2]; exact List.mem_cons_of_mem _ hd
    · have : upc s n x = -1 := by unfold upc; split <;> (try split) <;> (try split) <;> omega
      rw [this, abv_out (by omega)] at hd; cases hd
  cases ha : near s n a b with
  | none =>
    cases hb : near s n b a with
    | none => rfl
    | some c =>
      obtain ⟨h3, h4, _⟩ := near_some hb
      exact absurd (wide h3) (near_none ha c (cut h4 h2 (wide h3)))
  | some c =>
    obtain ⟨h3, h4, h5⟩ := near_some ha
    cases hb : near s n b a with
    | none => exact absurd (wide h3) (near_none hb c (cut h4 h1 (wide h3)))
    | some d =>
      obtain ⟨h6, h7, h8⟩ := near_some hb
      have e1 := h8 c (cut h4 h1 (wide h3)) (wide h3)
      have e2 := h5 d (cut h7 h2 (wide h6)) (wide h6)
      congr 1; omega

def isref (k : Int) : Bool := decide (k = 2 ∨ k = 3 ∨ k = 4)
def sub (s : Int → Int) (n a0 a1 b0 b1 : Int) : Bool := if a0 = 4 then isref b0 else if a0 = 3 then decide (b0 = 3 ∧ b1 ∈ abv s n a1) else decide ((a0 = 1 ∨ a0 = 2) ∧ a0 = b0 ∧ a1 = b1)
def join (s : Int → Int) (n a0 a1 b0 b1 : Int) : Int × Int := if sub s n a0 a1 b0 b1 = true then (b0, b1) else if sub s n b0 b1 a0 a1 = true then (a0, a1) else if a0 = 3 ∧ b0 = 3 then (match near s n a1 b1 with | some c => (3, c) | none => (0, 0)) else (0, 0)
theorem sub_iff {s : Int → Int} {n a0 a1 b0 b1 : Int} : sub s n a0 a1 b0 b1 = true ↔ (a0 = 4 ∧ (b0 = 2 ∨ b0 = 3 ∨ b0 = 4)) ∨ (a0 = 3 ∧ b0 = 3 ∧ b1 ∈ abv s n a1) ∨ ((a0 = 1 ∨ a0 = 2) ∧ a0 = b0 ∧ a1 = b1) := by
  unfold sub isref
  by_cases h4 : a0 = 4
  · subst h4; simp
  · by_cases h3 : a0 = 3
    · subst h3; simp
    · simp [h4, h3]
theorem sub_trans {s : Int → Int} {n a0 a1 b0 b1 c0 c1 : Int} (h1 : sub s n a0 a1 b0 b1 = true) (h2 : sub s n b0 b1 c0 c1 = true) : sub s n a0 a1 c0 c1 = true := by
  rw [sub_iff] at *
  rcases h1 with ⟨rfl, h⟩ | ⟨rfl, rfl, h⟩ | ⟨h, rfl, rfl⟩
  · left; refine ⟨rfl, ?_⟩; omega
  · right; left
    rcases h2 with ⟨h', _⟩ | ⟨_, rfl, h'⟩ | ⟨h', _⟩
    · omega
    · exact ⟨rfl, rfl, abv_trans _ _ _ h h'⟩
    · omega
  · rcases h2 with ⟨h', _⟩ | ⟨h', _⟩ | ⟨_, rfl, rfl⟩
    · omega
    · omega
    · right; right; exact ⟨h, rfl, rfl⟩
def there (n k c : Int) : Prop := k ≠ 3 ∨ (0 ≤ c ∧ c < n)
instance (n k c : Int) : Decidable (there n k c) := inferInstanceAs (Decidable (k ≠ 3 ∨ (0 ≤ c ∧ c < n)))
theorem sub_refl {s : Int → Int} {n a0 a1 b0 b1 : Int} (h : sub s n a0 a1 b0 b1 = true) (hb : there n b0 b1) : sub s n b0 b1 b0 b1 = true := by
  rw [sub_iff] at *
  unfold there at hb
  by_cases h3 : b0 = 3
  · subst h3; right; left; exact ⟨rfl, rfl, abv_self.2 (by omega)⟩
  · omega
theorem sub_anti {s : Int → Int} {n a0 a1 b0 b1 : Int} (h1 : sub s n a0 a1 b0 b1 = true) (h2 : sub s n b0 b1 a0 a1 = true) (hn : ¬ (a0 = 4 ∧ b0 = 4)) : a0 = b0 ∧ a1 = b1 := by
  rw [sub_iff] at *
  rcases h1 with ⟨rfl, h⟩ | ⟨rfl, rfl, h⟩ | ⟨h, rfl, rfl⟩
  · omega
  · rcases h2 with ⟨h', _⟩ | ⟨_, _, h'⟩ | ⟨h', _⟩
    · omega
    · have := abv_mem _ _ h; have := abv_mem _ _ h'; omega
    · omega
  · exact ⟨rfl, rfl⟩
theorem join_turn {s : Int → Int} {n a0 a1 b0 b1 : Int} (hn : ¬ (a0 = 4 ∧ b0 = 4)) : join s n a0 a1 b0 b1 = join s n b0 b1 a0 a1 := by
  unfold join
  by_cases h1 : sub s n a0 a1 b0 b1 = true
  · by_cases h2 : sub s n b0 b1 a0 a1 = true
    · obtain ⟨rfl, rfl⟩ := sub_anti h1 h2 hn; rfl
    · rw [if_pos h1, if_neg h2, if_pos h1]
  · by_cases h2 : sub s n b0 b1 a0 a1 = true
    · rw [if_neg h1, if_pos h2, if_pos h2]
    · rw [if_neg h1, if_neg h2, if_neg h2, if_neg h1]
      by_cases h3 : a0 = 3 ∧ b0 = 3
      · rw [if_pos h3, if_pos ⟨h3.2, h3.1⟩]
        obtain ⟨rfl, rfl⟩ := h3
        have e1 : b1 ∉ abv s n a1 := fun h => h1 (sub_iff.2 (.inr (.inl ⟨rfl, rfl, h⟩)))
        have e2 : a1 ∉ abv s n b1 := fun h => h2 (sub_iff.2 (.inr (.inl ⟨rfl, rfl, h⟩)))
        rw [near_turn e1 e2]
      · rw [if_neg h3, if_neg (fun h => h3 ⟨h.2, h.1⟩)]
theorem join_both_null {s : Int → Int} {n a1 b1 : Int} : join s n 4 a1 4 b1 = (4, b1) := by
  unfold join; rw [if_pos (sub_iff.2 (.inl ⟨rfl, by omega⟩))]
theorem join_spec {s : Int → Int} {n a0 a1 b0 b1 : Int} (ha : there n a0 a1) (hb : there n b0 b1) :
    ((join s n a0 a1 b0 b1).1 = 0 ∧ ∀ c0 c1, ¬ (sub s n a0 a1 c0 c1 = true ∧ sub s n b0 b1 c0 c1 = true)) ∨
    ((join s n a0 a1 b0 b1).1 ≠ 0 ∧ sub s n a0 a1 (join s n a0 a1 b0 b1).1 (join s n a0 a1 b0 b1).2 = true ∧ sub s n b0 b1 (join s n a0 a1 b0 b1).1 (join s n a0 a1 b0 b1).2 = true ∧
      ∀ c0 c1, sub s n a0 a1 c0 c1 = true → sub s n b0 b1 c0 c1 = true → sub s n (join s n a0 a1 b0 b1).1 (join s n a0 a1 b0 b1).2 c0 c1 = true) := by
  unfold join
  by_cases h1 : sub s n a0 a1 b0 b1 = true
  · rw [if_pos h1]
    right
    refine ⟨?_, h1, sub_refl h1 hb, fun c0 c1 _ h => h⟩
    rw [sub_iff] at h1
    simp only
    omega
  · rw [if_neg h1]
    by_cases h2 : sub s n b0 b1 a0 a1 = true
    · rw [if_pos h2]
      right
      refine ⟨?_, sub_refl h2 ha, h2, fun c0 c1 h _ => h⟩
      rw [sub_iff] at h2
      simp only
      omega
    · rw [if_neg h2]
      by_cases h3 : a0 = 3 ∧ b0 = 3
      · rw [if_pos h3]
        obtain ⟨rfl, rfl⟩ := h3
        have e1 : b1 ∉ abv s n a1 := fun h => h1 (sub_iff.2 (.inr (.inl ⟨rfl, rfl, h⟩)))
        have e2 : a1 ∉ abv s n b1 := fun h => h2 (sub_iff.2 (.inr (.inl ⟨rfl, rfl, h⟩)))
        have ha' : 0 ≤ a1 ∧ a1 < n := by unfold there at ha; omega
        have both : ∀ c0 c1, sub s n 3 a1 c0 c1 = true → sub s n 3 b1 c0 c1 = true → c0 = 3 ∧ c1 ∈ abv s n (upc s n a1) ∧ c1 ∈ abv s n b1 := by
          intro c0 c1 g1 g2
          rw [sub_iff] at g1 g2
          rcases g1 with ⟨h, _⟩ | ⟨_, rfl, h⟩ | ⟨h, _⟩
          · omega
          · rcases g2 with ⟨h', _⟩ | ⟨_, _, h'⟩ | ⟨h', _⟩
            · omega
            · rw [abv_in ha'.1 ha'.2] at h
              rcases List.mem_cons.1 h with rfl | h
              · exact absurd h' e2
              · exact ⟨rfl, h, h'⟩
            · omega
          · omega
        cases hn : near s n a1 b1 with
        | none =>
          left
          refine ⟨rfl, fun c0 c1 h => ?_⟩
          obtain ⟨_, g1, g2⟩ := both c0 c1 h.1 h.2
          exact near_none hn c1 g1 g2
        | some c =>
          right
          obtain ⟨g1, g2, g3⟩ := near_some hn
          refine ⟨by simp, ?_, ?_, fun c0 c1 h h' => ?_⟩
          · exact sub_iff.2 (.inr (.inl ⟨rfl, rfl, by rw [abv_in ha'.1 ha'.2]; exact List.mem_cons_of_mem _ g1⟩))
          · exact sub_iff.2 (.inr (.inl ⟨rfl, rfl, g2⟩))
          · obtain ⟨rfl, k1, k2⟩ := both c0 c1 h h'
            exact sub_iff.2 (.inr (.inl ⟨rfl, rfl, abv_total _ _ _ g1 k1 (g3 _ k1 k2)⟩))
      · rw [if_neg h3]
        left
        refine ⟨rfl, fun c0 c1 h => ?_⟩
        obtain ⟨g1, g2⟩ := h
        rw [sub_iff] at g1 g2 h1 h2
        omega

end Go.Proofs.Ytcfbhobpfnlkpaa.Chain
