/- Joins of types and their heights. -/
import Derived.Test.YtcfbhobpfnlkpaaJudgeJH
namespace Go.Proofs.Ytcfbhobpfnlkpaa.Flow
open Go.RowKit Go.Proofs.Ytcfbhobpfnlkpaa.QJudgeFound Go.Proofs.YtcfbhobpfnlkpaaW.PrintWords Go.Proofs.YtcfbhobpfnlkpaaW.PrintLast Go.Proofs.Ytcfbhobpfnlkpaa.Chain
set_option linter.unusedVariables false
set_option linter.unusedSimpArgs false
abbrev Shp := Bool × List S39
def joinT (cs : List S80) (a b : S39) : S39 := ⟨(join (sf cs) cs.length a.f0 a.f1 b.f0 b.f1).1, (join (sf cs) cs.length a.f0 a.f1 b.f0 b.f1).2⟩
def joinAll (cs : List S80) : List S39 → List S39 → Option (List S39)
  | [], [] => some []
  | x :: a, y :: b => if (joinT cs x y).f0 = 0 then none else (joinAll cs a b).map (joinT cs x y :: ·)
  | _, _ => none
def sounds (m : Im) (l : List S39) : Prop := ∀ t ∈ l, sound m t
section
variable {m : Im}
theorem sounds_nil : sounds m [] := fun t h => by cases h
theorem sounds_cons {x : S39} {l : List S39} (h : sounds m (x :: l)) : sound m x ∧ sounds m l := ⟨h x List.mem_cons_self, fun t ht => h t (List.mem_cons_of_mem _ ht)⟩
theorem sound_there {t : S39} (h : sound m t) : there m.c.length t.f0 t.f1 := by
  unfold there
  rcases h with h | h
  · exact .inl (by omega)
  · have h := of_decide_eq_true h
    omega
theorem joinT_spec {a b : S39} (ha : sound m a) (hb : sound m b) :
    ((joinT m.c a b).f0 = 0 ∧ ∀ c, ¬ (subT m.c a c = true ∧ subT m.c b c = true)) ∨
    ((joinT m.c a b).f0 ≠ 0 ∧ subT m.c a (joinT m.c a b) = true ∧ subT m.c b (joinT m.c a b) = true ∧ ∀ c, subT m.c a c = true → subT m.c b c = true → subT m.c (joinT m.c a b) c = true) := by
  rcases join_spec (s := sf m.c) (n := m.c.length) (sound_there ha) (sound_there hb) with ⟨h0, h1⟩ | ⟨h0, h1, h2, h3⟩
  · exact .inl ⟨h0, fun c => h1 c.f0 c.f1⟩
  · exact .inr ⟨h0, h1, h2, fun c => h3 c.f0 c.f1⟩
theorem joinT_sound {a b : S39} (ha : sound m a) (hb : sound m b) (h : (joinT m.c a b).f0 ≠ 0) : sound m (joinT m.c a b) := by
  unfold joinT at h ⊢
  dsimp only at h ⊢
  unfold join at h ⊢
  by_cases h1 : sub (sf m.c) m.c.length a.f0 a.f1 b.f0 b.f1 = true
  · rw [if_pos h1]; exact hb
  rw [if_neg h1] at h ⊢
  by_cases h2 : sub (sf m.c) m.c.length b.f0 b.f1 a.f0 a.f1 = true
  · rw [if_pos h2]; exact ha
  rw [if_neg h2] at h ⊢
  by_cases h3 : a.f0 = 3 ∧ b.f0 = 3
  · rw [if_pos h3] at h ⊢
    cases hn : near (sf m.c) m.c.length a.f1 b.f1 with
    | none => rw [hn] at h; exact absurd rfl h
    | some c =>
      have := abv_mem _ _ (near_some hn).2.1
      exact .inr (decide_eq_true (.inr ⟨rfl, this.1, this.2.2.1⟩))
  · rw [if_neg h3] at h; exact absurd rfl h
theorem joinAll_len : ∀ {a b o : List S39}, joinAll m.c a b = some o → a.length = b.length ∧ o.length = b.length
  | [], [], o, h => by
    obtain rfl := Option.some.inj h
    exact ⟨rfl, rfl⟩
  | x :: a, y :: b, o, h => by
    unfold joinAll at h
    split at h
    · cases h
    · obtain ⟨o', h1, rfl⟩ := Option.map_eq_some_iff.1 h
      have := joinAll_len h1
      exact ⟨by simp [this.1], by simp [this.2]⟩
  | [], _ :: _, o, h => by cases h
  | _ :: _, [], o, h => by cases h
theorem joinAll_up : ∀ {a b o : List S39}, sounds m a → sounds m b → joinAll m.c a b = some o → underV m.c a o = true ∧ underV m.c b o = true ∧ sounds m o
  | [], [], o, _, _, h => by
    obtain rfl := Option.some.inj h
    exact ⟨rfl, rfl, sounds_nil⟩
  | x :: a, y :: b, o, ha, hb, h => by
    unfold joinAll at h
    split at h
    · cases h
    · rename_i h0
      obtain ⟨o', h1, rfl⟩ := Option.map_eq_some_iff.1 h
      have h2 := joinAll_up (sounds_cons ha).2 (sounds_cons hb).2 h1
      rcases joinT_spec (sounds_cons ha).1 (sounds_cons hb).1 with h3 | ⟨_, h4, h5, _⟩
      · exact absurd h3.1 h0
      · refine ⟨?_, ?_, fun t ht => ?_⟩
        · unfold underV; rw [h4, h2.1]; rfl
        · unfold underV; rw [h5, h2.2.1]; rfl
        · rcases List.mem_cons.1 ht with rfl | ht
          · exact joinT_sound (sounds_cons ha).1 (sounds_cons hb).1 h0
          · exact h2.2.2 t ht
  | [], _ :: _, o, _, _, h => by cases h
  | _ :: _, [], o, _, _, h => by cases h
theorem joinAll_least : ∀ {a b c : List S39}, sounds m a → sounds m b → underV m.c a c = true → underV m.c b c = true → ∃ o, joinAll m.c a b = some o ∧ underV m.c o c = true
  | [], [], c, _, _, h, _ => ⟨[], rfl, h⟩
  | x :: a, y :: b, z :: c, ha, hb, h, h' => by
    unfold underV at h h'
    rw [Bool.and_eq_true] at h h'
    obtain ⟨o, h1, h2⟩ := joinAll_least (sounds_cons ha).2 (sounds_cons hb).2 h.2 h'.2
    rcases joinT_spec (sounds_cons ha).1 (sounds_cons hb).1 with h3 | ⟨h3, _, _, h4⟩
    · exact absurd ⟨h.1, h'.1⟩ (h3.2 z)
    · refine ⟨joinT m.c x y :: o, ?_, ?_⟩
      · unfold joinAll; rw [if_neg h3, h1]; rfl
      · unfold underV; rw [h4 z h.1 h'.1, h2]; rfl
  | x :: a, y :: b, [], _, _, h, _ => by cases h
  | [], _ :: _, c, _, _, h, h' => by
    have := underV_len h
    have := underV_len h'
    exfalso; simp only [List.length_nil, List.length_cons] at *; omega
  | _ :: _, [], c, _, _, h, h' => by
    have := underV_len h
    have := underV_len h'
    exfalso; simp only [List.length_nil, List.length_cons] at *; omega
def ht (m : Im) (t : S39) : Nat := if t.f0 = 4 then m.c.length + 2 else if t.f0 = 3 then (abv (sf m.c) m.c.length t.f1).length else 0
theorem ht_max (t : S39) : ht m t ≤ m.c.length + 2 := by
  unfold ht
  split
  · exact Nat.le_refl _
  · split
    · have := (abv_len (s := sf m.c) (n := (m.c.length : Int)) t.f1 (by omega)).1
      omega
    · omega
theorem abv_shorter {a b : Int} (h : b ∈ abv (sf m.c) m.c.length a) : (abv (sf m.c) m.c.length b).length ≤ (abv (sf m.c) m.c.length a).length ∧ (b ≠ a → (abv (sf m.c) m.c.length b).length < (abv (sf m.c) m.c.length a).length) := by
  obtain ⟨p, hp⟩ := abv_suffix _ _ h
  refine ⟨by rw [hp, List.length_append]; omega, fun hne => ?_⟩
  cases p with
  | nil =>
    have hm := abv_mem _ _ h
    rw [abv_in (c := a) (by omega) hm.2.2.2, abv_in (c := b) hm.1 hm.2.2.1] at hp
    injection hp with h1 _
    exact absurd h1.symm hne
  | cons y p => rw [hp, List.length_append, List.length_cons]; omega
theorem ht_sub {a b : S39} (ha : sound m a) (hb : sound m b) (h : subT m.c a b = true) : ht m b ≤ ht m a ∧ (a ≠ b → ht m b < ht m a) := by
  unfold subT at h
  rw [sub_iff] at h
  obtain ⟨a0, a1⟩ := a
  obtain ⟨b0, b1⟩ := b
  dsimp only at h
  rcases h with ⟨h1, h2⟩ | ⟨h1, h2, h3⟩ | ⟨h1, h2, h3⟩
  · subst h1
    rcases h2 with h2 | h2 | h2
    · subst h2
      simp [ht]
    · subst h2
      have := (abv_len (s := sf m.c) (n := (m.c.length : Int)) b1 (by omega)).1
      simp [ht]
      omega
    · subst h2
      refine ⟨Nat.le_refl _, fun hne => absurd ?_ hne⟩
      have e1 : a1 = 0 := by
        rcases ha with h | h
        · exact h.2
        · have := of_decide_eq_true h; dsimp only at this; omega
      have e2 : b1 = 0 := by
        rcases hb with h | h
        · exact h.2
        · have := of_decide_eq_true h; dsimp only at this; omega
      rw [e1, e2]
  · subst h1 h2
    have := abv_shorter h3
    simp [ht]
    refine ⟨this.1, fun hne => this.2 (fun h => hne h.symm)⟩
  · subst h2 h3
    exact ⟨Nat.le_refl _, fun hne => absurd rfl hne⟩
def hts (m : Im) (l : List S39) : Nat := (l.map (ht m)).sum
theorem hts_max (l : List S39) : hts m l ≤ l.length * (m.c.length + 2) := by
  unfold hts
  induction l with
  | nil => simp
  | cons x l ih =>
    have := ht_max (m := m) x
    rw [List.map_cons, List.sum_cons, List.length_cons, Nat.succ_mul]
    omega
theorem hts_sub : ∀ {a b : List S39}, sounds m a → sounds m b → underV m.c a b = true → hts m b ≤ hts m a ∧ (a ≠ b → hts m b < hts m a)
  | [], [], _, _, _ => ⟨Nat.le_refl _, fun h => absurd rfl h⟩
  | x :: a, y :: b, ha, hb, h => by
    unfold underV at h
    rw [Bool.and_eq_true] at h
    have h1 := ht_sub (sounds_cons ha).1 (sounds_cons hb).1 h.1
    have h2 := hts_sub (sounds_cons ha).2 (sounds_cons hb).2 h.2
    have e1 : hts m (x :: a) = ht m x + hts m a := by unfold hts; rw [List.map_cons, List.sum_cons]
    have e2 : hts m (y :: b) = ht m y + hts m b := by unfold hts; rw [List.map_cons, List.sum_cons]
    refine ⟨by omega, fun hne => ?_⟩
    by_cases hx : x = y
    · have hab : a ≠ b := fun e => hne (by rw [hx, e])
      have := h2.2 hab
      omega
    · have := h1.2 hx
      omega
  | [], _ :: _, _, _, h => by cases h
  | _ :: _, [], _, _, h => by cases h
end
end Go.Proofs.Ytcfbhobpfnlkpaa.Flow
