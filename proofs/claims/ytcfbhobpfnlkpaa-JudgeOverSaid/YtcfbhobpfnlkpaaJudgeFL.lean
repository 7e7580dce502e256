/- The plain laws of a step. -/
import Derived.Test.YtcfbhobpfnlkpaaJudgeFS
namespace Go.Proofs.Ytcfbhobpfnlkpaa.Flow
open Go.RowKit Go.Proofs.Ytcfbhobpfnlkpaa.QJudgeFound Go.Proofs.YtcfbhobpfnlkpaaW.PrintWords Go.Proofs.YtcfbhobpfnlkpaaW.PrintLast Go.Proofs.Ytcfbhobpfnlkpaa.Chain
set_option linter.unusedVariables false
set_option linter.unusedSimpArgs false
def subT (cs : List S80) (a b : S39) : Bool := sub (sf cs) cs.length a.f0 a.f1 b.f0 b.f1
def underV (cs : List S80) : List S39 → List S39 → Bool
  | [], [] => true
  | x :: a, y :: b => subT cs x y && underV cs a b
  | _, _ => false
section
variable {cs : List S80}
theorem underV_len : ∀ {a b : List S39}, underV cs a b = true → a.length = b.length
  | [], [], _ => rfl
  | x :: a, y :: b, h => by
    unfold underV at h
    rw [Bool.and_eq_true] at h
    rw [List.length_cons, List.length_cons, underV_len h.2]
  | [], _ :: _, h => by cases h
  | _ :: _, [], h => by cases h
theorem underV_of : ∀ {a b : List S39}, a.length = b.length → (∀ i (h : i < a.length) (h' : i < b.length), subT cs a[i] b[i] = true) → underV cs a b = true
  | [], [], _, _ => rfl
  | x :: a, y :: b, hl, h => by
    unfold underV
    rw [Bool.and_eq_true]
    exact ⟨h 0 (by simp) (by simp), underV_of (by simpa using hl) (fun i h1 h2 => h (i + 1) (by simpa using h1) (by simpa using h2))⟩
  | [], _ :: _, hl, _ => by simp at hl
  | _ :: _, [], hl, _ => by simp at hl
theorem underV_at : ∀ {a b : List S39}, underV cs a b = true → ∀ i (h : i < a.length) (h' : i < b.length), subT cs a[i] b[i] = true
  | [], [], _, i, h, _ => by simp at h
  | x :: a, y :: b, hu, i, h, h' => by
    unfold underV at hu
    rw [Bool.and_eq_true] at hu
    cases i with
    | zero => exact hu.1
    | succ i => exact underV_at hu.2 i (by simpa using h) (by simpa using h')
  | [], _ :: _, hu, _, _, _ => by cases hu
  | _ :: _, [], hu, _, _, _ => by cases hu
theorem underV_take : ∀ {a b : List S39} (n : Nat), underV cs a b = true → underV cs (a.take n) (b.take n) = true
  | [], [], n, _ => by simp [underV]
  | x :: a, y :: b, 0, _ => rfl
  | x :: a, y :: b, n + 1, h => by
    unfold underV at h
    rw [Bool.and_eq_true] at h
    rw [List.take_succ_cons, List.take_succ_cons]
    unfold underV
    rw [Bool.and_eq_true]
    exact ⟨h.1, underV_take n h.2⟩
  | [], _ :: _, _, h => by cases h
  | _ :: _, [], _, h => by cases h
theorem underV_drop : ∀ {a b : List S39} (n : Nat), underV cs a b = true → underV cs (a.drop n) (b.drop n) = true
  | [], [], n, _ => by simp [underV]
  | x :: a, y :: b, 0, h => h
  | x :: a, y :: b, n + 1, h => by
    unfold underV at h
    rw [Bool.and_eq_true] at h
    rw [List.drop_succ_cons, List.drop_succ_cons]
    exact underV_drop n h.2
  | [], _ :: _, _, h => by cases h
  | _ :: _, [], _, h => by cases h
theorem underV_append : ∀ {a b c d : List S39}, underV cs a b = true → underV cs c d = true → underV cs (a ++ c) (b ++ d) = true
  | [], [], _, _, _, h => h
  | x :: a, y :: b, c, d, h, h' => by
    unfold underV at h
    rw [Bool.and_eq_true] at h
    rw [List.cons_append, List.cons_append]
    unfold underV
    rw [Bool.and_eq_true]
    exact ⟨h.1, underV_append h.2 h'⟩
  | [], _ :: _, _, _, h, _ => by cases h
  | _ :: _, [], _, _, h, _ => by cases h
theorem subT_trans {a b c : S39} (h : subT cs a b = true) (h' : subT cs b c = true) : subT cs a c = true := sub_trans h h'
theorem underV_trans : ∀ {a b c : List S39}, underV cs a b = true → underV cs b c = true → underV cs a c = true
  | [], [], [], _, _ => rfl
  | x :: a, y :: b, z :: c, h, h' => by
    unfold underV at h h' ⊢
    rw [Bool.and_eq_true] at h h' ⊢
    exact ⟨subT_trans h.1 h'.1, underV_trans h.2 h'.2⟩
  | [], [], _ :: _, _, h => by cases h
  | [], _ :: _, _, h, _ => by cases h
  | _ :: _, [], _, h, _ => by cases h
  | _ :: _, _ :: _, [], _, h => by cases h
theorem underV_refl : ∀ {a : List S39}, (∀ t ∈ a, subT cs t t = true) → underV cs a a = true
  | [], _ => rfl
  | x :: a, h => by
    unfold underV
    rw [Bool.and_eq_true]
    exact ⟨h x List.mem_cons_self, underV_refl (fun t ht => h t (List.mem_cons_of_mem _ ht))⟩
theorem goodT_sub {t : S39} (h : goodT cs.length t = true) : subT cs t t = true := by
  have h := of_decide_eq_true h
  unfold subT
  rw [sub_iff]
  rcases h with ⟨h, h1⟩ | ⟨h, h1, h2⟩
  · exact .inr (.inr ⟨h, rfl, rfl⟩)
  · exact .inr (.inl ⟨h, h, abv_self.2 ⟨h1, h2⟩⟩)
theorem fitsV_sub {op : Int} {a b t : S39} (h : subT cs a b = true) (hf : fitsV cs op b t = true) : fitsV cs op a t = true := by
  unfold fitsV at hf ⊢
  by_cases h0 : t.f0 = 0
  · rw [if_pos h0]
  · rw [if_neg h0] at hf ⊢
    by_cases h4 : t.f0 = 4
    · rw [if_pos h4] at hf ⊢
      rw [Bool.and_eq_true, Bool.or_eq_true] at hf ⊢
      unfold subT at h
      rw [sub_iff] at h
      unfold isref at hf ⊢
      simp only [decide_eq_true_eq] at hf ⊢
      omega
    · rw [if_neg h4] at hf ⊢
      exact sub_trans h hf
theorem fitAll_sub {op : Int} : ∀ {a b ts : List S39}, underV cs a b = true → fitAll cs op b ts = true → fitAll cs op a ts = true
  | [], _, _, _, _ => by unfold fitAll; rfl
  | x :: a, [], _, h, _ => by cases h
  | x :: a, y :: b, [], _, _ => rfl
  | x :: a, y :: b, t :: ts, h, h' => by
    unfold underV at h
    unfold fitAll at h' ⊢
    rw [Bool.and_eq_true] at h h' ⊢
    exact ⟨fitsV_sub h.1 h'.1, fitAll_sub h.2 h'.2⟩
end
theorem flds_mem {cs : List S80} {c : Int} {t : S39} (h : t ∈ flds cs c) : ∃ x ∈ cs, t ∈ x.f1 := by
  unfold flds at h
  rw [List.mem_flatMap] at h
  obtain ⟨d, hd, ht⟩ := h
  have hm := abv_mem _ _ (List.mem_reverse.1 hd)
  exact ⟨_, rdC_mem (l := cs) (i := d) (by omega) (by omega), ht⟩
theorem classB_f1 {m : Im} (h : ∀ j, j < m.c.length → classB m (j : Int) = true) : ∀ x ∈ m.c, ∀ t ∈ x.f1, goodT m.c.length t = true := by
  intro x hx t ht
  obtain ⟨j, hj, rfl⟩ := List.mem_iff_getElem.1 hx
  have g := h j hj
  unfold classB at g
  rw [tc hj] at g
  simp only [Bool.and_eq_true, List.all_eq_true] at g
  exact g.2.1 t ht
theorem saneB_st {m : Im} (h : saneB m = true) : ∀ t ∈ m.s, goodT m.c.length t = true := by
  have ho := saneE_ok (of_decide_eq_true h)
  unfold okB at ho
  simp only [Bool.and_eq_true, List.all_eq_true] at ho
  exact ho.1
theorem rdT_mem {l : List S39} {i : Int} (h0 : 0 ≤ i) (h1 : i < (l.length : Int)) : rd_T39 l i ∈ l := by
  obtain ⟨k, rfl⟩ := Int.eq_ofNat_of_zero_le h0
  rw [tt (by omega)]
  exact List.getElem_mem _
def sound (m : Im) (t : S39) : Prop := (t.f0 = 4 ∧ t.f1 = 0) ∨ goodT m.c.length t = true
theorem sound_sub {m : Im} {t : S39} (h : sound m t) : subT m.c t t = true := by
  rcases h with h | h
  · unfold subT
    rw [sub_iff]
    exact .inl ⟨h.1, .inr (.inr h.1)⟩
  · exact goodT_sub h
theorem gives_sound {m : Im} {x : S52} (h : (x.f2.f0 = 5 ∧ x.f2.f1 = 0) ∨ goodT m.c.length x.f2 = true) : ∀ t ∈ givesV x, sound m t := by
  intro t ht
  unfold givesV at ht
  by_cases h5 : x.f2.f0 = 5
  · rw [if_pos h5] at ht; cases ht
  · rw [if_neg h5, List.mem_singleton] at ht
    subst ht
    rcases h with h | h
    · exact absurd h.1 h5
    · exact .inr h
theorem tO_sound {m : Im} {A : Int} (h0 : 0 ≤ A) (h1 : A < (m.c.length : Int)) : sound m (tO A) := .inr (decide_eq_true (.inr ⟨rfl, h0, h1⟩))
theorem local_sound {m : Im} {x : S52} (hx : MetP m x) {A : Int} (h0 : 0 ≤ A) (h1 : A < ((x.f0.length + x.f1.length : Nat) : Int)) : sound m (localV x A) := by
  unfold localV
  rw [if_neg (by omega)]
  have hm := rdT_mem (l := x.f0 ++ x.f1) (i := A) h0 (by rw [List.length_append]; exact h1)
  rcases List.mem_append.1 hm with h | h
  · exact .inr (hx.ag _ h)
  · exact .inr (hx.lg _ h)
def outOk (m : Im) (io : List S39 × List S39) : Prop := io.2.length ≤ 1 ∧ ∀ t ∈ io.2, sound m t
theorem ite_ok {m : Im} {c : Prop} [Decidable c] {a b : List S39 × List S39} (ha : outOk m a) (hb : outOk m b) : outOk m (if c then a else b) := by
  by_cases h : c
  · rw [if_pos h]; exact ha
  · rw [if_neg h]; exact hb
theorem plain_out (m : Im) (op : Int) : outOk m (plainV op) := by
  have hN : sound m tN := .inr (decide_eq_true (.inl ⟨.inl rfl, rfl⟩))
  have hA : sound m tA := .inr (decide_eq_true (.inl ⟨.inr rfl, rfl⟩))
  have hR : sound m tR := .inl ⟨rfl, rfl⟩
  have one : ∀ t, sound m t → ([t] : List S39).length ≤ 1 ∧ ∀ u ∈ [t], sound m u := fun t h => ⟨Nat.le_refl _, fun u hu => by rw [List.mem_singleton] at hu; subst hu; exact h⟩
  have no : ([] : List S39).length ≤ 1 ∧ ∀ u ∈ ([] : List S39), sound m u := ⟨Nat.zero_le _, fun u hu => by cases hu⟩
  unfold plainV
  repeat' (first | exact one _ hR | exact one _ hN | exact one _ hA | exact no | refine ite_ok ?_ ?_)
theorem of_out (m : Im) (hs : SaneP m) (hst : ∀ t ∈ m.s, goodT m.c.length t = true) (x : S52) (hx : MetP m x) (op A B : Int) (hA : 0 ≤ A) (hB : 0 ≤ B) (hn : namedB m x op A B = true) : outOk m (ofV m x op A B) := by
  have one : ∀ t, sound m t → ([t] : List S39).length ≤ 1 ∧ ∀ u ∈ [t], sound m u := fun t h => ⟨Nat.le_refl _, fun u hu => by rw [List.mem_singleton] at hu; subst hu; exact h⟩
  have no : ([] : List S39).length ≤ 1 ∧ ∀ u ∈ ([] : List S39), sound m u := ⟨Nat.zero_le _, fun u hu => by cases hu⟩
  have giv : ∀ y : S52, ((y.f2.f0 = 5 ∧ y.f2.f1 = 0) ∨ goodT m.c.length y.f2 = true) → (givesV y).length ≤ 1 ∧ ∀ t ∈ givesV y, sound m t := fun y h => ⟨by unfold givesV; split <;> simp, gives_sound h⟩
  unfold ofV
  by_cases hp : plainB op = true
  · rw [if_pos hp]; exact plain_out m op
  rw [if_neg hp]
  by_cases h3 : op = 3
  · subst h3
    rw [if_pos rfl]
    simp [namedB] at hn
    exact one _ (local_sound hx hA (by omega))
  rw [if_neg h3]
  by_cases h4 : op = 4
  · rw [if_pos h4]; exact no
  rw [if_neg h4]
  by_cases h22 : op = 22
  · subst h22
    rw [if_pos rfl]
    simp [namedB] at hn
    exact one _ (tO_sound hA hn)
  rw [if_neg h22]
  by_cases h27 : op = 27
  · subst h27
    rw [if_pos rfl]
    simp [namedB] at hn
    refine one _ (.inr ?_)
    obtain ⟨y, hy, ht⟩ := flds_mem (rdT_mem (l := flds m.c A) (i := B) hB (by omega))
    exact classB_f1 hs.cls y hy _ ht
  rw [if_neg h27]
  by_cases h28 : op = 28
  · rw [if_pos h28]; exact no
  rw [if_neg h28]
  by_cases h29 : op = 29
  · subst h29
    rw [if_pos rfl]
    simp [namedB] at hn
    exact one _ (.inr (hst _ (rdT_mem hA hn)))
  rw [if_neg h29]
  by_cases h30 : op = 30
  · rw [if_pos h30]; exact no
  rw [if_neg h30]
  by_cases h31 : op = 31
  · subst h31
    rw [if_pos rfl]
    simp [namedB] at hn
    exact giv _ (hs.metP (rdM_mem hA hn)).rg
  rw [if_neg h31]
  by_cases h32 : op = 32
  · subst h32
    rw [if_pos rfl]
    simp [namedB] at hn
    have hsm := slot_mem m A B hB hn.2
    have hcb := hs.cls A.toNat (by omega)
    rw [Int.toNat_of_nonneg hA] at hcb
    have hsl := classB_slots hcb _ hsm
    have hs0 : 0 ≤ slotV m A B := ((hs.fits.cl _ (rdC_mem hA hn.1)).2.2.2.2 _ hsm).1
    exact giv _ (hs.metP (rdM_mem hs0 hsl.1)).rg
  rw [if_neg h32]
  by_cases h34 : op = 34
  · subst h34
    rw [if_pos rfl]
    simp [namedB] at hn
    exact one _ (tO_sound hA hn)
  rw [if_neg h34]
  split
  · exact no
  · exact no
theorem stepI_fits {m : Im} {x : S52} {i : S49} {pc : Int} (hout : ∀ t ∈ (ofV m x i.f0 i.f1 i.f2).2, sound m t) {a b : List S39} (hu : underV m.c a b = true) (he : (stepI m x i pc b).1 = 0) :
    (stepI m x i pc a).1 = 0 ∧ (stepI m x i pc a).2.2 = (stepI m x i pc b).2.2 ∧ underV m.c (stepI m x i pc a).2.1 (stepI m x i pc b).2.1 = true := by
  have hl := underV_len hu
  unfold stepI at he ⊢
  by_cases hc : (x.f3.length : Int) ∈ nextsV i pc
  · rw [if_pos hc] at he; cases he
  rw [if_neg hc] at he ⊢
  rw [if_neg hc]
  by_cases h6 : i.f0 = 6
  · rw [if_pos h6] at he ⊢
    rw [if_pos h6]
    unfold dupV at he ⊢
    rw [hl]
    by_cases hd : b.length = 0 ∨ 8 ≤ b.length
    · rw [if_pos hd] at he; cases he
    · rw [if_neg hd, if_neg hd]
      exact ⟨rfl, rfl, underV_append hu (underV_drop _ hu)⟩
  · rw [if_neg h6] at he ⊢
    rw [if_neg h6]
    unfold typesV at he ⊢
    rw [hl]
    generalize ofV m x i.f0 i.f1 i.f2 = io at he hout ⊢
    by_cases hd : b.length < io.1.length ∨ 8 < b.length - io.1.length + io.2.length
    · rw [if_pos hd] at he; cases he
    · rw [if_neg hd] at he ⊢
      rw [if_neg hd]
      by_cases hf : fitAll m.c i.f0 (b.drop (b.length - io.1.length)) io.1 = true
      · rw [if_pos hf, if_pos (fitAll_sub (underV_drop _ hu) hf)]
        exact ⟨rfl, rfl, underV_append (underV_take _ hu) (underV_refl fun t ht => sound_sub (hout t ht))⟩
      · rw [if_neg hf] at he; cases he
theorem stepI_below {m : Im} {x : S52} {i : S49} {pc : Int} (hout : (ofV m x i.f0 i.f1 i.f2).2.length ≤ 1) {l s : List S39} (hl : l.length + s.length ≤ 5) (he : (stepI m x i pc s).1 = 0) :
    stepI m x i pc (l ++ s) = (0, l ++ (stepI m x i pc s).2.1, (stepI m x i pc s).2.2) := by
  unfold stepI at he ⊢
  by_cases hc : (x.f3.length : Int) ∈ nextsV i pc
  · rw [if_pos hc] at he; cases he
  rw [if_neg hc] at he ⊢
  rw [if_neg hc]
  by_cases h6 : i.f0 = 6
  · rw [if_pos h6] at he ⊢
    rw [if_pos h6]
    unfold dupV at he ⊢
    by_cases hd : s.length = 0 ∨ 8 ≤ s.length
    · rw [if_pos hd] at he; cases he
    · rw [if_neg hd, if_neg (by rw [List.length_append]; omega)]
      have e : (l ++ s).drop ((l ++ s).length - 1) = s.drop (s.length - 1) := by
        rw [List.length_append, List.drop_append, List.drop_eq_nil_of_le (by omega), List.nil_append]
        congr 1
        omega
      rw [e, List.append_assoc]
  · rw [if_neg h6] at he ⊢
    rw [if_neg h6]
    unfold typesV at he ⊢
    generalize ofV m x i.f0 i.f1 i.f2 = io at he hout ⊢
    by_cases hd : s.length < io.1.length ∨ 8 < s.length - io.1.length + io.2.length
    · rw [if_pos hd] at he; cases he
    · rw [if_neg hd] at he ⊢
      rw [if_neg (by rw [List.length_append]; omega)]
      have e : (l ++ s).drop ((l ++ s).length - io.1.length) = s.drop (s.length - io.1.length) := by
        rw [List.length_append, List.drop_append, List.drop_eq_nil_of_le (by omega), List.nil_append]
        congr 1
        omega
      have e2 : (l ++ s).take ((l ++ s).length - io.1.length) = l ++ s.take (s.length - io.1.length) := by
        rw [List.length_append, List.take_append, List.take_of_length_le (by omega)]
        congr 2
        omega
      rw [e, e2]
      by_cases hf : fitAll m.c i.f0 (s.drop (s.length - io.1.length)) io.1 = true
      · rw [if_pos hf, if_pos hf, List.append_assoc]
      · rw [if_neg hf] at he; cases he
theorem stepI_few {m : Im} {x : S52} {i : S49} {pc : Int} {s : List S39} (h : (s.length : Int) < takesV m x i.f0 i.f1 i.f2) : (stepI m x i pc s).1 ≠ 0 := by
  unfold takesV at h
  unfold stepI
  by_cases hc : (x.f3.length : Int) ∈ nextsV i pc
  · rw [if_pos hc]; decide
  rw [if_neg hc]
  by_cases h6 : i.f0 = 6
  · rw [if_pos h6] at h ⊢
    unfold dupV
    rw [if_pos (.inl (by omega))]
    decide
  · rw [if_neg h6] at h ⊢
    unfold typesV
    rw [if_pos (.inl (by omega))]
    decide
end Go.Proofs.Ytcfbhobpfnlkpaa.Flow
