/- What one round of the typer does, as plain values. -/
import Derived.Test.YtcfbhobpfnlkpaaJudgeJT
namespace Go.Proofs.Ytcfbhobpfnlkpaa.Flow
open Go.RowKit Go.Proofs.Ytcfbhobpfnlkpaa.QJudgeFound Go.Proofs.YtcfbhobpfnlkpaaW.PrintWords Go.Proofs.YtcfbhobpfnlkpaaW.PrintLast Go.Proofs.Ytcfbhobpfnlkpaa.Chain
set_option linter.unusedVariables false
set_option linter.unusedSimpArgs false
def shA (sh : List Shp) (i : Nat) : Shp := sh.getD i (false, [])
def tdA (td : List Bool) (i : Nat) : Bool := td.getD i false
def mergeV (cs : List S80) (old : Shp) (st : List S39) : Option (Shp × Bool) :=
  if old.1 = false then some ((true, st), true)
  else match joinAll cs old.2 st with
    | none => none
    | some o => some ((true, o), decide (o ≠ old.2))
def toV (cs : List S80) (after : List S39) : List Int → List Shp → List Bool → Option (List Shp × List Bool)
  | [], sh, td => some (sh, td)
  | tg :: nx, sh, td => match mergeV cs (shA sh tg.toNat) after with
    | none => none
    | some (s, tu) => if tu = true then toV cs after nx (sh.set tg.toNat s) (td.set tg.toNat true) else toV cs after nx sh td
def oneV (m : Im) (f : Int) (pc : Nat) (sh : List Shp) (td : List Bool) : Option (List Shp × List Bool) :=
  if (stepV m f (pc : Int) (shA sh pc).2).1 ≠ 0 then none else toV m.c (stepV m f (pc : Int) (shA sh pc).2).2.1 (stepV m f (pc : Int) (shA sh pc).2).2.2 sh td
def loopV (m : Im) (f : Int) : Nat → List Shp → List Bool → Option (Option (List Shp))
  | 0, _, _ => none
  | k + 1, sh, td => match td.findIdx? id with
    | none => some (some sh)
    | some pc => match oneV m f pc sh (td.set pc false) with
      | none => some none
      | some (sh', td') => loopV m f k sh' td'
theorem shA_set {sh : List Shp} {i j : Nat} {s : Shp} (h : j < sh.length) : shA (sh.set j s) i = if j = i then s else shA sh i := by
  unfold shA
  rw [List.getD_eq_getElem?_getD, List.getElem?_set, List.getD_eq_getElem?_getD]
  split
  · first | rfl | (rw [if_pos h]; rfl)
  · rfl
theorem tdA_set {td : List Bool} {i j : Nat} {b : Bool} (h : j < td.length) : tdA (td.set j b) i = if j = i then b else tdA td i := by
  unfold tdA
  rw [List.getD_eq_getElem?_getD, List.getElem?_set, List.getD_eq_getElem?_getD]
  split
  · first | rfl | (rw [if_pos h]; rfl)
  · rfl
def pot (m : Im) (s : Shp) : Nat := if s.1 = true then hts m s.2 else 8 * (m.c.length + 2) + 1
def mu (m : Im) (sh : List Shp) : Nat := (sh.map (pot m)).sum
theorem sum_set {α : Type} (g : α → Nat) : ∀ (l : List α) (i : Nat) (x : α) (h : i < l.length), ((l.set i x).map g).sum + g l[i] = (l.map g).sum + g x
  | y :: l, 0, x, _ => by simp; omega
  | y :: l, i + 1, x, h => by
    have := sum_set g l i x (by simpa using h)
    simp only [List.set_cons_succ, List.map_cons, List.sum_cons, List.getElem_cons_succ]
    omega
theorem mu_set {m : Im} {sh : List Shp} {i : Nat} {s : Shp} (h : i < sh.length) : mu m (sh.set i s) + pot m (shA sh i) = mu m sh + pot m s := by
  have e : shA sh i = sh[i] := by unfold shA; simp [List.getD_eq_getElem?_getD, List.getElem?_eq_getElem h]
  rw [e]
  exact sum_set (pot m) sh i s h
def GoodS (m : Im) (n : Nat) (sh : List Shp) : Prop := sh.length = n ∧ ∀ i, (shA sh i).1 = true → sounds m (shA sh i).2 ∧ (shA sh i).2.length ≤ 8
def LeS (m : Im) (a b : List Shp) : Prop := ∀ i, (shA a i).1 = true → (shA b i).1 = true ∧ underV m.c (shA a i).2 (shA b i).2 = true
theorem sounds_refl {m : Im} {l : List S39} (h : sounds m l) : underV m.c l l = true := underV_refl (fun t ht => sound_sub (h t ht))
theorem LeS.refl {m : Im} {n : Nat} {sh : List Shp} (h : GoodS m n sh) : LeS m sh sh := fun i hi => ⟨hi, sounds_refl (h.2 i hi).1⟩
theorem LeS.trans {m : Im} {a b c : List Shp} (h : LeS m a b) (h' : LeS m b c) : LeS m a c := fun i hi => ⟨(h' i (h i hi).1).1, underV_trans (h i hi).2 (h' i (h i hi).1).2⟩
theorem mergeV_spec {m : Im} {n : Nat} {sh : List Shp} (hg : GoodS m n sh) {i : Nat} (hi : i < n) {after : List S39} (ha : sounds m after) (h8 : after.length ≤ 8) {s : Shp} {tu : Bool} (h : mergeV m.c (shA sh i) after = some (s, tu)) :
    s.1 = true ∧ underV m.c after s.2 = true ∧ sounds m s.2 ∧ s.2.length ≤ 8 ∧ (tu = false → shA sh i = s) ∧ (tu = true → pot m s < pot m (shA sh i)) ∧ ((shA sh i).1 = true → underV m.c (shA sh i).2 s.2 = true) := by
  unfold mergeV at h
  by_cases h0 : (shA sh i).1 = false
  · rw [if_pos h0] at h
    injection h with h; injection h with h1 h2
    subst h1 h2
    refine ⟨rfl, sounds_refl ha, ha, h8, (fun e => by cases e), fun _ => ?_, (fun e => by rw [h0] at e; cases e)⟩
    unfold pot
    rw [h0]
    have := hts_max (m := m) after
    dsimp only
    have h9 := Nat.mul_le_mul_right (m.c.length + 2) h8
    rw [if_pos rfl, if_neg (by decide)]
    omega
  · rw [if_neg h0] at h
    have h1 : (shA sh i).1 = true := by simpa using h0
    have hs := hg.2 i h1
    cases hj : joinAll m.c (shA sh i).2 after with
    | none => rw [hj] at h; cases h
    | some o =>
      rw [hj] at h
      injection h with h; injection h with h3 h4
      have hu := joinAll_up hs.1 ha hj
      have hl := joinAll_len hj
      subst h3
      refine ⟨rfl, hu.2.1, hu.2.2, by dsimp only; omega, fun e => ?_, fun e => ?_, fun _ => hu.1⟩
      · rw [← h4] at e
        have e2 : o = (shA sh i).2 := Classical.not_not.1 (of_decide_eq_false e)
        rw [e2, ← h1]
      · rw [← h4] at e
        have e2 := of_decide_eq_true e
        unfold pot
        rw [h1, if_pos rfl, if_pos rfl]
        exact (hts_sub hs.1 hu.2.2 hu.1).2 (fun e3 => e2 e3.symm)
theorem toV_spec {m : Im} {n : Nat} {after : List S39} (ha : sounds m after) (h8 : after.length ≤ 8) : ∀ (nx : List Int) (sh : List Shp) (td : List Bool) (sh' : List Shp) (td' : List Bool), (∀ tg ∈ nx, 0 ≤ tg ∧ tg < (n : Int)) → GoodS m n sh → td.length = n → toV m.c after nx sh td = some (sh', td') →
    GoodS m n sh' ∧ td'.length = n ∧ LeS m sh sh' ∧ (∀ tg ∈ nx, (shA sh' tg.toNat).1 = true ∧ underV m.c after (shA sh' tg.toNat).2 = true) ∧ (∀ i, shA sh' i ≠ shA sh i → tdA td' i = true) ∧ (∀ i, tdA td i = true → tdA td' i = true) ∧ (∀ i, tdA td' i = true → tdA td i = true ∨ (shA sh' i).1 = true) ∧ ((sh' = sh ∧ td' = td) ∨ mu m sh' < mu m sh)
  | [], sh, td, sh', td', _, hg, ht, h => by
    injection h with h; injection h with h1 h2
    subst h1 h2
    exact ⟨hg, ht, LeS.refl hg, (fun tg h => by cases h), fun i h => absurd rfl h, fun i h => h, fun i h => .inl h, .inl ⟨rfl, rfl⟩⟩
  | tg :: nx, sh, td, sh', td', hn, hg, ht, h => by
    have hto := hn tg List.mem_cons_self
    have hn' : ∀ t ∈ nx, 0 ≤ t ∧ t < (n : Int) := fun t h => hn t (List.mem_cons_of_mem _ h)
    have hi : tg.toNat < n := by omega
    unfold toV at h
    cases hm : mergeV m.c (shA sh tg.toNat) after with
    | none => rw [hm] at h; cases h
    | some r =>
      obtain ⟨s, tu⟩ := r
      rw [hm] at h
      dsimp only at h
      obtain ⟨k1, k2, k3, k4, k5, k6, k7⟩ := mergeV_spec hg hi ha h8 hm
      cases tu with
      | false =>
        rw [if_neg (by decide)] at h
        obtain ⟨g1, g2, g3, g4, g5, g6, g7, g8⟩ := toV_spec ha h8 nx sh td sh' td' hn' hg ht h
        refine ⟨g1, g2, g3, fun t h => ?_, g5, g6, g7, g8⟩
        rcases List.mem_cons.1 h with rfl | h
        · have e := k5 rfl
          have := g3 t.toNat (by rw [e]; exact k1)
          exact ⟨this.1, underV_trans k2 (by rw [← e]; exact this.2)⟩
        · exact g4 t h
      | true =>
        rw [if_pos rfl] at h
        have hsl : tg.toNat < sh.length := by rw [hg.1]; exact hi
        have htl : tg.toNat < td.length := by rw [ht]; exact hi
        have hg' : GoodS m n (sh.set tg.toNat s) := by
          refine ⟨by rw [List.length_set]; exact hg.1, fun i => ?_⟩
          rw [shA_set hsl]
          split
          · intro _; exact ⟨k3, k4⟩
          · exact hg.2 i
        have hle : LeS m sh (sh.set tg.toNat s) := by
          intro i hi2
          rw [shA_set hsl]
          split
          · rename_i e; subst e; exact ⟨k1, k7 hi2⟩
          · exact LeS.refl hg i hi2
        obtain ⟨g1, g2, g3, g4, g5, g6, g7, g8⟩ := toV_spec ha h8 nx _ _ sh' td' hn' hg' (by rw [List.length_set]; exact ht) h
        have hset : tdA td' tg.toNat = true := g6 _ (by rw [tdA_set htl, if_pos rfl])
        refine ⟨g1, g2, hle.trans g3, fun t h => ?_, fun i h => ?_, fun i h => g6 i ?_, fun i h => ?_, ?_⟩
        · rcases List.mem_cons.1 h with rfl | h
          · have := g3 t.toNat (by rw [shA_set hsl, if_pos rfl]; exact k1)
            rw [shA_set hsl, if_pos rfl] at this
            exact ⟨this.1, underV_trans k2 this.2⟩
          · exact g4 t h
        · by_cases e : tg.toNat = i
          · rw [← e]; exact hset
          · exact g5 i (by rw [shA_set hsl, if_neg e]; exact h)
        · rw [tdA_set htl]; split
          · rfl
          · exact h
        · rcases g7 i h with h | h
          · rw [tdA_set htl] at h
            split at h
            · rename_i e
              refine .inr (g3 i ?_).1
              rw [shA_set hsl, if_pos e]; exact k1
            · exact .inl h
          · exact .inr h
        · have hmu := mu_set (m := m) (s := s) hsl
          have := k6 rfl
          right
          rcases g8 with ⟨e, _⟩ | h
          · rw [e]; omega
          · omega
theorem toV_least {m : Im} {n : Nat} {after : List S39} (ha : sounds m after) (h8 : after.length ≤ 8) {o : List Shp} : ∀ (nx : List Int) (sh : List Shp) (td : List Bool), (∀ tg ∈ nx, 0 ≤ tg ∧ tg < (n : Int)) → GoodS m n sh → td.length = n → LeS m sh o → (∀ tg ∈ nx, (shA o tg.toNat).1 = true ∧ underV m.c after (shA o tg.toNat).2 = true) →
    ∃ sh' td', toV m.c after nx sh td = some (sh', td') ∧ LeS m sh' o
  | [], sh, td, _, hg, _, hl, _ => ⟨sh, td, rfl, hl⟩
  | tg :: nx, sh, td, hn, hg, ht, hl, ho => by
    have hto := hn tg List.mem_cons_self
    have hn' : ∀ t ∈ nx, 0 ≤ t ∧ t < (n : Int) := fun t h => hn t (List.mem_cons_of_mem _ h)
    have ho' : ∀ t ∈ nx, (shA o t.toNat).1 = true ∧ underV m.c after (shA o t.toNat).2 = true := fun t h => ho t (List.mem_cons_of_mem _ h)
    have hi : tg.toNat < n := by omega
    have hoo := ho tg List.mem_cons_self
    have hsl : tg.toNat < sh.length := by rw [hg.1]; exact hi
    have hm : ∃ s tu, mergeV m.c (shA sh tg.toNat) after = some (s, tu) ∧ underV m.c s.2 (shA o tg.toNat).2 = true := by
      unfold mergeV
      by_cases h0 : (shA sh tg.toNat).1 = false
      · exact ⟨_, _, if_pos h0, hoo.2⟩
      · have h1 : (shA sh tg.toNat).1 = true := by simpa using h0
        obtain ⟨j, hj, hj2⟩ := joinAll_least (hg.2 _ h1).1 ha (hl _ h1).2 hoo.2
        refine ⟨(true, j), decide (j ≠ (shA sh tg.toNat).2), ?_, hj2⟩
        rw [if_neg h0, hj]
    obtain ⟨s, tu, hm, hs⟩ := hm
    obtain ⟨k1, k2, k3, k4, k5, k6, k7⟩ := mergeV_spec hg hi ha h8 hm
    unfold toV
    rw [hm]
    dsimp only
    cases tu with
    | false =>
      rw [if_neg (by decide)]
      exact toV_least ha h8 nx sh td hn' hg ht hl ho'
    | true =>
      rw [if_pos rfl]
      refine toV_least ha h8 nx _ _ hn' ?_ (by rw [List.length_set]; exact ht) ?_ ho'
      · refine ⟨by rw [List.length_set]; exact hg.1, fun i => ?_⟩
        rw [shA_set hsl]
        split
        · intro _; exact ⟨k3, k4⟩
        · exact hg.2 i
      · intro i
        rw [shA_set hsl]
        split
        · rename_i e
          intro _
          rw [← e]
          exact ⟨hoo.1, hs⟩
        · exact hl i
end Go.Proofs.Ytcfbhobpfnlkpaa.Flow
