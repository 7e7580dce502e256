/- Types of all methods, as plain values. -/
import Derived.Test.YtcfbhobpfnlkpaaJudgeJV
namespace Go.Proofs.Ytcfbhobpfnlkpaa.Flow
open Go.RowKit Go.Proofs.Ytcfbhobpfnlkpaa.QJudgeFound Go.Proofs.YtcfbhobpfnlkpaaW.PrintWords Go.Proofs.YtcfbhobpfnlkpaaW.PrintLast Go.Proofs.Ytcfbhobpfnlkpaa.Chain
set_option linter.unusedVariables false
set_option linter.unusedSimpArgs false
def mpA (mp : List (List Shp)) (f : Nat) : List Shp := mp.getD f []
def RightV (m : Im) (mp : List (List Shp)) : Prop := mp.length = m.m.length ∧ ∀ f, f < m.m.length → RightM m (f : Int) (mpA mp f)
def OverV (m : Im) (a b : List (List Shp)) : Prop := a.length = b.length ∧ ∀ f, f < a.length → (mpA a f).length = (mpA b f).length ∧ LeS m (mpA a f) (mpA b f)
def checkV (m : Im) : Nat → Nat → Option (List (List Shp))
  | 0, _ => some []
  | k + 1, f => match tyV m (f : Int) with
    | none => none
    | some s => (checkV m k (f + 1)).map (s :: ·)
theorem mpA_at {mp : List (List Shp)} {f : Nat} (h : f < mp.length) : mpA mp f = mp[f] := by unfold mpA; simp [List.getD_eq_getElem?_getD, List.getElem?_eq_getElem h]
theorem OverV.trans {m : Im} {a b c : List (List Shp)} (h : OverV m a b) (h' : OverV m b c) : OverV m a c :=
  ⟨h.1.trans h'.1, fun f hf => ⟨(h.2 f hf).1.trans (h'.2 f (by rw [← h.1]; exact hf)).1, (h.2 f hf).2.trans (h'.2 f (by rw [← h.1]; exact hf)).2⟩⟩
section
variable {m : Im} (hq : saneB m = true)
include hq
theorem checkV_spec : ∀ (k f : Nat), f + k = m.m.length → ∀ l, checkV m k f = some l → l.length = k ∧ ∀ i, i < k → RightM m ((f + i : Nat) : Int) (mpA l i) ∧ GoodS m (codeN m ((f + i : Nat) : Int)) (mpA l i)
  | 0, f, _, l, h => by
    injection h with h
    subst h
    exact ⟨rfl, fun i hi => absurd hi (Nat.not_lt_zero _)⟩
  | k + 1, f, hf, l, h => by
    have ht := tyV_spec hq (f := (f : Int)) (by omega) (by omega)
    unfold checkV at h
    cases hs : tyV m (f : Int) with
    | none => rw [hs] at h; cases h
    | some s =>
      rw [hs] at h
      obtain ⟨l', h1, rfl⟩ := Option.map_eq_some_iff.1 h
      obtain ⟨h2, h3⟩ := checkV_spec k (f + 1) (by omega) l' h1
      refine ⟨by rw [List.length_cons, h2], fun i hi => ?_⟩
      cases i with
      | zero => exact ht.2.1 s hs
      | succ i =>
        have := h3 i (by omega)
        rw [show f + 1 + i = f + (i + 1) by omega] at this
        exact this
theorem checkV_least {o : List (List Shp)} (ho : RightV m o) : ∀ (k f : Nat), f + k = m.m.length → ∃ l, checkV m k f = some l ∧ l.length = k ∧ ∀ i, i < k → LeS m (mpA l i) (mpA o (f + i))
  | 0, f, _ => ⟨[], rfl, rfl, fun i hi => absurd hi (Nat.not_lt_zero _)⟩
  | k + 1, f, hf => by
    obtain ⟨s, h1, h2⟩ := (tyV_spec hq (f := (f : Int)) (by omega) (by omega)).2.2 _ (ho.2 f (by omega))
    obtain ⟨l, h3, h4, h5⟩ := checkV_least ho k (f + 1) (by omega)
    refine ⟨s :: l, ?_, by rw [List.length_cons, h4], fun i hi => ?_⟩
    · unfold checkV
      rw [h1, h3]
      rfl
    · cases i with
      | zero => exact h2
      | succ i =>
        have := h5 i (by omega)
        rw [show f + 1 + i = f + (i + 1) by omega] at this
        exact this
theorem check_right {l : List (List Shp)} (h : checkV m m.m.length 0 = some l) : RightV m l ∧ OverV m l l := by
  obtain ⟨h1, h2⟩ := checkV_spec hq _ _ (by omega) l h
  refine ⟨⟨h1, fun f hf => ?_⟩, rfl, fun f hf => ⟨rfl, ?_⟩⟩
  · have := (h2 f hf).1
    rw [Nat.zero_add] at this
    exact this
  · have := (h2 f (by omega)).2
    exact LeS.refl this
theorem check_least {o : List (List Shp)} (ho : RightV m o) : ∃ l, checkV m m.m.length 0 = some l ∧ OverV m l o := by
  obtain ⟨l, h1, h2, h3⟩ := checkV_least hq ho m.m.length 0 (by omega)
  refine ⟨l, h1, by rw [h2, ho.1], fun f hf => ⟨?_, ?_⟩⟩
  · have h4 := (checkV_spec hq _ _ (by omega) l h1).2 f (by omega)
    rw [Nat.zero_add] at h4
    rw [h4.1.1, (ho.2 f (by omega)).1]
  · have := h3 f (by omega)
    rw [Nat.zero_add] at this
    exact this
end
def stepB (m : Im) (f : Int) (sh : List Shp) (i : Nat) : Bool :=
  decide ((stepV m f (i : Int) (shA sh i).2).1 = 0) && (stepV m f (i : Int) (shA sh i).2).2.2.all (fun tg => (shA sh tg.toNat).1 && underV m.c (stepV m f (i : Int) (shA sh i).2).2.1 (shA sh tg.toNat).2)
def rightMB (m : Im) (f : Int) (s : List Shp) : Bool :=
  decide (s.length = codeN m f) && (decide (s.length ≠ 0) && ((shA s 0).1 && (decide ((shA s 0).2.length = 0) && (List.range s.length).all (fun i => !(shA s i).1 || stepB m f s i))))
def rightB (m : Im) (mp : List (List Shp)) : Bool := decide (mp.length = m.m.length) && (List.range mp.length).all (fun f => rightMB m (f : Int) (mpA mp f))
def leB (m : Im) (a b : List Shp) : Bool := decide (a.length = b.length) && (List.range a.length).all (fun i => !(shA a i).1 || ((shA b i).1 && underV m.c (shA a i).2 (shA b i).2))
def overB (m : Im) (a b : List (List Shp)) : Bool := decide (a.length = b.length) && (List.range a.length).all (fun f => leB m (mpA a f) (mpA b f))
theorem stepB_iff {m : Im} {f : Int} {sh : List Shp} {i : Nat} : stepB m f sh i = true ↔ StepOK m f sh i := by
  unfold stepB StepOK
  simp only [Bool.and_eq_true, decide_eq_true_eq, List.all_eq_true]
theorem rightMB_iff {m : Im} {f : Int} {s : List Shp} : rightMB m f s = true ↔ RightM m f s := by
  unfold rightMB RightM
  simp only [Bool.and_eq_true, decide_eq_true_eq, List.all_eq_true, List.mem_range, Bool.or_eq_true, Bool.not_eq_true', List.length_eq_zero_iff]
  constructor
  · rintro ⟨h1, h2, h3, h4, h5⟩
    refine ⟨h1, fun h => h2 (by omega), h3, h4, fun i hi => ?_⟩
    rcases h5 i (shA_lt hi) with h | h
    · rw [h] at hi; cases hi
    · exact stepB_iff.1 h
  · rintro ⟨h1, h2, h3, h4, h5⟩
    refine ⟨h1, fun h => h2 (by omega), h3, h4, fun i hi => ?_⟩
    cases hb : (shA s i).1 with
    | false => exact .inl rfl
    | true => exact .inr (stepB_iff.2 (h5 i hb))
theorem rightB_iff {m : Im} {mp : List (List Shp)} : rightB m mp = true ↔ RightV m mp := by
  unfold rightB RightV
  simp only [Bool.and_eq_true, decide_eq_true_eq, List.all_eq_true, List.mem_range]
  constructor
  · rintro ⟨h1, h2⟩
    exact ⟨h1, fun f hf => rightMB_iff.1 (h2 f (by omega))⟩
  · rintro ⟨h1, h2⟩
    exact ⟨h1, fun f hf => rightMB_iff.2 (h2 f (by omega))⟩
theorem leB_iff {m : Im} {a b : List Shp} : leB m a b = true ↔ (a.length = b.length ∧ LeS m a b) := by
  unfold leB LeS
  simp only [Bool.and_eq_true, decide_eq_true_eq, List.all_eq_true, List.mem_range, Bool.or_eq_true, Bool.not_eq_true']
  constructor
  · rintro ⟨h1, h2⟩
    refine ⟨h1, fun i hi => ?_⟩
    rcases h2 i (shA_lt hi) with h | h
    · rw [h] at hi; cases hi
    · exact h
  · rintro ⟨h1, h2⟩
    refine ⟨h1, fun i hi => ?_⟩
    cases hb : (shA a i).1 with
    | false => exact .inl rfl
    | true => exact .inr (h2 i hb)
theorem overB_iff {m : Im} {a b : List (List Shp)} : overB m a b = true ↔ OverV m a b := by
  unfold overB OverV
  simp only [Bool.and_eq_true, decide_eq_true_eq, List.all_eq_true, List.mem_range]
  constructor
  · rintro ⟨h1, h2⟩
    exact ⟨h1, fun f hf => leB_iff.1 (h2 f hf)⟩
  · rintro ⟨h1, h2⟩
    exact ⟨h1, fun f hf => leB_iff.2 (h2 f hf)⟩
end Go.Proofs.Ytcfbhobpfnlkpaa.Flow
