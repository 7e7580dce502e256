/- What flow.Step computes, as plain values. -/
import Derived.Test.YtcfbhobpfnlkpaaJudgeFU
namespace Go.Proofs.Ytcfbhobpfnlkpaa.Flow
open Go.RowKit Go.Proofs.Ytcfbhobpfnlkpaa.QJudgeFound Go.Proofs.YtcfbhobpfnlkpaaW.PrintWords Go.Proofs.YtcfbhobpfnlkpaaW.PrintLast Go.Proofs.Ytcfbhobpfnlkpaa.Chain
set_option linter.unusedVariables false
set_option linter.unusedSimpArgs false
def fitAll (cs : List S80) (op : Int) : List S39 → List S39 → Bool
  | h :: hs, t :: ts => fitsV cs op h t && fitAll cs op hs ts
  | _, _ => true
def typesV (m : Im) (op : Int) (io : List S39 × List S39) (st : List S39) (nx : List Int) : Int × List S39 × List Int :=
  if st.length < io.1.length ∨ 8 < st.length - io.1.length + io.2.length then (4, [], [])
  else if fitAll m.c op (st.drop (st.length - io.1.length)) io.1 = true then (0, st.take (st.length - io.1.length) ++ io.2, nx) else (4, [], [])
def dupV (st : List S39) (nx : List Int) : Int × List S39 × List Int := if st.length = 0 ∨ 8 ≤ st.length then (4, [], []) else (0, st ++ st.drop (st.length - 1), nx)
def stepI (m : Im) (x : S52) (i : S49) (pc : Int) (st : List S39) : Int × List S39 × List Int :=
  if (x.f3.length : Int) ∈ nextsV i pc then (4, [], []) else if i.f0 = 6 then dupV st (nextsV i pc) else typesV m i.f0 (ofV m x i.f0 i.f1 i.f2) st (nextsV i pc)
def stepV (m : Im) (f pc : Int) (st : List S39) : Int × List S39 × List Int :=
  if f < 0 ∨ (m.m.length : Int) ≤ f ∨ pc < 0 ∨ ((rd_T52 m.m f).f3.length : Int) ≤ pc then (1, [], []) else stepI m (rd_T52 m.m f) (rd_T49 (rd_T52 m.m f).f3 pc) pc st

theorem rdI_mem {l : List S49} {i : Int} (h0 : 0 ≤ i) (h1 : i < (l.length : Int)) : rd_T49 l i ∈ l := by
  obtain ⟨k, rfl⟩ := Int.eq_ofNat_of_zero_le h0
  rw [ti (by omega)]
  exact List.getElem_mem _
theorem nexts_len (i : S49) (pc : Int) : (nextsV i pc).length ≤ 2 := by
  unfold nextsV
  repeat' split
  all_goals simp
theorem of_len {m : Im} (hs : SaneP m) {x : S52} {op A B : Int} (hA : 0 ≤ A) (hB : 0 ≤ B) (hn : namedB m x op A B = true) : (ofV m x op A B).1.length ≤ 8 ∧ (ofV m x op A B).2.length ≤ 1 := by
  let ok (io : List S39 × List S39) : Prop := io.1.length ≤ 8 ∧ io.2.length ≤ 1
  have it : ∀ {c : Prop} [Decidable c] {a b : List S39 × List S39}, (c → ok a) → (¬ c → ok b) → ok (if c then a else b) := by
    intro c _ a b ha hb
    by_cases h : c
    · rw [if_pos h]; exact ha h
    · rw [if_neg h]; exact hb h
  have gv : ∀ y : S52, (givesV y).length ≤ 1 := fun y => by unfold givesV; split <;> simp
  show ok (ofV m x op A B)
  unfold ofV
  refine it (fun _ => ?_) (fun _ => ?_)
  · unfold plainV
    repeat' (refine it (fun _ => ?_) (fun _ => ?_))
    all_goals exact ⟨by decide, by decide⟩
  repeat' (refine it (fun h => ?_) (fun _ => ?_))
  · exact ⟨by simp, by simp⟩
  · exact ⟨by simp, by simp⟩
  · exact ⟨by simp, by simp⟩
  · exact ⟨by simp, by simp⟩
  · exact ⟨by simp, by simp⟩
  · exact ⟨by simp, by simp⟩
  · exact ⟨by simp, by simp⟩
  · subst h
    simp [namedB] at hn
    exact ⟨by have := (hs.metP (rdM_mem hA hn)).a4; dsimp only; omega, gv _⟩
  · subst h
    simp [namedB] at hn
    have hsm := slot_mem m A B hB hn.2
    have hcb := hs.cls A.toNat (by omega)
    rw [Int.toNat_of_nonneg hA] at hcb
    have hsl := classB_slots hcb _ hsm
    have hs0 : 0 ≤ slotV m A B := ((hs.fits.cl _ (rdC_mem hA hn.1)).2.2.2.2 _ hsm).1
    exact ⟨by have := (hs.metP (rdM_mem hs0 hsl.1)).a4; simp; omega, gv _⟩
  · exact ⟨by simp, by simp⟩
  · exact ⟨by have := gv x; dsimp only; omega, by simp⟩
  · exact ⟨by simp, by simp⟩
theorem fitAll_iff {cs : List S80} {op : Int} : ∀ {a b : List S39}, a.length = b.length → (fitAll cs op a b = true ↔ ∀ j (h : j < a.length) (h' : j < b.length), fitsV cs op a[j] b[j] = true)
  | [], b, _ => by
    unfold fitAll
    exact ⟨fun _ j h => absurd h (Nat.not_lt_zero _), fun _ => rfl⟩
  | x :: a, [], h => by simp at h
  | x :: a, y :: b, h => by
    unfold fitAll
    rw [Bool.and_eq_true, fitAll_iff (by simpa using h)]
    constructor
    · rintro ⟨h1, h2⟩ j hj hj'
      cases j with
      | zero => exact h1
      | succ j => exact h2 j (by simpa using hj) (by simpa using hj')
    · intro h1
      exact ⟨h1 0 (by simp) (by simp), fun j hj hj' => h1 (j + 1) (by simpa using hj) (by simpa using hj')⟩
theorem stepV_in {m : Im} {f pc : Int} {st : List S39} (h0 : 0 ≤ f) (h1 : f < (m.m.length : Int)) (h2 : 0 ≤ pc) (h3 : pc < ((rd_T52 m.m f).f3.length : Int)) : stepV m f pc st = stepI m (rd_T52 m.m f) (rd_T49 (rd_T52 m.m f).f3 pc) pc st := if_neg (by omega)
end Go.Proofs.Ytcfbhobpfnlkpaa.Flow
