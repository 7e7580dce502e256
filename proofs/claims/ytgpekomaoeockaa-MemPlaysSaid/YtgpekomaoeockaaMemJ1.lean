/- Part of the proofs about package mem. -/
import Derived.Test.YtgpekomaoeockaaMemH2
namespace Go.Proofs.Ytgpekomaoeockaa.MemC
open Go.RowKit Go.Proofs.YtgpekomaoeockaaW.PrintWords Go.Proofs.YtgpekomaoeockaaW.PrintLast Go.Proofs.YtgpekomaoeockaaW.PrintMore Go.Proofs.Ytgpekomaoeockaa.QMemSizes
set_option linter.unusedVariables false
/-- The regions 0 to len - 1, region j with the cells f j. -/
def rsG (f : Nat → List Int) (len : Nat) : List Reg := (List.range len).map fun (j : Nat) => ((j : Int), f j)
theorem rsG_length (f : Nat → List Int) (len : Nat) : (rsG f len).length = len := by rw [rsG, List.length_map, List.length_range]
theorem rsG_get (f : Nat → List Int) (len j : Nat) (h : j < (rsG f len).length) : (rsG f len)[j] = ((j : Int), f j) := by simp [rsG]
theorem rsG_succ (f : Nat → List Int) (len : Nat) : rsG f (len + 1) = rsG f len ++ [((len : Int), f len)] := by simp [rsG, List.range_succ]
theorem rsG_at (f : Nat → List Int) (len j : Nat) (h : j < len) : At (rsG f len) (j : Int) j := by
  refine ⟨by rw [rsG_length]; exact h, by rw [rsG_get], fun i hi hlt => ?_⟩
  rw [rsG_get]
  show (i : Int) ≠ (j : Int)
  omega
theorem rsG_free (f : Nat → List Int) (len : Nat) : Free (rsG f len) (len : Int) := fun j h => by
  rw [rsG_get]
  rw [rsG_length] at h
  show (j : Int) ≠ (len : Int)
  omega
theorem rsG_tot (f : Nat → List Int) (B len : Nat) (h : ∀ j, (f j).length ≤ B) : tot (rsG f len) ≤ len * B := by
  induction len with
  | zero => simp [rsG, tot, flat]
  | succ n ih =>
    rw [rsG_succ, tot_append, tot_cons]
    have := h n
    have e : tot ([] : List Reg) = 0 := rfl
    rw [e, Nat.add_mul]
    dsimp only
    omega
theorem rsG_wrote (f : Nat → List Int) (len k q : Nat) (v : Int) : wrote (rsG f len) k q v = rsG (fun j => if j = k then (f j).set q v else f j) len := by
  apply List.ext_getElem?
  intro j
  unfold wrote rsG
  rw [List.getElem?_modify, List.getElem?_map, List.getElem?_map]
  rcases Nat.lt_or_ge j len with h | h
  · rw [List.getElem?_range h]
    by_cases e : k = j
    · subst e; simp
    · have e2 : ¬ j = k := fun h => e h.symm
      simp [e, e2]
  · rw [List.getElem?_eq_none (by rw [List.length_range]; exact h)]
    simp
theorem set_fill (c q : Nat) (v : Int) (h : q < c) : (List.replicate q v ++ List.replicate (c - q) (0 : Int)).set q v = List.replicate (q + 1) v ++ List.replicate (c - (q + 1)) (0 : Int) := by
  rw [List.set_append_right _ _ (by rw [List.length_replicate]; exact Nat.le_refl _), List.length_replicate, Nat.sub_self, show c - q = (c - (q + 1)) + 1 by omega, List.replicate_succ, List.set_cons_zero, List.replicate_succ', List.append_assoc]
  rfl
/-- While region k is being filled: q of its cells have been. -/
def fillF (s : Nat → Nat) (k q : Nat) (v : Int) (j : Nat) : List Int := if j = k then List.replicate q v ++ List.replicate (s j - q) 0 else List.replicate (s j) 0
theorem fill_length (s : Nat → Nat) (k q : Nat) (v : Int) (h : q ≤ s k) (j : Nat) : (fillF s k q v j).length = s j := by
  unfold fillF
  by_cases e : j = k
  · subst e
    rw [if_pos rfl, List.length_append, List.length_replicate, List.length_replicate]
    omega
  · rw [if_neg e, List.length_replicate]
theorem fill_zero (s : Nat → Nat) (k : Nat) (v : Int) : fillF s k 0 v = fun j => List.replicate (s j) 0 := by
  funext j
  unfold fillF
  by_cases e : j = k
  · rw [if_pos e, List.replicate_zero, List.nil_append, Nat.sub_zero]
  · rw [if_neg e]
theorem fill_succ (s : Nat → Nat) (k q : Nat) (v : Int) (len : Nat) (h : q < s k) : wrote (rsG (fillF s k q v) len) k q v = rsG (fillF s k (q + 1) v) len := by
  rw [rsG_wrote]
  congr 1
  funext j
  unfold fillF
  by_cases e : j = k
  · subst e
    rw [if_pos rfl, if_pos rfl, if_pos rfl, set_fill _ _ _ h]
  · rw [if_neg e, if_neg e, if_neg e]
theorem fill_end (s : Nat → Nat) (k : Nat) (v : Int) (j i : Nat) (h : i < (fillF s k (s k) v j).length) : (fillF s k (s k) v j)[i] = if j = k then v else 0 := by
  by_cases e : j = k
  · subst e
    rw [if_pos rfl]
    simp only [fillF, if_pos, Nat.sub_self, List.replicate_zero, List.append_nil, List.getElem_replicate]
  · rw [if_neg e]
    simp only [fillF, if_neg e, List.getElem_replicate]
theorem own3_ne {w : World} {base p sb hb : Nat} {st : List Int} {n : Nat} {rs : List Reg} {lv : Value} (h : MS w base p sb hb st n rs lv) {B m : Nat} {xs : List Value} {v : Value} (ho : w.ownsRow B 3 1 v m xs) : v.ownBlock ≠ some p ∧ v.ownBlock ≠ some hb ∧ v.ownBlock ≠ some sb ∧ ∀ k, v.ownBlock = some k → lv.ownBlock ≠ some k := by
  obtain ⟨j, h1, _⟩ := h.hea
  refine ⟨fun e => own_ne ho h.box (by decide) e.symm, fun e => own_ne ho h1 (by decide) e.symm, fun e => own_ne ho h.stk (by decide) e.symm, fun k e e2 => ?_⟩
  obtain ⟨c1, hc1⟩ := own_typed ho k e
  obtain ⟨c2, hc2⟩ := own_typed h.lst k e2
  rw [hc1] at hc2
  injection hc2 with hc2
  injection hc2 with _ hc2
  exact absurd hc2 (by decide)
/-- A row of numbers beside the state stays where the state alone is written. -/
theorem own3_kept {w w' : World} {base p sb hb : Nat} {st : List Int} {n : Nat} {rs : List Reg} {lv : Value} (h : MS w base p sb hb st n rs lv) {B m : Nat} {xs : List Value} {v : Value} (ho : w.ownsRow B 3 1 v m xs) (hk : Kept w w' (fun k => k = p ∨ k = hb ∨ lv.ownBlock = some k)) : w'.ownsRow B 3 1 v m xs := by
  obtain ⟨n1, n2, _, n3⟩ := own3_ne h ho
  refine own_move ho (fun k e => hk.2 k (by obtain ⟨c, hc⟩ := own_typed ho k e; exact blk_lt hc) ?_)
  rintro (rfl | rfl | e2)
  · exact n1 e
  · exact n2 e
  · exact n3 k e e2
/-- The state beside a row of numbers that is appended to. -/
theorem MS.grown3 {w w' : World} {base p sb hb : Nat} {st : List Int} {n : Nat} {rs : List Reg} {lv : Value} (h : MS w base p sb hb st n rs lv) {B m : Nat} {xs : List Value} {v : Value} (ho : w.ownsRow B 3 1 v m xs) (hg : w.grownBy w' v.ownBlock) : MS w' base p sb hb st n rs lv := by
  obtain ⟨n1, n2, n3, n4⟩ := own3_ne h ho
  refine h.step (fun k hk hs => hg.block k hk ?_)
  rcases hs with rfl | rfl | rfl | e
  · exact fun e => n1 e.symm
  · exact fun e => n3 e.symm
  · exact fun e => n2 e.symm
  · exact fun e2 => n4 k e2.symm e
theorem info3 : (Try.prog.info? 3).map (fun i => (i.zero, i.size, i.bytes)) = some (some (.int .i64 0), 1, 8) := by kernel_rfl
end Go.Proofs.Ytgpekomaoeockaa.MemC
