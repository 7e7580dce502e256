/- Part of the proofs about package mem. -/
import Derived.Test.YtgpekomaoeockaaMemK3
namespace Go.Proofs.Ytgpekomaoeockaa.MemC
open Go.RowKit Go.Proofs.YtgpekomaoeockaaW.PrintWords Go.Proofs.YtgpekomaoeockaaW.PrintLast Go.Proofs.YtgpekomaoeockaaW.PrintMore Go.Proofs.Ytgpekomaoeockaa.QMemSizes
set_option linter.unusedVariables false
theorem tmod_bd (a : Int) (c : Nat) (h : 0 < c) : -(c : Int) < a.tmod c ∧ a.tmod c < c := ⟨Int.lt_tmod_of_pos a (by omega), Int.tmod_lt_of_pos a (by omega)⟩
def less (ys : List LReg) (k : Nat) : List LReg := ys.take k ++ ys.drop (k + 1)
theorem less_length (ys : List LReg) (k : Nat) (hk : k < ys.length) : (less ys k).length = ys.length - 1 := by
  unfold less
  rw [List.length_append, List.length_take, List.length_drop]
  omega
theorem less_get (ys : List LReg) (k j : Nat) (hk : k < ys.length) (hj : j < (less ys k).length) : ∃ i, ∃ hi : i < ys.length, (less ys k)[j] = ys[i] ∧ i = (if j < k then j else j + 1) := by
  have hl := less_length ys k hk
  have key : ∀ i, i = (if j < k then j else j + 1) → (less ys k)[j]? = ys[i]? := by
    intro i hi
    unfold less
    by_cases h : j < k
    · rw [if_pos h] at hi
      subst hi
      rw [List.getElem?_append_left (by rw [List.length_take]; omega), List.getElem?_take, if_pos h]
    · rw [if_neg h] at hi
      subst hi
      rw [List.getElem?_append_right (by rw [List.length_take]; omega), List.getElem?_drop]
      congr 1
      rw [List.length_take]
      omega
  have hi : (if j < k then j else j + 1) < ys.length := by split <;> omega
  refine ⟨_, hi, ?_, rfl⟩
  have := key _ rfl
  rw [List.getElem?_eq_getElem hj, List.getElem?_eq_getElem hi] at this
  exact Option.some.inj this
theorem regs_less (ys : List LReg) (k : Nat) : without (regs ys) k = regs (less ys k) := by
  unfold without regs less
  rw [List.map_append, List.map_take, List.map_drop]
def wroteL (ys : List LReg) (k q : Nat) (x : Int) : List LReg := ys.modify k (fun y => ((y.1.1, y.1.2.set q x), y.2))
theorem wroteL_length (ys : List LReg) (k q : Nat) (x : Int) : (wroteL ys k q x).length = ys.length := List.length_modify ..
theorem regs_wroteL (ys : List LReg) (k q : Nat) (x : Int) : regs (wroteL ys k q x) = wrote (regs ys) k q x := by
  apply List.ext_getElem?
  intro j
  unfold regs wroteL wrote
  rw [List.getElem?_map, List.getElem?_modify, List.getElem?_modify, List.getElem?_map]
  rcases ys[j]? with _ | y
  · rfl
  · by_cases e : k = j
    · simp [e]
    · simp [e]
theorem wroteL_get (ys : List LReg) (k q j : Nat) (x : Int) (hj : j < (wroteL ys k q x).length) : ∃ hj' : j < ys.length, (wroteL ys k q x)[j] = (if k = j then (((ys[j]).1.1, (ys[j]).1.2.set q x), (ys[j]).2) else ys[j]) := by
  have hj' : j < ys.length := by rw [wroteL_length] at hj; exact hj
  refine ⟨hj', ?_⟩
  have h1 : (wroteL ys k q x)[j]? = some (if k = j then (((ys[j]).1.1, (ys[j]).1.2.set q x), (ys[j]).2) else ys[j]) := by
    unfold wroteL
    rw [List.getElem?_modify, List.getElem?_eq_getElem hj']
    by_cases e : k = j
    · simp [e]
    · simp [e]
  rw [List.getElem?_eq_getElem hj] at h1
  exact Option.some.inj h1
theorem cellsL_wroteL (ys : List LReg) (k q : Nat) (x : Int) : cellsL (wroteL ys k q x) = cellsL ys := by
  induction ys generalizing k with
  | nil => cases k <;> rfl
  | cons y r ih =>
    cases k with
    | zero => simp [wroteL, cellsL]
    | succ k =>
      simp only [wroteL, List.modify_succ_cons, cellsL, List.flatMap_cons] at ih ⊢
      rw [ih]
section
variable {w w' : World} {base p sb hb : Nat} {st : List Int} {n : Nat} {ys : List LReg} {lv v : Value}
theorem PL.keptLL (h : PL w w' base p sb hb st n ys lv v) {w2 : World} (h3 : Kept w' w2 (fun k => k = p ∨ k = hb ∨ lv.ownBlock = some k)) : LL w2 base v ys := by
  refine ⟨?_, fun j hj => ⟨?_, (h.ll.row j hj).2⟩, h.ll.inj⟩
  · refine own_move h.ll.own (fun k e => h3.2 k (by obtain ⟨c, hc⟩ := own_typed h.ll.own k e; exact blk_lt hc) ?_)
    obtain ⟨c1, hc1⟩ := own_typed h.ll.own k e
    obtain ⟨j0, g1, _⟩ := h.ms.hea
    rintro (rfl | rfl | e2)
    · exact blk_ne hc1 h.ms.box (by decide) rfl
    · exact blk_ne hc1 g1 (by decide) rfl
    · obtain ⟨c2, hc2⟩ := own_typed h.ms.lst k e2
      exact blk_ne hc1 hc2 (by decide) rfl
  · have hr := (h.ll.row j hj).1
    refine (h3.2 _ (blk_lt hr) ?_).trans hr
    rintro (e | e | e)
    · exact blk_ne hr h.ms.box (by decide) e
    · exact (h.ap j hj).2 e
    · obtain ⟨c2, hc2⟩ := own_typed h.ms.lst _ e
      exact blk_ne hr hc2 (by decide) rfl
theorem PL.drop (h : PL w w' base p sb hb st n ys lv v) (k : Nat) (hk : k < ys.length) :
    Calls Try.prog 10 #[.pointer (some ⟨p, 0, none⟩), .int .i64 ys[k].1.1] w' fun e w2 => e = .returned (.bool true) ∧ ∃ lv', MS w2 base p sb hb st n (regs (less ys k)) lv' ∧ LL w2 base v ys ∧ Below base w w2 ∧ Kept w' w2 (fun k => k = p ∨ k = hb ∨ lv.ownBlock = some k) := by
  obtain ⟨h1, h2, h3⟩ := h.at k hk
  refine (h.ms.drop h.len _ k h1 h2 h3).mono ?_
  rintro e w2 ⟨rfl, lv', g1, g2, g3, _⟩
  rw [regs_less] at g1
  exact ⟨rfl, lv', g1, h.keptLL g3, h.bel.trans g2, g3⟩
theorem PL.dropped (h : PL w w' base p sb hb st n ys lv v) (k : Nat) (hk : k < ys.length) {w2 w4 : World} {lv' v2 : Value} (hm : MS w2 base p sb hb st n (regs (less ys k)) lv') (hl : LL w2 base v ys) (hbl : Below base w w2)
    (ho : w4.ownsRow base 31 2 v2 (k + (ys.length - (k + 1))) (cellsL (ys.take k) ++ cellsL (ys.drop (k + 1)))) (hb4 : Below w2.heap.size w2 w4) : PL w w4 base p sb hb st n (less ys k) lv' v2 := by
  have hll := less_length ys k hk
  have hin : ∀ i j (hi : i < (less ys k).length) (hj : j < (less ys k).length), ∃ a b, ∃ (ha : a < ys.length) (hb : b < ys.length), (less ys k)[i] = ys[a] ∧ (less ys k)[j] = ys[b] ∧ (a = b → i = j) := by
    intro i j hi hj
    obtain ⟨a, ha, e1, e2⟩ := less_get ys k i hk hi
    obtain ⟨b, hb, e3, e4⟩ := less_get ys k j hk hj
    exact ⟨a, b, ha, hb, e1, e3, fun e => by split at e2 <;> split at e4 <;> omega⟩
  refine ⟨hm.below hb4, ⟨?_, fun j hj => ?_, fun i j hi hj he => ?_⟩, fun j hj => ?_, fun i j hi hj he => ?_, fun j hj => ?_, hbl.trans (hb4.mono (by rw [h.bas]; exact hbl.size)), h.bas, by have := h.few; omega⟩
  · rw [← cellsL_append] at ho
    rw [hll, show ys.length - 1 = k + (ys.length - (k + 1)) by omega]
    exact ho
  · obtain ⟨i, hi, e, _⟩ := less_get ys k j hk hj
    rw [e]
    exact ⟨(hb4.block _ (blk_lt (hl.row i hi).1)).trans (hl.row i hi).1, (hl.row i hi).2⟩
  · obtain ⟨a, b, ha, hb, e1, e2, e3⟩ := hin i j hi hj
    rw [e1, e2] at he
    exact e3 (h.ll.inj a b ha hb he)
  · obtain ⟨i, hi, e, _⟩ := less_get ys k j hk hj
    rw [e]
    exact h.ap i hi
  · obtain ⟨a, b, ha, hb, e1, e2, e3⟩ := hin i j hi hj
    rw [e1, e2] at he
    exact e3 (h.dis a b ha hb he)
  · obtain ⟨i, hi, e, _⟩ := less_get ys k j hk hj
    rw [e]
    exact h.nat i hi
theorem PL.write (h : PL w w' base p sb hb st n ys lv v) (k : Nat) (hk : k < ys.length) (q : Nat) (hq : q < ys[k].1.2.length) (x : Int) :
    PL w ((w'.setCell ⟨hb, MemC.tot ((regs ys).take k) + q, none⟩ (.int .i32 x)).setCell ⟨ys[k].2, q, none⟩ (.int .i32 x)) base p sb hb st n (wroteL ys k q x) lv v := by
  have h1 := h.ms.write k (by rw [regs_length]; exact hk) q (by rw [regs_get]; exact hq) x
  rw [← regs_wroteL] at h1
  have hrk := (h.ll.row k hk).1
  have vb : ∀ b T o, w'.heap[b]? = some (.cells o T (0, 0)) → T ≠ 31 → some b ≠ v.ownBlock := fun b T o hb hT => own_ne h.ll.own hb (Ne.symm hT)
  obtain ⟨j0, g1, _⟩ := h.ms.hea
  have hrow : ∀ j (hj : j < ys.length), (w'.setCell ⟨hb, MemC.tot ((regs ys).take k) + q, none⟩ (.int .i32 x)).heap[ys[j].2]? = some (.cells (nums .i32 ys[j].1.2).toArray 21 (0, 0)) := fun j hj => blk_far (h.ll.row j hj).1 (h.ap j hj).2 _
  refine ⟨?_, ⟨?_, fun j hj => ?_, fun i j hi hj he => ?_⟩, fun j hj => ?_, fun i j hi hj he => ?_, fun j hj => ?_, ?_, h.bas, by rw [wroteL_length]; exact h.few⟩
  · refine h1.step (fun b _ hb => Below.heap_setCell _ _ _ _ ?_)
    show b ≠ ys[k].2
    rcases hb with rfl | rfl | rfl | e
    · exact fun e => blk_ne hrk h.ms.box (by decide) e.symm
    · exact fun e => (h.ap k hk).1 e.symm
    · exact fun e => (h.ap k hk).2 e.symm
    · obtain ⟨c2, hc2⟩ := own_typed h.ms.lst _ e
      exact fun e => blk_ne hrk hc2 (by decide) e.symm
  · rw [wroteL_length, cellsL_wroteL]
    exact own_setCell (own_setCell h.ll.own (vb _ _ _ g1 (by decide)) _) (vb _ _ _ hrk (by decide)) _
  · obtain ⟨hj', e⟩ := wroteL_get ys k q j x hj
    rw [e]
    by_cases ekj : k = j
    · subst ekj
      rw [if_pos rfl]
      refine ⟨(blk_set (hrow k hj') q _).trans ?_, (h.ll.row k hj').2⟩
      rw [List.setIfInBounds_toArray]
      unfold nums
      rw [List.map_set]
    · rw [if_neg ekj]
      exact ⟨blk_far (hrow j hj') (fun e => ekj (h.ll.inj j k hj' hk e).symm) _, (h.ll.row j hj').2⟩
  · obtain ⟨hi', e1⟩ := wroteL_get ys k q i x hi
    obtain ⟨hj', e2⟩ := wroteL_get ys k q j x hj
    rw [e1, e2] at he
    refine h.ll.inj i j hi' hj' ?_
    split at he <;> split at he <;> exact he
  · obtain ⟨hj', e2⟩ := wroteL_get ys k q j x hj
    rw [e2]
    split <;> exact h.ap j hj'
  · obtain ⟨hi', e1⟩ := wroteL_get ys k q i x hi
    obtain ⟨hj', e2⟩ := wroteL_get ys k q j x hj
    rw [e1, e2] at he
    refine h.dis i j hi' hj' ?_
    split at he <;> split at he <;> exact he
  · obtain ⟨hj', e2⟩ := wroteL_get ys k q j x hj
    rw [e2]
    split <;> exact h.nat j hj'
  · exact (h.bel.setCell h.ms.bh _).setCell (h.ll.row k hk).2 _
theorem PL.drew1 (h : PL w w' base p sb hb st n ys lv v) : PL w w'.drew base p sb hb st n ys lv v := h.below (Below.drew (Below.refl _ _))
theorem tot_wroteL (ys : List LReg) (k : Nat) (hk : k < ys.length) (q : Nat) (hq : q < ys[k].1.2.length) (x : Int) : tot (regs (wroteL ys k q x)) = tot (regs ys) := by
  rw [regs_wroteL]
  exact tot_wrote (regs ys) k q x (by rw [regs_length]; exact hk) (by rw [regs_get]; exact hq)
theorem tot_less (ys : List LReg) (k : Nat) (hk : k < ys.length) : tot (regs (less ys k)) + ys[k].1.2.length = tot (regs ys) := by
  have := tot_without (regs ys) k (by rw [regs_length]; exact hk)
  rw [regs_less, regs_get] at this
  exact this
end
/-- The law's search of the least free number: at the head of a scan, and in the scan. -/
def Want (ys : List LReg) (id W : Nat) (ag : Bool) : Prop := W ≤ id ∧ (ag = false → (W : Int) ∉ ids ys)
structure Inn (ys : List LReg) (id W k W' : Nat) (ag : Bool) : Prop where
  lo : W ≤ W'
  hi : W' ≤ id
  no : ag = false → W' = W ∧ ∀ j (h : j < ys.length), j < k → ys[j].1.1 ≠ (W : Int)
  yes : ag = true → W < W'
theorem Inn.start {ys : List LReg} {id W : Nat} (h : W ≤ id) : Inn ys id W 0 W false := ⟨Nat.le_refl _, h, fun _ => ⟨rfl, fun j _ hj => by omega⟩, fun h => by cases h⟩
theorem Inn.met {ys : List LReg} {id W k W' : Nat} {ag : Bool} (h : Inn ys id W k W' ag) (hk : k < ys.length) (he : ys[k].1.1 = (W' : Int)) (hf : (id : Int) ∉ ids ys) : Inn ys id W (k + 1) (W' + 1) true := by
  refine ⟨by have := h.lo; omega, ?_, (fun h => by cases h), fun _ => by have := h.lo; omega⟩
  have h1 := h.hi
  rcases Nat.lt_or_ge W' id with h2 | h2
  · exact h2
  · obtain rfl : W' = id := by omega
    exact absurd ((ids_mem ys _).2 ⟨k, hk, he⟩) hf
theorem Inn.unmet {ys : List LReg} {id W k W' : Nat} {ag : Bool} (h : Inn ys id W k W' ag) (hk : k < ys.length) (he : ys[k].1.1 ≠ (W' : Int)) : Inn ys id W (k + 1) W' ag := by
  refine ⟨h.lo, h.hi, fun ha => ?_, h.yes⟩
  obtain ⟨h1, h2⟩ := h.no ha
  refine ⟨h1, fun j hj hlt => ?_⟩
  rcases Nat.lt_or_ge j k with h3 | h3
  · exact h2 j hj h3
  · obtain rfl : j = k := by omega
    rw [← h1]
    exact he
theorem Inn.done {ys : List LReg} {id W W' : Nat} {ag : Bool} (h : Inn ys id W ys.length W' ag) : Want ys id W' ag := by
  refine ⟨h.hi, fun ha hin => ?_⟩
  obtain ⟨h1, h2⟩ := h.no ha
  obtain ⟨k, hk, he⟩ := (ids_mem ys _).1 hin
  exact h2 k hk hk (by rw [← h1]; exact he)
theorem Inn.less {ys : List LReg} {id W W' k n : Nat} {ag : Bool} (h : Inn ys id W k W' ag) (hn : 2 * (id - W) + 1 < n + 1) : 2 * (id - W') + ag.toNat < n := by
  have h1 := h.lo
  have h2 := h.hi
  cases ag with
  | false =>
    have := (h.no rfl).1
    simp only [Bool.toNat_false]
    omega
  | true =>
    have := h.yes rfl
    simp only [Bool.toNat_true]
    omega
theorem Want.eq {ys : List LReg} {id W : Nat} (h : Want ys id W false) (hu : ∀ j : Nat, j < id → (j : Int) ∈ ids ys) : W = id := by
  rcases Nat.lt_or_ge W id with h1 | h1
  · exact absurd (hu W h1) (h.2 rfl)
  · have := h.1
    omega
theorem tot_snoc (ys : List LReg) (id : Int) (c b : Nat) : ((tot (regs ys) : Nat) : Int) + (c : Int) = ((tot (regs (ys ++ [((id, List.replicate c 0), b)])) : Nat) : Int) := by
  have h1 : regs (ys ++ [((id, List.replicate c 0), b)]) = regs ys ++ [(id, List.replicate c 0)] := by simp [regs]
  have h2 : tot ([] : List Reg) = 0 := rfl
  rw [h1, tot_append, tot_cons, h2]
  simp
theorem step_append_ex {P : Program} {ops : Array Oper} {o : Oper} {a : Act} {Q : Exit → Act → World → Prop} {K : Act → World → Prop} {E : Prop} {W : World} {t : TypeId} {s x : Operand} {v u : Value} {R : Value → World → Prop} (hg : o.guard = none) (ho : o.op = .call { callee := .builtin .append, args := #[s, x], argTypes := #[t, t] }) (hs : a.eval s = v) (hx : a.eval x = u)
    (hr : ∃ r W1, (Builtin.append_ #[t, t] o.type #[v, u]).run P W = .ok r W1 ∧ R r W1) (hK : ∀ r W1, R r W1 → K (a.put o.dst r) W1) : if Region.wanted o (yielded ops a.tmps) = true then Oper.wp P o a W K Q else E := by
  obtain ⟨r, W1, h1, h2⟩ := hr
  have hw : Region.wanted o (yielded ops a.tmps) = true := by simp [Region.wanted, hg]
  rw [if_pos hw]
  unfold Oper.wp
  simp [execOp, ho, resolve, invoke, builtin, hs, hx, h1, Result.andThen]
  exact hK _ _ h2
/-- Behind the first append of the law's delete. -/
structure R1 (w7 : World) (base m : Nat) (ys : List LReg) (r : Value) (W1 : World) : Prop where
  own : W1.ownsRow base 31 2 r m (cellsL (ys.take m))
  bel : Below w7.heap.size w7 W1
  new : ∃ b, r.ownBlock = some b ∧ w7.heap.size ≤ b
structure R2 (w7 : World) (base m : Nat) (ys : List LReg) (r : Value) (W1 : World) : Prop where
  own : W1.ownsRow base 31 2 r (m + (ys.length - (m + 1))) (cellsL (ys.take m) ++ cellsL (ys.drop (m + 1)))
  bel : Below w7.heap.size w7 W1
theorem drop1 {w7 : World} {base g cap m : Nat} {ys : List LReg} (hl : LL w7 base (.slice (some ⟨g, 0, none⟩) ys.length cap) ys) (hB : base ≤ w7.heap.size) (hm : m < ys.length) (h40 : ys.length ≤ 40) (ty : TypeId) (W : World) (hb : Below w7.heap.size w7 W) :
    ∃ r W1, (Builtin.append_ #[26, 26] ty #[.slice (some ⟨W.heap.size, 0, none⟩) 0 0, .slice (some ⟨g, 0, none⟩) m cap]).run Try.prog (W.alloc (.cells #[] 31)) = .ok r W1 ∧ R1 w7 base m ys r W1 := by
  obtain ⟨i0, hi, hz0, hz1, hz2⟩ := info_parts info31
  have hB2 : base ≤ W.heap.size := Nat.le_trans hB hb.size
  have hown := World.ownsRow_lit (base := base) (e := 31) (size := 2) W #[] 0 hB2 (by simp [maxLen]) rfl
  have hwb : Below w7.heap.size w7 (W.alloc (.cells #[] 31 (0, 0))) := hb.trans (below_alloc (Below.refl _ _) _ |>.mono hb.size)
  have hcell : ∀ j u, (cellsL (ys.take m))[j]? = some u → (W.alloc (.cells #[] 31 (0, 0))).cell? ((⟨g, 0, none⟩ : Addr).add j) = some u := fun j u hu => by
    rw [Addr.add_lit, Nat.zero_add]
    have hu2 : (cellsL ys)[j]? = some u := by
      rw [← cellsL_take, List.getElem?_take] at hu
      split at hu
      · exact hu
      · cases hu
    exact pw_cell_below hwb (hl.cell hu2)
  obtain ⟨r, W1, h1, h2, h3, _, h5⟩ := run_append_own_at (P := Try.prog) (W.alloc (.cells #[] 31 (0, 0))) base 26 ty 31 i0 _ 2 32 Try.underlying26 hi hz0 hz1 hz2 rfl (by decide) _ 0 [] hown ⟨g, 0, none⟩ m cap (cellsL (ys.take m))
    (by rw [cellsL_length, List.length_take]; omega) hcell (cellsL_one _) (by simp only [maxLen]; omega) (by omega) (by simp; omega)
  · refine ⟨r, W1, h1, by simpa using h2, hwb.trans (⟨h3.os, h3.tape, h3.output, h3.size, fun k hk => h3.block k (by have := hb.size; simp; omega) (fun e => by have := hb.size; simp [Value.ownBlock] at e; omega)⟩), ?_⟩
    rcases h5 with h5 | h5
    · exact ⟨_, h5, hb.size⟩
    · exact ⟨_, h5, by have := hb.size; simp; omega⟩
theorem drop2 {w7 : World} {base g cap m : Nat} {ys : List LReg} {A : Addr} (hl : LL w7 base (.slice (some ⟨g, 0, none⟩) ys.length cap) ys) (hB : base ≤ w7.heap.size) (hm : m < ys.length) (h40 : ys.length ≤ 40) (hcap : ys.length ≤ cap)
    (hA : (if cap = m + 1 then some (⟨g, 0, none⟩ : Addr) else some ⟨g, (m + 1) * 2, none⟩) = some A) (ty : TypeId) (v : Value) (W : World) (h : R1 w7 base m ys v W) :
    ∃ r W1, (Builtin.append_ #[26, 26] ty #[v, .slice (some A) (ys.length - (m + 1)) (cap - (m + 1))]).run Try.prog W = .ok r W1 ∧ R2 w7 base m ys r W1 := by
  obtain ⟨i0, hi, hz0, hz1, hz2⟩ := info_parts info31
  have hsz := h.bel.size
  have hcell : ∀ j u, (cellsL (ys.drop (m + 1)))[j]? = some u → W.cell? (A.add j) = some u := fun j u hu => by
    have hlt := (List.getElem?_eq_some_iff.1 hu).1
    rw [cellsL_length, List.length_drop] at hlt
    rw [if_neg (by omega)] at hA
    injection hA with hA
    subst hA
    rw [Addr.add_lit]
    have hu2 : (cellsL ys)[(m + 1) * 2 + j]? = some u := by
      rw [← cellsL_drop, List.getElem?_drop] at hu
      exact hu
    exact pw_cell_below h.bel (hl.cell hu2)
  obtain ⟨r, W1, h1, h2, h3, _, h5⟩ := run_append_own_at (P := Try.prog) W base 26 ty 31 i0 _ 2 32 Try.underlying26 hi hz0 hz1 hz2 rfl (by decide) v m (cellsL (ys.take m)) h.own A (ys.length - (m + 1)) (cap - (m + 1)) (cellsL (ys.drop (m + 1)))
    (by rw [cellsL_length, List.length_drop]) hcell (cellsL_one _) (by simp only [maxLen]; omega) (by omega) (by omega)
  · obtain ⟨b, hb1, hb2⟩ := h.new
    exact ⟨r, W1, h1, h2, h.bel.trans ⟨h3.os, h3.tape, h3.output, h3.size, fun k hk => h3.block k (by omega) (fun e => by rw [hb1] at e; injection e with e; omega)⟩⟩
end Go.Proofs.Ytgpekomaoeockaa.MemC
