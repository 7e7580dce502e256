/- Part of the proofs about package mem. -/
import Derived.Test.YtgpekomaoeockaaMemJ1
namespace Go.Proofs.Ytgpekomaoeockaa.MemC
open Go.RowKit Go.Proofs.YtgpekomaoeockaaW.PrintWords Go.Proofs.YtgpekomaoeockaaW.PrintLast Go.Proofs.YtgpekomaoeockaaW.PrintMore Go.Proofs.Ytgpekomaoeockaa.QMemSizes
set_option linter.unusedVariables false
/-! ### The law's own list: regions with what is in them, each in a block of its own -/
abbrev LReg := Reg × Nat
def regs (ys : List LReg) : List Reg := ys.map Prod.fst
def cellsL (ys : List LReg) : List Value := ys.flatMap fun y => [Value.int .i64 y.1.1, Value.slice (some ⟨y.2, 0, none⟩) y.1.2.length y.1.2.length]
theorem regs_length (ys : List LReg) : (regs ys).length = ys.length := List.length_map _
theorem regs_get (ys : List LReg) (k : Nat) (h : k < (regs ys).length) : (regs ys)[k] = (ys[k]'(by rw [regs_length] at h; exact h)).1 := by simp [regs]
theorem cellsL_length (ys : List LReg) : (cellsL ys).length = ys.length * 2 := by
  induction ys with
  | nil => rfl
  | cons x r ih => simp only [cellsL, List.flatMap_cons, List.length_append, List.length_cons, List.length_nil] at ih ⊢; omega
theorem cellsL_append (a b : List LReg) : cellsL (a ++ b) = cellsL a ++ cellsL b := List.flatMap_append
theorem cellsL_take (l : List LReg) (k : Nat) : (cellsL l).take (k * 2) = cellsL (l.take k) := by
  induction l generalizing k with
  | nil => simp [cellsL]
  | cons x r ih =>
    cases k with
    | zero => simp [cellsL]
    | succ k =>
      rw [show (k + 1) * 2 = k * 2 + 2 by omega]
      simp only [cellsL, List.flatMap_cons, List.take_succ_cons] at ih ⊢
      simp only [List.cons_append, List.nil_append, List.take_succ_cons, ih]
theorem cellsL_drop (l : List LReg) (k : Nat) : (cellsL l).drop (k * 2) = cellsL (l.drop k) := by
  induction l generalizing k with
  | nil => simp [cellsL]
  | cons x r ih =>
    cases k with
    | zero => simp [cellsL]
    | succ k =>
      rw [show (k + 1) * 2 = k * 2 + 2 by omega]
      simp only [cellsL, List.flatMap_cons, List.drop_succ_cons] at ih ⊢
      simp only [List.cons_append, List.nil_append, List.drop_succ_cons, ih]
theorem cellsL_get0 (l : List LReg) (k : Nat) (h : k < l.length) : (cellsL l)[k * 2]? = some (.int .i64 l[k].1.1) := by
  have h2 : (cellsL l).drop (k * 2) = cellsL (l.drop k) := cellsL_drop l k
  have h3 : ((cellsL l).drop (k * 2))[0]? = (cellsL l)[k * 2]? := by rw [List.getElem?_drop]; rfl
  rw [← h3, h2, ← List.getElem_cons_drop h]
  rfl
theorem cellsL_get1 (l : List LReg) (k : Nat) (h : k < l.length) : (cellsL l)[k * 2 + 1]? = some (.slice (some ⟨l[k].2, 0, none⟩) l[k].1.2.length l[k].1.2.length) := by
  have h2 : (cellsL l).drop (k * 2) = cellsL (l.drop k) := cellsL_drop l k
  have h3 : ((cellsL l).drop (k * 2))[1]? = (cellsL l)[k * 2 + 1]? := by rw [List.getElem?_drop]
  rw [← h3, h2, ← List.getElem_cons_drop h]
  rfl
theorem cellsL_one (ys : List LReg) : ∀ u ∈ cellsL ys, u.oneCell' = true := by
  intro u hu
  obtain ⟨x, _, hx⟩ := List.mem_flatMap.1 hu
  simp only [List.mem_cons, List.not_mem_nil, or_false] at hx
  rcases hx with rfl | rfl <;> rfl
structure LL (w : World) (base : Nat) (v : Value) (ys : List LReg) : Prop where
  own : w.ownsRow base 31 2 v ys.length (cellsL ys)
  row : ∀ j (h : j < ys.length), w.heap[ys[j].2]? = some (.cells (nums .i32 ys[j].1.2).toArray 21 (0, 0)) ∧ base ≤ ys[j].2
  inj : ∀ i j (hi : i < ys.length) (hj : j < ys.length), ys[i].2 = ys[j].2 → i = j
/-- Both, and apart. -/
structure PL (w w' : World) (base p sb hb : Nat) (st : List Int) (n : Nat) (ys : List LReg) (lv v : Value) : Prop where
  ms : MS w' base p sb hb st n (regs ys) lv
  ll : LL w' base v ys
  ap : ∀ j (h : j < ys.length), ys[j].2 ≠ sb ∧ ys[j].2 ≠ hb
  dis : ∀ i j (hi : i < ys.length) (hj : j < ys.length), ys[i].1.1 = ys[j].1.1 → i = j
  nat : ∀ j (h : j < ys.length), ∃ m : Nat, ys[j].1.1 = (m : Int) ∧ m ≤ 100
  bel : Below base w w'
  bas : base = w.heap.size
  few : ys.length ≤ 40
theorem LL.below {w w' : World} {base : Nat} {v : Value} {ys : List LReg} (h : LL w base v ys) (hb : Below w.heap.size w w') : LL w' base v ys :=
  ⟨pw_own_below h.own hb, fun j hj => ⟨(hb.block _ (blk_lt (h.row j hj).1)).trans (h.row j hj).1, (h.row j hj).2⟩, h.inj⟩
theorem PL.below {w w' w2 : World} {base p sb hb : Nat} {st : List Int} {n : Nat} {ys : List LReg} {lv v : Value} (h : PL w w' base p sb hb st n ys lv v) (hb' : Below w'.heap.size w' w2) : PL w w2 base p sb hb st n ys lv v :=
  ⟨h.ms.below hb', h.ll.below hb', h.ap, h.dis, h.nat, h.bel.trans (hb'.mono (by have := h.bel.size; rw [h.bas]; exact this)), h.bas, h.few⟩
section
variable {w w' : World} {base p sb hb : Nat} {st : List Int} {n : Nat} {ys : List LReg} {lv v : Value}
theorem PL.len (h : PL w w' base p sb hb st n ys lv v) : (regs ys).length ≤ 1000000000 := by rw [regs_length]; have := h.few; omega
theorem PL.at (h : PL w w' base p sb hb st n ys lv v) (k : Nat) (hk : k < ys.length) : At (regs ys) ys[k].1.1 k := by
  refine ⟨by rw [regs_length]; exact hk, by rw [regs_get], fun j hj hlt he => ?_⟩
  rw [regs_get] at he
  rw [regs_length] at hj
  have := h.dis j k hj hk he
  omega
theorem PL.form (h : PL w w' base p sb hb st n ys lv v) (hl : 0 < ys.length) : ∃ g cap, v = .slice (some ⟨g, 0, none⟩) ys.length cap ∧ ys.length ≤ cap := by
  rcases h.ll.own.2 with ⟨_, h0⟩ | ⟨g, cap, cur, hv, _, _, hn, _⟩
  · omega
  · exact ⟨g, cap, hv, hn⟩
theorem LL.cell {g cap q : Nat} {u : Value} (h : LL w' base (.slice (some ⟨g, 0, none⟩) ys.length cap) ys) (hu : (cellsL ys)[q]? = some u) : w'.cell? ⟨g, q, none⟩ = some u := by
  rcases h.own.2 with ⟨hv, _⟩ | ⟨g', cap', cur, hv, _, hh, _, _, _, ht⟩
  · cases hv
  · injection hv with hv _ _
    injection hv with hv
    injection hv with hv
    subst hv
    rw [← ht, List.getElem?_take] at hu
    split at hu
    · rw [blk_cell hh, ← Array.getElem?_toList]
      exact hu
    · cases hu
theorem PL.id {g cap : Nat} (h : PL w w' base p sb hb st n ys lv (.slice (some ⟨g, 0, none⟩) ys.length cap)) (k : Nat) (hk : k < ys.length) : w'.cell? ⟨g, k * 2, none⟩ = some (.int .i64 ys[k].1.1) := h.ll.cell (cellsL_get0 ys k hk)
theorem PL.sl {g cap : Nat} (h : PL w w' base p sb hb st n ys lv (.slice (some ⟨g, 0, none⟩) ys.length cap)) (k : Nat) (hk : k < ys.length) : w'.cell? ⟨g, k * 2 + 1, none⟩ = some (.slice (some ⟨ys[k].2, 0, none⟩) ys[k].1.2.length ys[k].1.2.length) := h.ll.cell (cellsL_get1 ys k hk)
theorem PL.inner (h : PL w w' base p sb hb st n ys lv v) (k : Nat) (hk : k < ys.length) (q : Nat) (hq : q < ys[k].1.2.length) : w'.cell? ⟨ys[k].2, q, none⟩ = some (.int .i32 ys[k].1.2[q]) := by
  rw [blk_cell (h.ll.row k hk).1, List.getElem?_toArray]
  unfold nums
  rw [List.getElem?_map, List.getElem?_eq_getElem hq]
  rfl
theorem PL.place (h : PL w w' base p sb hb st n ys lv v) (k : Nat) (hk : k < ys.length) :
    Calls Try.prog 16 #[.pointer (some ⟨p, 0, none⟩), .int .i64 ys[k].1.1] w' fun e w2 => e = .returned (.tuple #[.int .i64 ((tot ((regs ys).take k) : Nat) : Int), .bool true]) ∧ PL w w2 base p sb hb st n ys lv v := by
  obtain ⟨h1, h2, h3⟩ := h.at k hk
  refine (h.ms.place h.len _ k h1 h2 h3).mono ?_
  rintro e w2 ⟨rfl, hb⟩
  exact ⟨rfl, h.below hb⟩
theorem PL.region (h : PL w w' base p sb hb st n ys lv v) (k : Nat) (hk : k < ys.length) :
    Calls Try.prog 11 #[.pointer (some ⟨p, 0, none⟩), .int .i64 ys[k].1.1] w' fun e w2 => ∃ o, e = .returned (.slice (some ⟨hb, o, none⟩) ys[k].1.2.length ys[k].1.2.length) ∧ (0 < ys[k].1.2.length → o = MemC.tot ((regs ys).take k)) ∧ Below w'.heap.size w' w2 ∧ PL w w2 base p sb hb st n ys lv v := by
  obtain ⟨h1, h2, h3⟩ := h.at k hk
  refine (h.ms.region h.len _ k h1 h2 h3).mono ?_
  rintro e w2 ⟨rfl, hb⟩
  rw [regs_get]
  unfold regV
  by_cases e0 : ys[k].1.2.length = 0
  · exact ⟨0, by simp [e0], fun h => absurd h (by omega), hb, h.below hb⟩
  · exact ⟨MemC.tot ((regs ys).take k), by simp [e0], fun _ => rfl, hb, h.below hb⟩
theorem PL.read (h : PL w w' base p sb hb st n ys lv v) (k : Nat) (hk : k < ys.length) (q : Nat) (hq : q < ys[k].1.2.length) : w'.cell? ⟨hb, tot ((regs ys).take k) + q, none⟩ = some (.int .i32 ys[k].1.2[q]) := by
  have := h.ms.read k (by rw [regs_length]; exact hk) q (by rw [regs_get]; exact hq)
  rw [this]
  congr 2
  simp only [regs_get]
theorem PL.nes {g cap : Nat} (h : PL w w' base p sb hb st n ys lv (.slice (some ⟨g, 0, none⟩) ys.length cap)) (k : Nat) (hk : k < ys.length) : g ≠ hb ∧ hb ≠ g ∧ ys[k].2 ≠ hb ∧ hb ≠ ys[k].2 := by
  obtain ⟨j0, g1, _⟩ := h.ms.hea
  have h1 : g ≠ hb := fun e => own_ne h.ll.own g1 (by decide) (by rw [e]; rfl)
  have h2 := (h.ap k hk).2
  exact ⟨h1, fun e => h1 e.symm, h2, fun e => h2 e.symm⟩
theorem PL.tot (h : PL w w' base p sb hb st n ys lv v) : MemC.tot (regs ys) ≤ n ∧ n ≤ 65536 := ⟨h.ms.tn, h.ms.nb⟩
theorem PL.inner_le (h : PL w w' base p sb hb st n ys lv v) (k : Nat) (hk : k < ys.length) : MemC.tot ((regs ys).take k) + ys[k].1.2.length ≤ n ∧ MemC.tot ((regs ys).take (k + 1)) = MemC.tot ((regs ys).take k) + ys[k].1.2.length := by
  have h1 := tot_take_succ (regs ys) k (by rw [regs_length]; exact hk)
  have h2 := tot_take_le (regs ys) (k + 1)
  have h3 := h.tot.1
  rw [regs_get] at h1
  omega
end
end Go.Proofs.Ytgpekomaoeockaa.MemC
