/- Part of the proofs about package mem. -/
import Derived.Test.YtgpekomaoeockaaMemK2
namespace Go.Proofs.Ytgpekomaoeockaa.MemC
open Go.RowKit Go.Proofs.YtgpekomaoeockaaW.PrintWords Go.Proofs.YtgpekomaoeockaaW.PrintLast Go.Proofs.YtgpekomaoeockaaW.PrintMore Go.Proofs.Ytgpekomaoeockaa.QMemSizes
set_option linter.unusedVariables false
theorem LL.form {w : World} {base : Nat} {v : Value} {ys : List LReg} (h : LL w base v ys) (hl : 0 < ys.length) : ∃ g cap, v = .slice (some ⟨g, 0, none⟩) ys.length cap ∧ ys.length ≤ cap := by
  rcases h.own.2 with ⟨_, h0⟩ | ⟨g, cap, cur, hv, _, _, hn, _⟩
  · omega
  · exact ⟨g, cap, hv, hn⟩
theorem LL.id {w : World} {base g cap : Nat} {ys : List LReg} (h : LL w base (.slice (some ⟨g, 0, none⟩) ys.length cap) ys) (k : Nat) (hk : k < ys.length) : w.cell? ⟨g, k * 2, none⟩ = some (.int .i64 ys[k].1.1) := h.cell (cellsL_get0 ys k hk)
theorem LL.sl {w : World} {base g cap : Nat} {ys : List LReg} (h : LL w base (.slice (some ⟨g, 0, none⟩) ys.length cap) ys) (k : Nat) (hk : k < ys.length) : w.cell? ⟨g, k * 2 + 1, none⟩ = some (.slice (some ⟨ys[k].2, 0, none⟩) ys[k].1.2.length ys[k].1.2.length) := h.cell (cellsL_get1 ys k hk)
theorem alike.calls' {w w' : World} {base p sb hb : Nat} {st : List Int} {n : Nat} {ys : List LReg} {lv : Value} {A : Option Addr} {cap N : Nat} {u : Int} (h : PL w w' base p sb hb st n ys lv (.slice A N cap)) (hN : ys.length = N) (hu : u = ((tot (regs ys) : Nat) : Int)) {hi : Nat} (hh : st.length = hi) :
    Calls Try.prog 12 #[.pointer (some ⟨p, 0, none⟩), .slice A N cap, .int .i64 u, .int .i64 (n : Int), .int .i64 (hi : Int)] w' fun e w2 => e = .returned (.bool true) ∧ PL w w2 base p sb hb st n ys lv (.slice A N cap) := by
  subst hN
  subst hu
  subst hh
  exact alike.calls h
theorem info31 : (Try.prog.info? 31).map (fun i => (i.zero, i.size, i.bytes)) = some (some (.agg #[.int .i64 0, .slice none 0 0]), 2, 32) := by kernel_rfl
theorem run_make21 (w : World) (c : Nat) (hc : c ≤ 65536) : (Instr.makeSlice 29 (.int .i64 (c : Int)) (.int .i64 (c : Int))).run Try.prog w = .ok (.slice (some ⟨w.heap.size, 0, none⟩) c c) (w.alloc (.cells (nums .i32 (List.replicate c 0)).toArray 21)) := by
  obtain ⟨i0, hi, hz0, hz1, hz2⟩ := info_parts info21
  have hr := run_make (P := Try.prog) w 29 21 i0 (.int .i32 0) Try.underlying29 hi hz0 .i64 .i64 (c : Int) (c : Int) (by omega) (by omega) (by rw [hz2]; omega) (by omega)
  rw [hz1] at hr
  simp only [Int.toNat_natCast, Nat.mul_one] at hr
  rw [hr]
  have e : madeCells (Value.int .i32 0).cells c = (nums .i32 (List.replicate c (0 : Int))).toArray := by
    apply Array.ext
    · simp [madeCells, nums]
    · intro i h1 h2
      simp [madeCells, nums, Value.cells, Nat.mod_one]
  rw [e]
/-- As many numbers as are in a list: one of the first is not. -/
theorem pigeon (L : List Int) : ∀ m : Nat, (∀ j : Nat, j < m → (j : Int) ∈ L) → m ≤ L.length := by
  intro m
  induction m generalizing L with
  | zero => intro _; exact Nat.zero_le _
  | succ m ih =>
    intro h
    have hm := h m (by omega)
    have h1 := ih (L.erase (m : Int)) (fun j hj => (List.mem_erase_of_ne (by omega)).2 (h j (by omega)))
    rw [List.length_erase_of_mem hm] at h1
    have := List.length_pos_of_mem hm
    omega
def ids (ys : List LReg) : List Int := ys.map fun y => y.1.1
theorem ids_length (ys : List LReg) : (ids ys).length = ys.length := List.length_map _
theorem ids_mem (ys : List LReg) (x : Int) : x ∈ ids ys ↔ ∃ k, ∃ h : k < ys.length, ys[k].1.1 = x := by
  unfold ids
  rw [List.mem_map]
  constructor
  · rintro ⟨y, hy, rfl⟩
    obtain ⟨k, hk, rfl⟩ := List.mem_iff_getElem.1 hy
    exact ⟨k, hk, rfl⟩
  · rintro ⟨k, hk, rfl⟩
    exact ⟨_, List.getElem_mem hk, rfl⟩
theorem least_free (L : List Int) : ∃ id : Nat, id ≤ L.length ∧ (∀ j : Nat, j < id → (j : Int) ∈ L) ∧ (id : Int) ∉ L := by
  have key : ∀ d m : Nat, m + d = L.length + 1 → (∀ j : Nat, j < m → (j : Int) ∈ L) → ∃ id : Nat, (∀ j : Nat, j < id → (j : Int) ∈ L) ∧ (id : Int) ∉ L := by
    intro d
    induction d with
    | zero => intro m hm h; have := pigeon L m h; omega
    | succ d ih =>
      intro m hm h
      by_cases hin : (m : Int) ∈ L
      · refine ih (m + 1) (by omega) (fun j hj => ?_)
        rcases Nat.lt_or_ge j m with h1 | h1
        · exact h j h1
        · obtain rfl : j = m := by omega
          exact hin
      · exact ⟨m, h, hin⟩
  obtain ⟨id, h1, h2⟩ := key (L.length + 1) 0 (by omega) (fun j hj => by omega)
  exact ⟨id, pigeon L id h1, h1, h2⟩
theorem free_of {ys : List LReg} {x : Int} (h : x ∉ ids ys) : Free (regs ys) x := fun j hj he => by
  rw [regs_get] at he
  rw [regs_length] at hj
  exact h ((ids_mem ys x).2 ⟨j, hj, he⟩)
section
variable {w w' : World} {base p sb hb : Nat} {st : List Int} {n : Nat} {ys : List LReg} {lv v : Value}
theorem PL.give (h : PL w w' base p sb hb st n ys lv v) (c : Nat) (hc : MemC.tot (regs ys) + c ≤ n) (id : Nat) (hid : id ≤ 100) (hu : ∀ j : Nat, j < id → (j : Int) ∈ ids ys) (hf : (id : Int) ∉ ids ys) :
    Calls Try.prog 9 #[.pointer (some ⟨p, 0, none⟩), .int .i64 (c : Int)] w' fun e w2 => e = .returned (.tuple #[.int .i64 (id : Int), .bool true]) ∧ ∃ lv', MS w2 base p sb hb st n (regs ys ++ [((id : Int), List.replicate c 0)]) lv' ∧ LL w2 base v ys ∧ Below base w w2 ∧ Kept w' w2 (fun k => k = p ∨ k = hb ∨ lv.ownBlock = some k) := by
  refine (h.ms.give h.len c hc id (by omega) (fun j hj => ?_) (free_of hf)).mono ?_
  · obtain ⟨k, hk, he⟩ := (ids_mem ys _).1 (hu j hj)
    have := h.at k hk
    rw [he] at this
    exact ⟨k, this⟩
  · rintro e w2 ⟨rfl, lv', h1, h2, h3, _⟩
    refine ⟨rfl, lv', h1, ⟨?_, fun j hj => ⟨?_, (h.ll.row j hj).2⟩, h.ll.inj⟩, h.bel.trans h2, h3⟩
    · refine own_move h.ll.own (fun k e => h3.2 k (by obtain ⟨c, hc⟩ := own_typed h.ll.own k e; exact blk_lt hc) ?_)
      obtain ⟨c1, hc1⟩ := own_typed h.ll.own k e
      obtain ⟨j0, g1, _⟩ := h.ms.hea
      rintro (rfl | rfl | e2)
      · exact blk_ne hc1 h.ms.box (by decide) rfl
      · exact blk_ne hc1 g1 (by decide) rfl
      · obtain ⟨c2, hc2⟩ := own_typed h.ms.lst k e2
        exact blk_ne hc1 hc2 (by decide) rfl
    · have hr := (h.ll.row j hj).1
      refine (h3.2 _ (blk_lt hr) ?_).trans hr
      rintro (e | e | e)
      · exact blk_ne hr h.ms.box (by decide) e
      · exact (h.ap j hj).2 e
      · obtain ⟨c2, hc2⟩ := own_typed h.ms.lst _ e
        exact blk_ne hr hc2 (by decide) rfl
theorem PL.keep28 (h : PL w w' base p sb hb st n ys lv v) {w2 : World} (hk : Kept w' w2 (fun k => k = p ∨ k = hb ∨ lv.ownBlock = some k)) {gb : Nat} {cs : Array Value} (hg : w'.heap[gb]? = some (.cells cs 28 (0, 0))) : w2.heap[gb]? = some (.cells cs 28 (0, 0)) := by
  refine (hk.2 gb (blk_lt hg) ?_).trans hg
  obtain ⟨j0, g1, _⟩ := h.ms.hea
  rintro (e | e | e)
  · exact blk_ne hg h.ms.box (by decide) e
  · exact blk_ne hg g1 (by decide) e
  · obtain ⟨c2, hc2⟩ := own_typed h.ms.lst _ e
    exact blk_ne hg hc2 (by decide) rfl
/-- The new region's own row, and the list with it. -/
theorem PL.given (h : PL w w' base p sb hb st n ys lv v) {w2 w4 : World} {lv' v1 : Value} (c id : Nat) (hid : id ≤ 100) (hf : (id : Int) ∉ ids ys) (hfew : ys.length < 40)
    (hm : MS w2 base p sb hb st n (regs ys ++ [((id : Int), List.replicate c 0)]) lv') (hl : LL w2 base v ys) (hbl : Below base w w2)
    (ho : w4.ownsRow base 31 2 v1 (ys.length + 1) (cellsL ys ++ [.int .i64 (id : Int), .slice (some ⟨w2.heap.size, 0, none⟩) c c])) (hb4 : Below base w w4) (hg : (w2.alloc (.cells (nums .i32 (List.replicate c 0)).toArray 21)).grownBy w4 v.ownBlock) :
    PL w w4 base p sb hb st n (ys ++ [(((id : Int), List.replicate c 0), w2.heap.size)]) lv' v1 := by
  have hB : base ≤ w2.heap.size := by rw [h.bas]; exact hbl.size
  have vne : ∀ k o T, w2.heap[k]? = some (.cells o T (0, 0)) → T ≠ 31 → some k ≠ v.ownBlock := fun k o T hk hT => own_ne hl.own hk (Ne.symm hT)
  have hnew : w4.heap[w2.heap.size]? = some (.cells (nums .i32 (List.replicate c 0)).toArray 21 (0, 0)) := by
    refine blk_grown (heap_alloc_new w2 _) hg (fun e => ?_)
    have := own_lt hl.own w2.heap.size e.symm
    omega
  have keep : ∀ k, k < w2.heap.size → some k ≠ v.ownBlock → w4.heap[k]? = w2.heap[k]? := fun k hk hn => (hg.block k (by simp; omega) hn).trans (Below.heap_alloc _ _ _ hk)
  have hm4 : MS w4 base p sb hb st n (regs ys ++ [((id : Int), List.replicate c 0)]) lv' := by
    refine hm.step (fun k hk hs => keep k hk ?_)
    obtain ⟨j0, g1, _⟩ := hm.hea
    rcases hs with rfl | rfl | rfl | e
    · exact vne _ _ _ hm.box (by decide)
    · exact vne _ _ _ hm.stk (by decide)
    · exact vne _ _ _ g1 (by decide)
    · obtain ⟨c2, hc2⟩ := own_typed hm.lst _ e
      exact vne _ _ _ hc2 (by decide)
  have lt2 : ∀ j (hj : j < ys.length), ys[j].2 < w2.heap.size := fun j hj => blk_lt (hl.row j hj).1
  obtain ⟨j0, g1, _⟩ := hm.hea
  have hlen : (ys ++ [(((id : Int), List.replicate c 0), w2.heap.size)]).length = ys.length + 1 := by simp
  refine ⟨by simpa [regs] using hm4, ⟨?_, fun j hj => ?_, fun i j hi hj he => ?_⟩, fun j hj => ?_, fun i j hi hj he => ?_, fun j hj => ?_, hb4, h.bas, by omega⟩
  · rw [hlen, cellsL_append]
    simpa [cellsL] using ho
  · rcases Nat.lt_or_ge j ys.length with h1 | h1
    · rw [List.getElem_append_left h1]
      exact ⟨(keep _ (lt2 j h1) (vne _ _ _ (hl.row j h1).1 (by decide))).trans (hl.row j h1).1, (hl.row j h1).2⟩
    · obtain rfl : j = ys.length := by omega
      simp only [List.getElem_append_right (Nat.le_refl _), Nat.sub_self, List.getElem_cons_zero]
      exact ⟨hnew, hB⟩
  · rcases Nat.lt_or_ge i ys.length with h1 | h1 <;> rcases Nat.lt_or_ge j ys.length with h2 | h2
    · rw [List.getElem_append_left h1, List.getElem_append_left h2] at he
      exact hl.inj i j h1 h2 he
    · obtain rfl : j = ys.length := by omega
      rw [List.getElem_append_left h1] at he
      simp only [List.getElem_append_right (Nat.le_refl _), Nat.sub_self, List.getElem_cons_zero] at he
      have := lt2 i h1
      omega
    · obtain rfl : i = ys.length := by omega
      rw [List.getElem_append_left h2] at he
      simp only [List.getElem_append_right (Nat.le_refl _), Nat.sub_self, List.getElem_cons_zero] at he
      have := lt2 j h2
      omega
    · omega
  · rcases Nat.lt_or_ge j ys.length with h1 | h1
    · rw [List.getElem_append_left h1]
      exact h.ap j h1
    · obtain rfl : j = ys.length := by omega
      simp only [List.getElem_append_right (Nat.le_refl _), Nat.sub_self, List.getElem_cons_zero]
      have h3 := blk_lt hm.stk
      have h4 := blk_lt g1
      omega
  · rcases Nat.lt_or_ge i ys.length with h1 | h1 <;> rcases Nat.lt_or_ge j ys.length with h2 | h2
    · rw [List.getElem_append_left h1, List.getElem_append_left h2] at he
      exact h.dis i j h1 h2 he
    · obtain rfl : j = ys.length := by omega
      rw [List.getElem_append_left h1] at he
      simp only [List.getElem_append_right (Nat.le_refl _), Nat.sub_self, List.getElem_cons_zero] at he
      exact absurd ((ids_mem ys _).2 ⟨i, h1, he⟩) hf
    · obtain rfl : i = ys.length := by omega
      rw [List.getElem_append_left h2] at he
      simp only [List.getElem_append_right (Nat.le_refl _), Nat.sub_self, List.getElem_cons_zero] at he
      exact absurd ((ids_mem ys _).2 ⟨j, h2, he.symm⟩) hf
    · omega
  · rcases Nat.lt_or_ge j ys.length with h1 | h1
    · rw [List.getElem_append_left h1]
      exact h.nat j h1
    · obtain rfl : j = ys.length := by omega
      simp only [List.getElem_append_right (Nat.le_refl _), Nat.sub_self, List.getElem_cons_zero]
      exact ⟨id, rfl, hid⟩
end
end Go.Proofs.Ytgpekomaoeockaa.MemC
