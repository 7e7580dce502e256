/- What clear, append and the list's store leave of the state. -/
import Derived.Test.YtgpekomaoeockaaMemD1
namespace Go.Proofs.Ytgpekomaoeockaa.MemC
open Go.RowKit Go.Proofs.YtgpekomaoeockaaW.PrintWords Go.Proofs.YtgpekomaoeockaaW.PrintLast Go.Proofs.YtgpekomaoeockaaW.PrintMore Go.Proofs.Ytgpekomaoeockaa.QMemSizes
theorem nums_len (k : IntKind) (xs : List Int) : (nums k xs).length = xs.length := List.length_map _
theorem nums_app (k : IntKind) (xs ys : List Int) : nums k (xs ++ ys) = nums k xs ++ nums k ys := List.map_append
theorem lay_snoc (rs : List Reg) (id : Int) (c : List Int) : cells50 (lay 0 (rs ++ [(id, c)])) = cells50 (lay 0 rs) ++ [.int .i64 id, .int .i64 ((tot rs : Nat) : Int), .int .i64 (c.length : Int)] := by
  rw [lay_append, cells50_append, Nat.zero_add]
  rfl
theorem MS.lv_ne_p {w : World} {base p sb hb : Nat} {st : List Int} {n : Nat} {rs : List Reg} {lv : Value} (h : MS w base p sb hb st n rs lv) : lv.ownBlock ≠ some p := fun e => own_ne h.lst h.box (by decide) e.symm
theorem MS.lv_ne_s {w : World} {base p sb hb : Nat} {st : List Int} {n : Nat} {rs : List Reg} {lv : Value} (h : MS w base p sb hb st n rs lv) : lv.ownBlock ≠ some sb := fun e => own_ne h.lst h.stk (by decide) e.symm
theorem MS.lv_ne_h {w : World} {base p sb hb : Nat} {st : List Int} {n : Nat} {rs : List Reg} {lv : Value} (h : MS w base p sb hb st n rs lv) : lv.ownBlock ≠ some hb := fun e => by
  obtain ⟨j, h1, _⟩ := h.hea
  exact own_ne h.lst h1 (by decide) e.symm
theorem MS.p_ne_s {w : World} {base p sb hb : Nat} {st : List Int} {n : Nat} {rs : List Reg} {lv : Value} (h : MS w base p sb hb st n rs lv) : p ≠ sb := blk_ne h.box h.stk (by decide)
theorem MS.p_ne_h {w : World} {base p sb hb : Nat} {st : List Int} {n : Nat} {rs : List Reg} {lv : Value} (h : MS w base p sb hb st n rs lv) : p ≠ hb := by
  obtain ⟨j, h1, _⟩ := h.hea
  exact blk_ne h.box h1 (by decide)
/-- clear: the heap's cells behind the regions. -/
theorem MS.cleared {w : World} {base p sb hb : Nat} {st : List Int} {n : Nat} {rs : List Reg} {lv : Value} (h : MS w base p sb hb st n rs lv) (c : Nat) (hc : tot rs + c ≤ n) :
    ∃ j2, (w.setCells hb (tot rs) (List.replicate c (.int .i32 0))).heap[hb]? = some (.cells (nums .i32 (flat rs ++ (List.replicate c 0 ++ j2))).toArray 21 (0, 0)) ∧ tot rs + c + j2.length = n := by
  obtain ⟨j, h1, h2⟩ := h.hea
  obtain ⟨cur, g1, g2, g3⟩ := setCells_row (List.replicate c (Value.int .i32 0)) (tot rs) w _ h1 (by simp only [List.length_replicate, List.size_toArray, nums_len, List.length_append]; show _ ≤ tot rs + _; omega)
  refine ⟨j.drop c, ?_, by rw [List.length_drop]; omega⟩
  rw [g1]
  congr 2
  have e : cur.toList = nums .i32 (flat rs ++ (List.replicate c 0 ++ j.drop c)) := by
    rw [g3, List.length_replicate]
    have l1 : (nums .i32 (flat rs)).length = tot rs := nums_len _ _
    rw [nums_app, nums_app, nums_app, List.take_left' l1, List.append_assoc]
    congr 1
    have l2 : nums .i32 (List.replicate c (0 : Int)) = List.replicate c (Value.int .i32 0) := by unfold nums; rw [List.map_replicate]
    rw [l2]
    congr 1
    rw [← List.drop_drop, List.drop_left' l1]
    exact (List.map_drop).symm
  rw [← e]
theorem MS.clear_ms {w : World} {base p sb hb : Nat} {st : List Int} {n : Nat} {rs : List Reg} {lv : Value} (h : MS w base p sb hb st n rs lv) (c : Nat) (hc : tot rs + c ≤ n) :
    MS (w.setCells hb (tot rs) (List.replicate c (.int .i32 0))) base p sb hb st n rs lv := by
  obtain ⟨j2, h1, h2⟩ := h.cleared c hc
  have far : ∀ k, k ≠ hb → (w.setCells hb (tot rs) (List.replicate c (.int .i32 0))).heap[k]? = w.heap[k]? := fun k hk => setCells_far _ _ k hk
  exact ⟨(far p h.p_ne_h).trans h.box, (far sb h.ne).trans h.stk, ⟨_, h1, by rw [List.length_append, List.length_replicate]; omega⟩, own_move h.lst (fun k e => far k (fun e2 => h.lv_ne_h (e2 ▸ e))), h.bp, h.bs, h.bh, h.ne, h.nb, h.sn⟩
/-- append, and the store of the list. -/
theorem MS.give_end {w w1 : World} {base p sb hb : Nat} {st : List Int} {n : Nat} {rs : List Reg} {lv v1 : Value} (h : MS w base p sb hb st n rs lv) (c : Nat) (id : Int) {j2 : List Int}
    (hj : w.heap[hb]? = some (.cells (nums .i32 (flat rs ++ (List.replicate c 0 ++ j2))).toArray 21 (0, 0))) (hn : tot rs + c + j2.length = n)
    (ho : w1.ownsRow base 50 3 v1 (rs.length + 1) (cells50 (lay 0 rs) ++ [.int .i64 id, .int .i64 ((tot rs : Nat) : Int), .int .i64 (c : Int)])) (hg : w.grownBy w1 lv.ownBlock) :
    MS (w1.setCell ⟨p, 2, none⟩ v1) base p sb hb st n (rs ++ [(id, List.replicate c 0)]) v1 := by
  have b1 := blk_grown h.box hg (fun e => h.lv_ne_p e.symm)
  have b2 := blk_grown h.stk hg (fun e => h.lv_ne_s e.symm)
  have b3 := blk_grown hj hg (fun e => h.lv_ne_h e.symm)
  refine ⟨(blk_set b1 2 v1).trans rfl, blk_far b2 (fun e => h.p_ne_s e.symm) _, ⟨j2, (blk_far b3 (fun e => h.p_ne_h e.symm) _).trans ?_, ?_⟩, own_setCell ?_ (own_ne ho b1 (by decide)) _, h.bp, h.bs, h.bh, h.ne, h.nb, h.sn⟩
  · rw [flat_append, List.append_assoc]
    show _ = some (Obj.cells (nums .i32 (flat rs ++ (List.replicate c 0 ++ [] ++ j2))).toArray 21 (0, 0))
    rw [List.append_nil]
  · rw [tot_append, tot_cons]
    show tot rs + ((List.replicate c (0 : Int)).length + 0) + _ = _
    rw [List.length_replicate]
    omega
  · rw [lay_snoc, List.length_append, List.length_replicate]
    exact ho
theorem info50 : (Try.prog.info? 50).map (fun i => (i.zero, i.size, i.bytes)) = some (some (.agg #[.int .i64 0, .int .i64 0, .int .i64 0]), 3, 24) := by kernel_rfl
theorem run_clear_none {P : Program} (w : World) (t ty e : TypeId) (ht : P.underlying t = some (.slice e)) (A : Option Addr) (c : Nat) : (Builtin.clear_ #[t] ty #[.slice A 0 c]).run P w = .ok (.tuple #[]) w := by
  cases A <;> simp [Builtin.clear_, run_underlying ht]
end Go.Proofs.Ytgpekomaoeockaa.MemC
