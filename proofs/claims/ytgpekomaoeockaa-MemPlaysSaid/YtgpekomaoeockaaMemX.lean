/- The state of a Mem as a predicate of the world, and the values of the loops of Used and at. -/
import Derived.Test.YtgpekomaoeockaaMemW
namespace Go.Proofs.Ytgpekomaoeockaa.MemC
open Go.RowKit Go.Proofs.YtgpekomaoeockaaW.PrintWords Go.Proofs.YtgpekomaoeockaaW.PrintLast Go.Proofs.YtgpekomaoeockaaW.PrintMore Go.Proofs.Ytgpekomaoeockaa.QMemSizes
/-! ### The state of a Mem, and the plain side of its list -/
abbrev Reg := Int × List Int
def flat (rs : List Reg) : List Int := rs.flatMap Prod.snd
def tot (rs : List Reg) : Nat := (flat rs).length
def lay : Nat → List Reg → List S50
  | _, [] => []
  | o, (i, c) :: r => ⟨i, (o : Int), (c.length : Int)⟩ :: lay (o + c.length) r
def cells50 (l : List S50) : List Value := l.flatMap fun x => [Value.int .i64 x.f0, .int .i64 x.f1, .int .i64 x.f2]
theorem cells50_length (l : List S50) : (cells50 l).length = l.length * 3 := by
  induction l with
  | nil => rfl
  | cons x r ih => simp only [cells50, List.flatMap_cons, List.length_append, List.length_cons, List.length_nil] at ih ⊢; omega
theorem cells50_append (l m : List S50) : cells50 (l ++ m) = cells50 l ++ cells50 m := List.flatMap_append
theorem lay_length (o : Nat) (rs : List Reg) : (lay o rs).length = rs.length := by
  induction rs generalizing o with
  | nil => rfl
  | cons x r ih => simp only [lay, List.length_cons, ih]
theorem flat_cons (x : Reg) (rs : List Reg) : flat (x :: rs) = x.2 ++ flat rs := List.flatMap_cons
theorem flat_append (a b : List Reg) : flat (a ++ b) = flat a ++ flat b := List.flatMap_append
theorem tot_cons (x : Reg) (rs : List Reg) : tot (x :: rs) = x.2.length + tot rs := by unfold tot; rw [flat_cons, List.length_append]
theorem tot_append (a b : List Reg) : tot (a ++ b) = tot a + tot b := by unfold tot; rw [flat_append, List.length_append]
theorem lay_append (o : Nat) (a b : List Reg) : lay o (a ++ b) = lay o a ++ lay (o + tot a) b := by
  induction a generalizing o with
  | nil => simp [lay, tot, flat]
  | cons x r ih => obtain ⟨i, c⟩ := x; simp only [List.cons_append, lay, ih, tot_cons]; rw [Nat.add_assoc]
theorem lay_get (o : Nat) (rs : List Reg) (k : Nat) (h : k < rs.length) : (lay o rs).getD k z50 = ⟨rs[k].1, ((o + tot (rs.take k) : Nat) : Int), (rs[k].2.length : Int)⟩ := by
  induction rs generalizing o k with
  | nil => simp at h
  | cons x r ih =>
    obtain ⟨i, c⟩ := x
    cases k with
    | zero => simp [lay, tot, flat]
    | succ k =>
      simp only [lay, List.getD_cons_succ, List.take_succ_cons, tot_cons]
      rw [ih (o + c.length) k (by simpa using h)]
      simp [Nat.add_assoc]
theorem reps50 (w : World) (l : List S50) : Reps (k50.K w) 3 l (cells50 l) := by
  induction l with
  | nil => exact Reps.none _ _
  | cons x r ih =>
    refine ⟨cells50_length _, fun j p hj => ?_⟩
    cases j with
    | zero =>
      obtain rfl : x = p := by simpa using hj
      exact ⟨_, _, rfl, rfl, ⟨_, _, rfl, rfl, rfl⟩⟩
    | succ j =>
      have h1 := ih.2 j p (by simpa using hj)
      rw [show (j + 1) * 3 = 3 + j * 3 by omega, ← List.drop_drop]
      exact h1
theorem own_C {w : World} {base : Nat} {lv : Value} {l : List S50} {n : Nat} (h : w.ownsRow base 50 3 lv n (cells50 l)) (hn : l.length = n) : ∃ A c, lv = .slice A l.length c ∧ Kd.C k50 w A l.length l ∧ l.length ≤ c := by
  obtain ⟨A, c, e, hr⟩ := own_reads_row h (reps50 w l) hn
  subst hn
  subst e
  exact ⟨A, c, rfl, hr, own_le h⟩
/-- The state: block p is the Mem; its stack is block sb, its heap block hb, its list lv; rs: the regions with what is in them; n: how many cells the heap has. -/
structure MS (w : World) (base p sb hb : Nat) (st : List Int) (n : Nat) (rs : List Reg) (lv : Value) : Prop where
  box : w.heap[p]? = some (.cells #[.slice (some ⟨sb, 0, none⟩) st.length st.length, .slice (some ⟨hb, 0, none⟩) n n, lv] 48 (0, 0))
  stk : w.heap[sb]? = some (.cells (nums .i32 st).toArray 21 (0, 0))
  hea : ∃ junk, w.heap[hb]? = some (.cells (nums .i32 (flat rs ++ junk)).toArray 21 (0, 0)) ∧ tot rs + junk.length = n
  lst : w.ownsRow base 50 3 lv rs.length (cells50 (lay 0 rs))
  bp : base ≤ p
  bs : base ≤ sb
  bh : base ≤ hb
  ne : sb ≠ hb
  nb : n ≤ 65536
  sn : st.length ≤ 65536
theorem MS.tn {w : World} {base p sb hb : Nat} {st : List Int} {n : Nat} {rs : List Reg} {lv : Value} (h : MS w base p sb hb st n rs lv) : tot rs ≤ n := by
  obtain ⟨j, _, h2⟩ := h.hea
  omega
/-- What stays where p, sb, hb and the list's block stay. -/
theorem MS.step {w w' : World} {base p sb hb : Nat} {st : List Int} {n : Nat} {rs : List Reg} {lv : Value} (h : MS w base p sb hb st n rs lv) (hk : ∀ k, k < w.heap.size → (k = p ∨ k = sb ∨ k = hb ∨ lv.ownBlock = some k) → w'.heap[k]? = w.heap[k]?) : MS w' base p sb hb st n rs lv := by
  obtain ⟨j, h1, h2⟩ := h.hea
  exact ⟨(hk p (blk_lt h.box) (.inl rfl)).trans h.box, (hk sb (blk_lt h.stk) (.inr (.inl rfl))).trans h.stk, ⟨j, (hk hb (blk_lt h1) (.inr (.inr (.inl rfl)))).trans h1, h2⟩,
    own_move h.lst (fun k e => hk k (by obtain ⟨c, hc⟩ := own_typed h.lst k e; exact blk_lt hc) (.inr (.inr (.inr e)))), h.bp, h.bs, h.bh, h.ne, h.nb, h.sn⟩
theorem MS.below {w w' : World} {base p sb hb : Nat} {st : List Int} {n : Nat} {rs : List Reg} {lv : Value} (h : MS w base p sb hb st n rs lv) (hb' : Below w.heap.size w w') : MS w' base p sb hb st n rs lv := h.step (fun k hk _ => hb'.block k hk)
theorem MS.c0 {w : World} {base p sb hb : Nat} {st : List Int} {n : Nat} {rs : List Reg} {lv : Value} (h : MS w base p sb hb st n rs lv) : w.cell? ⟨p, 0, none⟩ = some (.slice (some ⟨sb, 0, none⟩) st.length st.length) := (blk_cell h.box 0).trans rfl
theorem MS.c1 {w : World} {base p sb hb : Nat} {st : List Int} {n : Nat} {rs : List Reg} {lv : Value} (h : MS w base p sb hb st n rs lv) : w.cell? ⟨p, 1, none⟩ = some (.slice (some ⟨hb, 0, none⟩) n n) := (blk_cell h.box 1).trans rfl
theorem MS.c2 {w : World} {base p sb hb : Nat} {st : List Int} {n : Nat} {rs : List Reg} {lv : Value} (h : MS w base p sb hb st n rs lv) : w.cell? ⟨p, 2, none⟩ = some lv := (blk_cell h.box 2).trans rfl
/-! ### The loops' values -/
theorem wrap_id (x : Int) (h0 : -9223372036854775808 ≤ x) (h1 : x ≤ 9223372036854775807) : wrap64 x = x := by unfold wrap64; omega
theorem tot_take_le (rs : List Reg) (k : Nat) : tot (rs.take k) ≤ tot rs := by
  have h := tot_append (rs.take k) (rs.drop k)
  rw [List.take_append_drop] at h
  omega
theorem tot_take_succ (rs : List Reg) (k : Nat) (h : k < rs.length) : tot (rs.take (k + 1)) = tot (rs.take k) + rs[k].2.length := by
  rw [List.take_succ_eq_append_getElem h, tot_append, tot_cons]
  show _ + (_ + 0) = _
  omega
theorem rd_lay (o : Nat) (rs : List Reg) (k : Nat) (h : k < rs.length) : rd_T50 (lay o rs) (k : Int) = ⟨rs[k].1, ((o + tot (rs.take k) : Nat) : Int), (rs[k].2.length : Int)⟩ := by
  show (lay o rs).getD (k : Int).toNat z50 = _
  exact lay_get o rs k h
theorem used_from (rs : List Reg) (hb : tot rs ≤ 65536) (hl : rs.length ≤ 1000000000) : ∀ (d k : Nat), k + d = rs.length → mem_Mem_Used.l0 (d + 1) ((tot (rs.take k) : Nat) : Int) (lay 0 rs) ((lay 0 rs).length : Int) (k : Int) = some ((tot rs : Nat) : Int)
  | 0, k, hk => by
    simp only [mem_Mem_Used.l0, lay_length]
    rw [if_neg (by omega), List.take_of_length_le (by omega)]
  | d + 1, k, hk => by
    have hlt : k < rs.length := by omega
    unfold mem_Mem_Used.l0
    rw [lay_length, if_pos (by omega), if_pos (by omega), if_pos (by omega), rd_lay 0 rs k hlt]
    have h1 := tot_take_le rs (k + 1)
    have h2 := tot_take_succ rs k hlt
    dsimp only
    rw [wrap_id _ (by omega) (by omega), wrap_id _ (by omega) (by omega)]
    have ih := used_from rs hb hl d (k + 1) (by omega)
    rw [lay_length, h2] at ih
    exact_mod_cast ih
theorem used_val (rs : List Reg) (hb : tot rs ≤ 65536) (hl : rs.length ≤ 1000000000) : mem_Mem_Used.f (rs.length + 1) (lay 0 rs) = some ((tot rs : Nat) : Int) := used_from rs hb hl rs.length 0 (by omega)
theorem at_from (rs : List Reg) (hl : rs.length ≤ 1000000000) (id : Int) (m : Nat) (hm : m < rs.length) (he : rs[m].1 = id) (hn : ∀ j (h : j < rs.length), j < m → rs[j].1 ≠ id) : ∀ (d k : Nat), k + d = m → mem_region_21.l0 (d + 1) (lay 0 rs) id ((lay 0 rs).length : Int) (k : Int) = some (m : Int)
  | 0, k, hk => by
    obtain rfl : k = m := by omega
    unfold mem_region_21.l0
    rw [lay_length, if_pos (by omega), if_pos (by omega), if_pos (by omega), rd_lay 0 rs k hm, if_pos he]
  | d + 1, k, hk => by
    have hlt : k < rs.length := by omega
    unfold mem_region_21.l0
    rw [lay_length, if_pos (by omega), if_pos (by omega), if_pos (by omega), rd_lay 0 rs k hlt, if_neg (hn k hlt (by omega)), wrap_id _ (by omega) (by omega)]
    have ih := at_from rs hl id m hm he hn d (k + 1) (by omega)
    rw [lay_length] at ih
    exact_mod_cast ih
theorem at_yes (rs : List Reg) (hl : rs.length ≤ 1000000000) (id : Int) (m : Nat) (hm : m < rs.length) (he : rs[m].1 = id) (hn : ∀ j (h : j < rs.length), j < m → rs[j].1 ≠ id) : mem_region_21.f (m + 1) (lay 0 rs) id = some (m : Int) := at_from rs hl id m hm he hn m 0 (by omega)
theorem at_from_no (rs : List Reg) (hl : rs.length ≤ 1000000000) (id : Int) (hn : ∀ j (h : j < rs.length), rs[j].1 ≠ id) : ∀ (d k : Nat), k + d = rs.length → mem_region_21.l0 (d + 1) (lay 0 rs) id ((lay 0 rs).length : Int) (k : Int) = some (-1)
  | 0, k, hk => by
    unfold mem_region_21.l0
    rw [lay_length, if_neg (by omega)]
  | d + 1, k, hk => by
    have hlt : k < rs.length := by omega
    unfold mem_region_21.l0
    rw [lay_length, if_pos (by omega), if_pos (by omega), if_pos (by omega), rd_lay 0 rs k hlt, if_neg (hn k hlt), wrap_id _ (by omega) (by omega)]
    have ih := at_from_no rs hl id hn d (k + 1) (by omega)
    rw [lay_length] at ih
    exact_mod_cast ih
theorem at_no (rs : List Reg) (hl : rs.length ≤ 1000000000) (id : Int) (hn : ∀ j (h : j < rs.length), rs[j].1 ≠ id) : mem_region_21.f (rs.length + 1) (lay 0 rs) id = some (-1) := at_from_no rs hl id hn rs.length 0 (by omega)
end Go.Proofs.Ytgpekomaoeockaa.MemC
