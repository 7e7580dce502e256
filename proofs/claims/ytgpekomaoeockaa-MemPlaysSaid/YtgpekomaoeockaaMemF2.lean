/- What the copy of Drop leaves, in plain lists. -/
import Derived.Test.YtgpekomaoeockaaMemF1
namespace Go.Proofs.Ytgpekomaoeockaa.MemC
open Go.RowKit Go.Proofs.YtgpekomaoeockaaW.PrintWords Go.Proofs.YtgpekomaoeockaaW.PrintLast Go.Proofs.YtgpekomaoeockaaW.PrintMore Go.Proofs.Ytgpekomaoeockaa.QMemSizes
set_option linter.unusedVariables false
def without (rs : List Reg) (k : Nat) : List Reg := rs.take k ++ rs.drop (k + 1)
theorem flat_split (rs : List Reg) (k : Nat) (hk : k < rs.length) : flat rs = flat (rs.take k) ++ (rs[k].2 ++ flat (rs.drop (k + 1))) := by
  have e : rs = rs.take k ++ (rs[k] :: rs.drop (k + 1)) := by rw [List.getElem_cons_drop, List.take_append_drop]
  rw [congrArg flat e, flat_append, flat_cons]
theorem tot_split (rs : List Reg) (k : Nat) (hk : k < rs.length) : tot rs = tot (rs.take k) + (rs[k].2.length + tot (rs.drop (k + 1))) := by
  unfold tot
  rw [flat_split rs k hk, List.length_append, List.length_append]
theorem tot_without (rs : List Reg) (k : Nat) (hk : k < rs.length) : tot (without rs k) + rs[k].2.length = tot rs := by
  rw [tot_split rs k hk, without, tot_append]
  omega
theorem without_length (rs : List Reg) (k : Nat) (hk : k < rs.length) : (without rs k).length = rs.length - 1 := by
  rw [without, List.length_append, List.length_take, List.length_drop]
  omega
def shift (d : Nat) (x : S50) : S50 := ⟨x.f0, x.f1 + (d : Int), x.f2⟩
theorem lay_shift (o d : Nat) (rs : List Reg) : lay (o + d) rs = (lay o rs).map (shift d) := by
  induction rs generalizing o with
  | nil => rfl
  | cons x r ih =>
    obtain ⟨i, c⟩ := x
    simp only [lay, List.map_cons, shift]
    rw [show o + d + c.length = o + c.length + d by omega, ih]
    simp
/-- What the list holds behind Delete, where i of its elements have been moved. -/
def half (rs : List Reg) (d i : Nat) : List S50 := (lay 0 rs).take i ++ ((lay 0 rs).drop i).map (shift d)
theorem half_length (rs : List Reg) (d i : Nat) : (half rs d i).length = rs.length := by
  unfold half
  rw [List.length_append, List.length_map, ← List.length_append, List.take_append_drop, lay_length]
theorem half_start (rs : List Reg) (k : Nat) (hk : k < rs.length) : (lay 0 rs).take k ++ (lay 0 rs).drop (k + 1) = half (without rs k) rs[k].2.length k := by
  have e : rs = rs.take k ++ (rs[k] :: rs.drop (k + 1)) := by rw [List.getElem_cons_drop, List.take_append_drop]
  have hl : (lay 0 (rs.take k)).length = k := by rw [lay_length, List.length_take]; omega
  have h1 : lay 0 rs = lay 0 (rs.take k) ++ (⟨rs[k].1, ((tot (rs.take k) : Nat) : Int), (rs[k].2.length : Int)⟩ :: lay (tot (rs.take k) + rs[k].2.length) (rs.drop (k + 1))) := by
    rw [congrArg (lay 0) e, lay_append, Nat.zero_add]
    rfl
  have h2 : lay 0 (without rs k) = lay 0 (rs.take k) ++ lay (tot (rs.take k)) (rs.drop (k + 1)) := by rw [without, lay_append, Nat.zero_add]
  unfold half
  rw [h1, h2, List.take_left' hl, List.take_left' hl, List.drop_left' hl, ← List.drop_drop, List.drop_left' hl, List.drop_succ_cons, List.drop_zero, lay_shift]
theorem half_end (rs : List Reg) (d : Nat) : half rs d rs.length = lay 0 rs := by
  unfold half
  rw [List.take_of_length_le (by rw [lay_length]; exact Nat.le_refl _), List.drop_eq_nil_of_le (by rw [lay_length]; exact Nat.le_refl _), List.map_nil, List.append_nil]
theorem cells50_take (l : List S50) (k : Nat) : (cells50 l).take (k * 3) = cells50 (l.take k) := by
  induction l generalizing k with
  | nil => simp [cells50]
  | cons x r ih =>
    cases k with
    | zero => simp [cells50]
    | succ k =>
      rw [show (k + 1) * 3 = k * 3 + 3 by omega]
      simp only [cells50, List.flatMap_cons, List.take_succ_cons] at ih ⊢
      simp only [List.cons_append, List.nil_append, List.take_succ_cons, ih]
theorem cells50_drop (l : List S50) (k : Nat) : (cells50 l).drop (k * 3) = cells50 (l.drop k) := by
  induction l generalizing k with
  | nil => simp [cells50]
  | cons x r ih =>
    cases k with
    | zero => simp [cells50]
    | succ k =>
      rw [show (k + 1) * 3 = k * 3 + 3 by omega]
      simp only [cells50, List.flatMap_cons, List.drop_succ_cons] at ih ⊢
      simp only [List.cons_append, List.nil_append, List.drop_succ_cons, ih]
theorem cells50_cons (x : S50) (r : List S50) : cells50 (x :: r) = .int .i64 x.f0 :: .int .i64 x.f1 :: .int .i64 x.f2 :: cells50 r := rfl
/-- The i-th element of the half-moved list. -/
theorem half_get (rs : List Reg) (d i : Nat) (hi : i < rs.length) : half rs d i = (lay 0 rs).take i ++ (shift d ⟨rs[i].1, ((tot (rs.take i) : Nat) : Int), (rs[i].2.length : Int)⟩ :: ((lay 0 rs).drop (i + 1)).map (shift d)) := by
  have hl : i < (lay 0 rs).length := by rw [lay_length]; exact hi
  have h1 : (lay 0 rs)[i] = ⟨rs[i].1, ((tot (rs.take i) : Nat) : Int), (rs[i].2.length : Int)⟩ := by
    have := lay_get 0 rs i hi
    rw [List.getD_eq_getElem?_getD, List.getElem?_eq_getElem hl, Nat.zero_add] at this
    exact this
  unfold half
  rw [← List.getElem_cons_drop hl, List.map_cons, h1]
theorem half_succ (rs : List Reg) (d i : Nat) (hi : i < rs.length) : half rs d (i + 1) = (lay 0 rs).take i ++ (⟨rs[i].1, ((tot (rs.take i) : Nat) : Int), (rs[i].2.length : Int)⟩ :: ((lay 0 rs).drop (i + 1)).map (shift d)) := by
  have hl : i < (lay 0 rs).length := by rw [lay_length]; exact hi
  have h1 : (lay 0 rs)[i] = ⟨rs[i].1, ((tot (rs.take i) : Nat) : Int), (rs[i].2.length : Int)⟩ := by
    have := lay_get 0 rs i hi
    rw [List.getD_eq_getElem?_getD, List.getElem?_eq_getElem hl, Nat.zero_add] at this
    exact this
  unfold half
  rw [List.take_succ_eq_append_getElem hl, h1, List.append_assoc]
  rfl
theorem half_cell (rs : List Reg) (d i : Nat) (hi : i < rs.length) : (cells50 (half rs d i))[i * 3 + 1]? = some (.int .i64 (((tot (rs.take i) : Nat) : Int) + (d : Int))) := by
  have hl : (cells50 ((lay 0 rs).take i)).length = i * 3 := by rw [cells50_length, List.length_take, lay_length]; omega
  rw [half_get rs d i hi, cells50_append, List.getElem?_append_right (by omega), hl, cells50_cons, show i * 3 + 1 - i * 3 = 1 by omega]
  rfl
theorem half_set (rs : List Reg) (d i : Nat) (hi : i < rs.length) : (cells50 (half rs d i)).set (i * 3 + 1) (.int .i64 ((tot (rs.take i) : Nat) : Int)) = cells50 (half rs d (i + 1)) := by
  have hl : (cells50 ((lay 0 rs).take i)).length = i * 3 := by rw [cells50_length, List.length_take, lay_length]; omega
  rw [half_get rs d i hi, half_succ rs d i hi, cells50_append, cells50_append, List.set_append_right _ _ (by omega), hl, cells50_cons, cells50_cons, show i * 3 + 1 - i * 3 = 1 by omega]
  rfl
/-- copy: the cells behind region k have moved over it. -/
theorem MS.copied {w : World} {base p sb hb : Nat} {st : List Int} {n : Nat} {rs : List Reg} {lv : Value} (h : MS w base p sb hb st n rs lv) (k : Nat) (hk : k < rs.length) :
    ∃ j2, (w.setCells hb (tot (rs.take k)) (nums .i32 (flat (rs.drop (k + 1))))).heap[hb]? = some (.cells (nums .i32 (flat (without rs k) ++ j2)).toArray 21 (0, 0)) ∧ tot (without rs k) + j2.length = n := by
  obtain ⟨j, h1, h2⟩ := h.hea
  have ht := tot_split rs k hk
  have hw := tot_without rs k hk
  obtain ⟨cur, g1, g2, g3⟩ := setCells_row (nums .i32 (flat (rs.drop (k + 1)))) (tot (rs.take k)) w _ h1 (by simp only [List.size_toArray, nums_len, List.length_append]; show tot _ + tot _ ≤ tot rs + _; omega)
  refine ⟨(flat (without rs k) ++ (flat rs ++ j).drop (tot (without rs k))).drop (tot (without rs k)), ?_, ?_⟩
  · rw [g1]
    congr 2
    have e : cur.toList = nums .i32 (flat (without rs k) ++ (flat (without rs k) ++ (flat rs ++ j).drop (tot (without rs k))).drop (tot (without rs k))) := by
      have g3' : cur.toList = (nums .i32 (flat rs ++ j)).take (tot (rs.take k)) ++ nums .i32 (flat (rs.drop (k + 1))) ++ (nums .i32 (flat rs ++ j)).drop (tot (rs.take k) + (nums .i32 (flat (rs.drop (k + 1)))).length) := g3
      have l1 : (nums .i32 (flat (rs.take k))).length = tot (rs.take k) := nums_len _ _
      have l3 : (flat (without rs k)).length = tot (without rs k) := rfl
      have ef : flat (without rs k) = flat (rs.take k) ++ flat (rs.drop (k + 1)) := flat_append _ _
      have e1 : (nums .i32 (flat rs ++ j)).take (tot (rs.take k)) = nums .i32 (flat (rs.take k)) := by
        rw [flat_split rs k hk, List.append_assoc, nums_app, List.take_left' l1]
      have e2 : (nums .i32 (flat rs ++ j)).drop (tot (rs.take k) + (nums .i32 (flat (rs.drop (k + 1)))).length) = nums .i32 ((flat rs ++ j).drop (tot (without rs k))) := by
        rw [nums_len, show tot (without rs k) = tot (rs.take k) + (flat (rs.drop (k + 1))).length by rw [without, tot_append]; rfl]
        exact (List.map_drop).symm
      rw [g3', e1, e2, List.drop_left' l3, nums_app .i32 (flat (without rs k)), ef, nums_app .i32 (flat (rs.take k))]
    rw [← e]
  · have l3 : (flat (without rs k)).length = tot (without rs k) := rfl
    rw [List.drop_left' l3, List.length_drop, List.length_append]
    show tot (without rs k) + (tot rs + _ - _) = _
    omega
/-- The source's cells. -/
theorem MS.source {w : World} {base p sb hb : Nat} {st : List Int} {n : Nat} {rs : List Reg} {lv : Value} (h : MS w base p sb hb st n rs lv) (k : Nat) (hk : k < rs.length) (j : Nat) (v : Value) (hj : (nums .i32 (flat (rs.drop (k + 1))))[j]? = some v) :
    w.cell? ⟨hb, tot (rs.take k) + rs[k].2.length + j, none⟩ = some v := by
  obtain ⟨j0, h1, h2⟩ := h.hea
  rw [blk_cell h1, List.getElem?_toArray, flat_split rs k hk]
  have l1 : (nums .i32 (flat (rs.take k) ++ rs[k].2)).length = tot (rs.take k) + rs[k].2.length := by rw [nums_len, List.length_append]; rfl
  rw [show flat (rs.take k) ++ (rs[k].2 ++ flat (rs.drop (k + 1))) ++ j0 = (flat (rs.take k) ++ rs[k].2) ++ (flat (rs.drop (k + 1)) ++ j0) by simp only [List.append_assoc], nums_app, List.getElem?_append_right (by omega), l1, show tot (rs.take k) + rs[k].2.length + j - (tot (rs.take k) + rs[k].2.length) = j by omega, nums_app]
  have hjl := (List.getElem?_eq_some_iff.1 hj).1
  rw [List.getElem?_append_left hjl]
  exact hj
theorem MS.target {w : World} {base p sb hb : Nat} {st : List Int} {n : Nat} {rs : List Reg} {lv : Value} (h : MS w base p sb hb st n rs lv) (q : Nat) (hq : q < n) : (w.cell? ⟨hb, q, none⟩).isSome = true := by
  obtain ⟨j0, h1, h2⟩ := h.hea
  rw [blk_cell h1, List.getElem?_toArray, List.getElem?_eq_getElem (by rw [nums_len, List.length_append]; show _ < tot rs + _; omega)]
  rfl
theorem nums_one (k : IntKind) (xs : List Int) : ∀ u ∈ nums k xs, u.oneCell' = true := by
  intro u hu
  obtain ⟨x, _, rfl⟩ := List.mem_map.1 hu
  rfl
/-- copy(m.heap[from:], m.heap[from+size:used]). -/
theorem MS.copy_run {w : World} {base p sb hb : Nat} {st : List Int} {n : Nat} {rs : List Reg} {lv : Value} (h : MS w base p sb hb st n rs lv) (k : Nat) (hk : k < rs.length) (ty : TypeId) :
    (Builtin.copy_ #[29, 29] ty #[.slice (if n = tot (rs.take k) then some ⟨hb, 0, none⟩ else some ⟨hb, tot (rs.take k), none⟩) (n - tot (rs.take k)) (n - tot (rs.take k)), .slice (if n = tot (rs.take k) + rs[k].2.length then some ⟨hb, 0, none⟩ else some ⟨hb, tot (rs.take k) + rs[k].2.length, none⟩) (tot rs - (tot (rs.take k) + rs[k].2.length)) (n - (tot (rs.take k) + rs[k].2.length))]).run Try.prog w
      = .ok (goInt ((tot (rs.drop (k + 1)) : Nat) : Int)) (w.setCells hb (tot (rs.take k)) (nums .i32 (flat (rs.drop (k + 1))))) := by
  have ht := tot_split rs k hk
  have hn := h.tn
  have hs21 : (Try.prog.info? 21).map (·.size) = some 1 := by kernel_rfl
  have hl : (nums .i32 (flat (rs.drop (k + 1)))).length = tot (rs.drop (k + 1)) := nums_len _ _
  rw [show tot rs - (tot (rs.take k) + rs[k].2.length) = tot (rs.drop (k + 1)) by omega]
  rcases Nat.eq_zero_or_pos (tot (rs.drop (k + 1))) with h0 | h0
  · rw [List.length_eq_zero_iff.1 (hl.trans h0), h0]
    exact run_copy_none w 29 29 ty 21 _ _ _ _ _ _ Try.underlying29 hs21 (Nat.min_eq_left (Nat.zero_le _))
  · rw [if_neg (by omega), if_neg (by omega)]
    have := run_copy_cells (P := Try.prog) w 29 29 ty 21 hb (tot (rs.take k)) (n - tot (rs.take k)) (n - tot (rs.take k)) ⟨hb, tot (rs.take k) + rs[k].2.length, none⟩ (tot (rs.drop (k + 1))) (n - (tot (rs.take k) + rs[k].2.length)) (nums .i32 (flat (rs.drop (k + 1)))) Try.underlying29 hs21
      (by rw [hl]; exact (Nat.min_eq_left (by omega)).symm) (fun j v hj => by rw [Addr.add_lit]; exact h.source k hk j v hj) (fun j hj => h.target _ (by omega)) (fun j hj => by obtain ⟨j0, h1, _⟩ := h.hea; exact blk_frozen h1 _) (nums_one _ _)
    rw [hl] at this
    exact this
end Go.Proofs.Ytgpekomaoeockaa.MemC
