/- A contract of slices.Delete for one element. -/
import Derived.Test.YtgpekomaoeockaaMemE1
import Derived.Deep.RegionLaw

namespace Go.Proofs.Ytgpekomaoeockaa.MemC
open Go.RowKit Go.Proofs.YtgpekomaoeockaaW.PrintWords Go.Proofs.YtgpekomaoeockaaW.PrintLast Go.Proofs.YtgpekomaoeockaaW.PrintMore Go.Proofs.Ytgpekomaoeockaa.QMemSizes
set_option linter.unusedVariables false
theorem run_clear_one (w : World) (ty : TypeId) (g o c : Nat) (hc : ∀ j, j < 3 → (w.cell? ⟨g, o + j, none⟩).isSome = true) (hf : ∀ j, j < 3 → w.frozen? ⟨g, o + j, none⟩ = false) :
    (Builtin.clear_ #[46] ty #[.slice (some ⟨g, o, none⟩) 1 c]).run Try.prog w = .ok (.tuple #[]) (w.setCells g o [.int .i64 0, .int .i64 0, .int .i64 0]) := by
  have hv : ∀ w, (zeroValue 50).run Try.prog w = .ok (.agg #[.int .i64 0, .int .i64 0, .int .i64 0]) w := fun w => by kernel_rfl
  have hz : (Builtin.zeroCells (Value.agg #[.int .i64 0, .int .i64 0, .int .i64 0]).cells 1).toList = [.int .i64 0, .int .i64 0, .int .i64 0] := by kernel_rfl
  have hst := run_storeCells_cells (P := Try.prog) g o [.int .i64 0, .int .i64 0, .int .i64 0] 0 w (by simpa using hc) (by simpa using hf) (by simp [Value.oneCell'])
  simp only [Nat.add_zero] at hst
  simp [Builtin.clear_, run_underlying Try.underlying46, hv, hz, hst]
set_option maxHeartbeats 8000000 in
set_option maxRecDepth 100000 in
/-- slices.Delete of one element. -/
theorem delete.calls (g N cap k : Nat) (xs : List Value) (cur : Array Value) (w : World) (hg : w.heap[g]? = some (.cells cur 50 (0, 0))) (hcs : cur.size = cap * 3) (htk : cur.toList.take (N * 3) = xs) (hx1 : ∀ u ∈ xs, u.oneCell' = true) (hN : N ≤ cap) (hcap : cap ≤ 9223372036854775807) (hk : k < N) :
    Calls Try.prog 20 #[.slice (some ⟨g, 0, none⟩) N cap, .int .i64 (k : Int), .int .i64 ((k : Int) + 1)] w fun e w' => e = .returned (.slice (some ⟨g, 0, none⟩) (N - 1) cap) ∧ ∃ cur', w'.heap[g]? = some (.cells cur' 50 (0, 0)) ∧ cur'.size = cap * 3 ∧ cur'.toList.take ((N - 1) * 3) = xs.take (k * 3) ++ xs.drop ((k + 1) * 3) ∧ w.grownBy w' (some g) := by
  obtain ⟨i0, hi0, hz0, hz1, hz2⟩ := info_parts info50
  obtain ⟨news, hnews⟩ : ∃ news, news = xs.drop ((k + 1) * 3) := ⟨_, rfl⟩
  have hxl : xs.length = N * 3 := by rw [← htk, List.length_take, Array.length_toList]; omega
  have hnl : news.length = (N - (k + 1)) * 3 := by rw [hnews, List.length_drop, hxl]; omega
  have hcell : ∀ q, q < cap * 3 → (w.cell? ⟨g, q, none⟩).isSome = true := fun q hq => by rw [blk_cell hg, Array.getElem?_eq_getElem (by omega)]; rfl
  have hget : ∀ q u, xs[q]? = some u → w.cell? ⟨g, q, none⟩ = some u := fun q u hu => by
    rw [← htk, List.getElem?_take] at hu
    split at hu
    · rw [blk_cell hg, ← hu, Array.getElem?_toList]
    · cases hu
  obtain ⟨A, hA, hsrc⟩ : ∃ A : Addr, (if cap = k + 1 then some (⟨g, 0, none⟩ : Addr) else some ⟨g, (k + 1) * 3, none⟩) = some A ∧ Hid (∀ t u, news[t]? = some u → w.drew.cell? (A.add t) = some u) := by
    by_cases h : cap = k + 1
    · refine ⟨⟨g, 0, none⟩, by simp [h], fun t u hu => ?_⟩
      have h0 : news.length = 0 := by rw [hnl]; omega
      rw [List.length_eq_zero_iff.1 h0] at hu
      simp at hu
    · refine ⟨⟨g, (k + 1) * 3, none⟩, by simp [h], fun t u hu => ?_⟩
      rw [hnews, List.getElem?_drop] at hu
      have := hget _ u hu
      rw [Addr.add_lit]
      exact this
  have s1 : Hid (news.length = (N - (k + 1)) * 3) := hnl
  have s2 : Hid (∀ u ∈ news, u.oneCell' = true) := fun u hu => hx1 u (by rw [hnews] at hu; exact List.mem_of_mem_drop hu)
  have s3 : Hid (∀ t, t < news.length → (w.drew.cell? ⟨g, 0 + k * 3 + t, none⟩).isSome = true ∧ w.drew.frozen? ⟨g, 0 + k * 3 + t, none⟩ = false) := fun t ht => ⟨hcell _ (by omega), blk_frozen hg _⟩
  obtain ⟨W1, hW1⟩ : ∃ W1, W1 = w.drew.setCells g (0 + k * 3) news := ⟨_, rfl⟩
  obtain ⟨c1, e1, e2, e3⟩ := setCells_row news (0 + k * 3) w.drew cur hg (by omega)
  have hcl : ∀ ty, (Builtin.clear_ #[46] ty #[.slice (some ⟨g, (N - 1) * 3, none⟩) (N - (N - 1)) (cap - (N - 1))]).run Try.prog W1 = .ok (.tuple #[]) (W1.setCells g ((N - 1) * 3) [.int .i64 0, .int .i64 0, .int .i64 0]) := fun ty => by
    rw [hW1, show N - (N - 1) = 1 by omega]
    exact run_clear_one _ ty g _ _ (fun j hj => by rw [blk_cell e1, Array.getElem?_eq_getElem (by omega)]; rfl) (fun j hj => blk_frozen e1 _)
  obtain ⟨W2, hW2⟩ : ∃ W2, W2 = W1.setCells g ((N - 1) * 3) [.int .i64 0, .int .i64 0, .int .i64 0] := ⟨_, rfl⟩
  rw [← hW2] at hcl
  have hfin : Aside0 (∃ cur', W2.heap[g]? = some (.cells cur' 50 (0, 0)) ∧ cur'.size = cap * 3 ∧ cur'.toList.take ((N - 1) * 3) = xs.take (k * 3) ++ xs.drop ((k + 1) * 3) ∧ w.grownBy W2 (some g)) := by
    refine ⟨?_⟩
    obtain ⟨c2, f1, f2, f3⟩ := setCells_row [.int .i64 0, .int .i64 0, .int .i64 0] ((N - 1) * 3) W1 c1 (by rw [hW1]; exact e1) (by simp only [List.length_cons, List.length_nil]; omega)
    refine ⟨c2, by rw [hW2]; exact f1, by omega, ?_, ?_⟩
    · have l0 : (cur.toList.take (0 + k * 3)).length = k * 3 := by rw [List.length_take, Array.length_toList]; omega
      have l1 : (cur.toList.take (0 + k * 3) ++ news).length = (N - 1) * 3 := by rw [List.length_append, l0, hnl]; omega
      rw [f3, List.append_assoc, List.take_append_of_le_length (by rw [List.length_take, Array.length_toList]; omega), List.take_take, Nat.min_self, e3, List.take_append_of_le_length (by omega), List.take_of_length_le (by omega), hnews, ← htk, Nat.zero_add, List.take_take, Nat.min_eq_left (by omega)]
    · obtain ⟨a1, a2, a3, a4⟩ := setCells_same g news (0 + k * 3) w.drew
      obtain ⟨b1, b2, b3, b4⟩ := setCells_same g [.int .i64 0, .int .i64 0, .int .i64 0] ((N - 1) * 3) W1
      rw [← hW2] at b1 b2 b3 b4
      rw [← hW1] at a1 a2 a3 a4
      exact ⟨b1.trans a1, b2.trans a2, b3.trans a3, by rw [b4, a4]; exact Nat.le_refl _, fun q _ hq => by
        have hq' : q ≠ g := fun e => hq (by rw [e])
        rw [hW2, setCells_far _ _ q hq', hW1, setCells_far _ _ q hq']
        rfl⟩
  have hW := Aside0.mk hW1
  have hic : k ≤ cap := by omega
  have hjc : k + 1 ≤ cap := by omega
  have q1 : (0 ≤ (k : Int) + 1) = True := eq_true (by omega)
  have q2 : ((k : Int) + 1 ≤ (N : Int)) = True := eq_true (by omega)
  have hu46 := Try.underlying46
  have HI := Aside0.mk hi0
  have HI1 := Aside0.mk hz1
  clear hW1 hW2 e1 e2 e3 hcell hget hnews hnl hxl htk hcs hg hz0 hz1 hz2 hi0
  go_enter Try.func20, Try.ntmps20
  go_wp2_with fail
  go_region_law (refine step_append_room rfl (.tmp 22) (.tmp 25) 46 rfl 50 i0 3 hu46 HI.out HI1.out g 0 k cap (by simp [Act.eval, Act.put]) A (N - (k + 1)) (cap - (k + 1)) news (by simp [Act.eval, Act.put]) s1.out hsrc.out s2.out (by omega) s3.out ?_; rw [← hW.out])
  have q3 : k + (N - (k + 1)) = N - 1 := by omega
  rw [q3]
  clear q1 q2 q3
  have q4 : ((N - 1 : Nat) : Int) = (N : Int) - 1 := by omega
  go_wp2
  go_ret
  exact ⟨rfl, hfin.out⟩
end Go.Proofs.Ytgpekomaoeockaa.MemC
