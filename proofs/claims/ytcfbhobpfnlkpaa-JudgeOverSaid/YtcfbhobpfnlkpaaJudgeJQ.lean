/- The array of shapes as a row. -/
import Derived.Test.YtcfbhobpfnlkpaaJudgeJN
namespace Go.Proofs.Ytcfbhobpfnlkpaa.Flow
open Go.RowKit Go.Proofs.Ytcfbhobpfnlkpaa.QJudgeFound Go.Proofs.YtcfbhobpfnlkpaaW.PrintWords Go.Proofs.YtcfbhobpfnlkpaaW.PrintLast Go.Proofs.Ytcfbhobpfnlkpaa.Chain
set_option linter.unusedVariables false
set_option linter.unusedSimpArgs false
def unS (s : Shp) : S44 := ⟨s.1, s.2⟩
theorem shp_unS (s : Shp) : shp (unS s) = s := rfl
theorem map_unS (sh : List Shp) : (sh.map unS).map shp = sh := by
  rw [List.map_map]
  have : shp ∘ unS = id := funext fun s => rfl
  rw [this, List.map_id]
theorem ShW.row {w : World} {B a t : Nat} {sh : List Shp} {td : List Bool} (h : ShW w B a t sh td) (ha : B ≤ a) (hl : sh.length ≤ 1000) : Kd.F k44 w (fun k => B ≤ k) (some ⟨a, 0, none⟩) sh.length (sh.map unS) := by
  obtain ⟨vs, h1, h2, h3⟩ := h.shb
  intro w' hw
  have h2' := (hw a ha (blk_lt h2)).trans h2
  refine ⟨by rw [List.length_map], by omega, fun _ => ⟨_, rfl, fun j p hj => ?_⟩⟩
  rw [List.getElem?_map] at hj
  obtain ⟨s, hs, rfl⟩ := Option.map_eq_some_iff.1 hj
  obtain ⟨hjl, hs⟩ := List.getElem?_eq_some_iff.1 hs
  subst hs
  have hv : j < vs.length := by omega
  have h4 := h3 j hjl
  have e : vs.getD j undef = vs[j] := by simp [List.getD_eq_getElem?_getD, List.getElem?_eq_getElem hv]
  rw [e, shA_at hjl] at h4
  obtain ⟨A, c, e1, h5, h6⟩ := h4
  obtain ⟨c0, c1⟩ := shCells_at sh vs j hjl hv
  have hC := h6 w' (fun k hk hlt => hw k hk.1 hlt)
  refine ⟨[.bool (unS sh[j]).f0, .slice A (unS sh[j]).f1.length c], rfl, k44_mk w' (unS sh[j]) h5 hC, fun i u hu => ?_⟩
  rw [add_plain, blk_cell h2']
  match i, hu with
  | 0, hu =>
    injection hu with hu
    subst hu
    show (shCells sh vs).toArray[j * 2 + 0]? = _
    rw [Nat.add_zero, c0]
    rfl
  | 1, hu =>
    injection hu with hu
    subst hu
    show (shCells sh vs).toArray[j * 2 + 1]? = _
    rw [c1, e1]
    rfl
  | i + 2, hu => cases hu
theorem infoB : (Try.prog.info? 4).map (fun i => (i.zero, i.size, i.bytes)) = some (some (.bool false), 1, 1) := by kernel_rfl
theorem infoS : (Try.prog.info? 44).map (fun i => (i.zero, i.size, i.bytes)) = some (some (.agg #[.bool false, .slice none 0 0]), 2, 32) := by kernel_rfl
theorem run_makeB (w : World) (n : Nat) (hn : n ≤ 1000) : (Instr.makeSlice 68 (.int .i64 (n : Int)) (.int .i64 (n : Int))).run Try.prog w = .ok (.slice (some ⟨w.heap.size, 0, none⟩) n n) (w.alloc (.cells ((List.replicate n false).map Value.bool).toArray 4)) := by
  obtain ⟨i0, hi, hz0, hz1, hz2⟩ := info_parts infoB
  have hr := run_make (P := Try.prog) w 68 4 i0 (.bool false) Try.underlying68 hi hz0 .i64 .i64 (n : Int) (n : Int) (by omega) (by omega) (by rw [hz2]; omega) (by omega)
  rw [hz1] at hr
  simp only [Int.toNat_natCast, Nat.mul_one] at hr
  rw [hr]
  have e : madeCells (Value.bool false).cells n = ((List.replicate n false).map Value.bool).toArray := by
    apply Array.ext
    · simp [madeCells]
    · intro i h1 h2
      simp [madeCells, Value.cells, Nat.mod_one]
  rw [e]
theorem shCells_len : ∀ (sh : List Shp) (vs : List Value), sh.length = vs.length → (shCells sh vs).length = sh.length * 2
  | [], [], _ => rfl
  | s :: sh, v :: vs, h => by
    have := shCells_len sh vs (by simpa using h)
    show (Value.bool s.1 :: v :: shCells sh vs).length = _
    rw [List.length_cons, List.length_cons, this, List.length_cons]
    omega
  | [], _ :: _, h => by simp at h
  | _ :: _, [], h => by simp at h
theorem run_makeS (w : World) (n : Nat) (hn : n ≤ 1000) : (Instr.makeSlice 42 (.int .i64 (n : Int)) (.int .i64 (n : Int))).run Try.prog w = .ok (.slice (some ⟨w.heap.size, 0, none⟩) n n) (w.alloc (.cells (shCells (List.replicate n (false, [])) (List.replicate n (.slice none 0 0))).toArray 44)) := by
  obtain ⟨i0, hi, hz0, hz1, hz2⟩ := info_parts infoS
  have hr := run_make (P := Try.prog) w 42 44 i0 (.agg #[.bool false, .slice none 0 0]) Try.underlying42 hi hz0 .i64 .i64 (n : Int) (n : Int) (by omega) (by omega) (by rw [hz2]; omega) (by omega)
  rw [hz1] at hr
  simp only [Int.toNat_natCast] at hr
  rw [hr]
  have e : madeCells (Value.agg #[.bool false, .slice none 0 0]).cells (n * 2) = (shCells (List.replicate n (false, [])) (List.replicate n (.slice none 0 0))).toArray := by
    have hl := shCells_len (List.replicate n (false, [])) (List.replicate n (.slice none 0 0)) (by simp)
    rw [List.length_replicate] at hl
    apply Array.ext
    · simp [madeCells, hl]
    · intro i h1 h2
      have h3 : i < n * 2 := by rw [← hl]; simpa using h2
      have hk : i / 2 < n := by omega
      obtain ⟨c0, c1⟩ := shCells_at (List.replicate n (false, [])) (List.replicate n (.slice none 0 0)) (i / 2) (by simpa using hk) (by simpa using hk)
      rcases (by omega : i % 2 = 0 ∨ i % 2 = 1) with h4 | h4
      · have h5 : i / 2 * 2 = i := by omega
        rw [h5] at c0
        obtain ⟨h6, h7⟩ := Array.getElem?_eq_some_iff.1 c0
        rw [h7]
        simp [madeCells, Value.cells, h4]
      · have h5 : i / 2 * 2 + 1 = i := by omega
        rw [h5] at c1
        obtain ⟨h6, h7⟩ := Array.getElem?_eq_some_iff.1 c1
        rw [h7]
        simp [madeCells, Value.cells, h4]
  rw [e]
theorem sh0_cells {n : Nat} (hn : n ≠ 0) : (shCells (List.replicate n (false, [])) (List.replicate n (.slice none 0 0))).toArray.setIfInBounds 0 (.bool true) = (shCells (sh0 n) (List.replicate n (.slice none 0 0))).toArray := by
  obtain ⟨k, rfl⟩ : ∃ k, n = k + 1 := ⟨n - 1, by omega⟩
  unfold sh0
  rw [List.replicate_succ, List.replicate_succ]
  rfl
theorem ShW.start {w : World} {B a t n : Nat} (hn : n ≠ 0) (h1 : w.heap[a]? = some (.cells (shCells (sh0 n) (List.replicate n (.slice none 0 0))).toArray 44 (0, 0))) (h2 : w.heap[t]? = some (.cells ((td0 n).map Value.bool).toArray 4 (0, 0))) (hne : a ≠ t) : ShW w B a t (sh0 n) (td0 n) := by
  have hl : (sh0 n).length = n := by unfold sh0; rw [List.length_set, List.length_replicate]
  refine ⟨h2, ⟨List.replicate n (.slice none 0 0), by rw [List.length_replicate, hl], h1, fun i hi => ?_⟩, hne⟩
  have e : (List.replicate n (Value.slice none 0 0)).getD i undef = .slice none 0 0 := by
    rw [List.getD_eq_getElem?_getD, List.getElem?_replicate, if_pos (by omega)]
    rfl
  rw [e, sh0_at hn]
  split <;> exact RowX.nil _ _ _ _
end Go.Proofs.Ytcfbhobpfnlkpaa.Flow
