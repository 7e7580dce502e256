/- The typer's two arrays in memory. -/
import Derived.Test.YtcfbhobpfnlkpaaJudgeJK
namespace Go.Proofs.Ytcfbhobpfnlkpaa.Flow
open Go.RowKit Go.Proofs.Ytcfbhobpfnlkpaa.QJudgeFound Go.Proofs.YtcfbhobpfnlkpaaW.PrintWords Go.Proofs.YtcfbhobpfnlkpaaW.PrintLast Go.Proofs.Ytcfbhobpfnlkpaa.Chain
set_option linter.unusedVariables false
set_option linter.unusedSimpArgs false
def RowX (w : World) (B a t : Nat) (v : Value) (xs : List S39) : Prop := ∃ A c, v = .slice A xs.length c ∧ xs.length ≤ c ∧ Kd.F k39 w (fun k => B ≤ k ∧ k ≠ a ∧ k ≠ t) A xs.length xs
theorem RowX.below {w w' : World} {B a t : Nat} {v : Value} {xs : List S39} (h : RowX w B a t v xs) (hb : Below w.heap.size w w') : RowX w' B a t v xs := by
  obtain ⟨A, c, h1, h2, h3⟩ := h
  exact ⟨A, c, h1, h2, Kd.F_below h3 hb⟩
theorem RowX.set {w : World} {B a t : Nat} {v : Value} {xs : List S39} (h : RowX w B a t v xs) {p : Addr} (hp : p.block = a ∨ p.block = t) (u : Value) : RowX (w.setCell p u) B a t v xs := by
  obtain ⟨A, c, h1, h2, h3⟩ := h
  exact ⟨A, c, h1, h2, Kd.F_far h3 (fun k hk => by omega) u⟩
theorem RowX.form {w : World} {B a t : Nat} {v : Value} {xs : List S39} (h : RowX w B a t v xs) : ∃ A c, v = .slice A xs.length c ∧ xs.length ≤ c ∧ Kd.C k39 w A xs.length xs := by
  obtain ⟨A, c, h1, h2, h3⟩ := h
  exact ⟨A, c, h1, h2, Kd.F_now h3⟩
theorem RowX.ofT {w : World} {B B' a t : Nat} {v : Value} {xs : List S39} (h : RowT w B' v xs) (hB : B ≤ B') (ha : a < B') (ht : t < B') : RowX w B a t v xs := by
  obtain ⟨A, c, h1, h2, h3⟩ := h
  exact ⟨A, c, h1, h2, Kd.F_mono h3 (fun k hk => by omega)⟩
theorem RowX.nil (w : World) (B a t : Nat) : RowX w B a t (.slice none 0 0) [] := ⟨none, 0, rfl, Nat.le_refl _, Kd.F_nil _ _ _⟩
def shCells : List Shp → List Value → List Value
  | s :: sh, v :: vs => .bool s.1 :: v :: shCells sh vs
  | _, _ => []
theorem shCells_at : ∀ (sh : List Shp) (vs : List Value) (i : Nat) (h : i < sh.length) (h' : i < vs.length), (shCells sh vs).toArray[i * 2]? = some (.bool sh[i].1) ∧ (shCells sh vs).toArray[i * 2 + 1]? = some vs[i]
  | s :: sh, v :: vs, 0, _, _ => ⟨rfl, rfl⟩
  | s :: sh, v :: vs, i + 1, h, h' => by
    have h1 := shCells_at sh vs i (by simpa using h) (by simpa using h')
    have e : shCells (s :: sh) (v :: vs) = .bool s.1 :: v :: shCells sh vs := rfl
    rw [e]
    have e1 : (i + 1) * 2 = i * 2 + 1 + 1 := by omega
    rw [e1]
    simpa using h1
  | [], _, i, h, _ => absurd h (Nat.not_lt_zero _)
  | _ :: _, [], i, _, h' => absurd h' (Nat.not_lt_zero _)
theorem shCells_set : ∀ (sh : List Shp) (vs : List Value) (i : Nat) (s : Shp) (v : Value), i < sh.length → i < vs.length → ((shCells sh vs).toArray.setIfInBounds (i * 2) (.bool s.1)).setIfInBounds (i * 2 + 1) v = (shCells (sh.set i s) (vs.set i v)).toArray
  | y :: sh, z :: vs, 0, s, v, _, _ => rfl
  | y :: sh, z :: vs, i + 1, s, v, h, h' => by
    have h1 := shCells_set sh vs i s v (by simpa using h) (by simpa using h')
    have e : shCells (y :: sh) (z :: vs) = .bool y.1 :: z :: shCells sh vs := rfl
    have e' : shCells ((y :: sh).set (i + 1) s) ((z :: vs).set (i + 1) v) = .bool y.1 :: z :: shCells (sh.set i s) (vs.set i v) := rfl
    rw [e, e']
    have e1 : (i + 1) * 2 = i * 2 + 1 + 1 := by omega
    rw [e1]
    simp only [List.setIfInBounds_toArray, List.set_cons_succ] at h1 ⊢
    injection h1 with h1
    rw [h1]
  | [], _, i, _, _, h, _ => absurd h (Nat.not_lt_zero _)
  | _ :: _, [], i, _, _, _, h' => absurd h' (Nat.not_lt_zero _)
structure ShW (w : World) (B a t : Nat) (sh : List Shp) (td : List Bool) : Prop where
  tdb : w.heap[t]? = some (.cells (td.map Value.bool).toArray 4 (0, 0))
  shb : ∃ vs : List Value, vs.length = sh.length ∧ w.heap[a]? = some (.cells (shCells sh vs).toArray 44 (0, 0)) ∧ ∀ i, i < sh.length → RowX w B a t (vs.getD i undef) (shA sh i).2
  ne : a ≠ t
theorem ShW.below {w w' : World} {B a t : Nat} {sh : List Shp} {td : List Bool} (h : ShW w B a t sh td) (hb : Below w.heap.size w w') : ShW w' B a t sh td := by
  obtain ⟨vs, h1, h2, h3⟩ := h.shb
  exact ⟨blk_below h.tdb hb, ⟨vs, h1, blk_below h2 hb, fun i hi => (h3 i hi).below hb⟩, h.ne⟩
theorem shA_at {sh : List Shp} {i : Nat} (h : i < sh.length) : shA sh i = sh[i] := by unfold shA; simp [List.getD_eq_getElem?_getD, List.getElem?_eq_getElem h]
theorem ShW.at {w : World} {B a t : Nat} {sh : List Shp} {td : List Bool} (h : ShW w B a t sh td) {i : Nat} (hi : i < sh.length) :
    ∃ A c, w.cell? ⟨a, i * 2, none⟩ = some (.bool (shA sh i).1) ∧ w.cell? ⟨a, i * 2 + 1, none⟩ = some (.slice A (shA sh i).2.length c) ∧ (shA sh i).2.length ≤ c ∧ Kd.C k39 w A (shA sh i).2.length (shA sh i).2 := by
  obtain ⟨vs, h1, h2, h3⟩ := h.shb
  have hv : i < vs.length := by omega
  obtain ⟨c0, c1⟩ := shCells_at sh vs i hi hv
  have h4 := h3 i hi
  have e : vs.getD i undef = vs[i] := by simp [List.getD_eq_getElem?_getD, List.getElem?_eq_getElem hv]
  rw [e] at h4
  obtain ⟨A, c, e1, h5, h6⟩ := h4.form
  refine ⟨A, c, ?_, ?_, h5, h6⟩
  · rw [blk_cell h2, c0, shA_at hi]
  · rw [blk_cell h2, c1, e1]
theorem ShW.todo {w : World} {B a t : Nat} {sh : List Shp} {td : List Bool} (h : ShW w B a t sh td) {i : Nat} (hi : i < td.length) : w.cell? ⟨t, i, none⟩ = some (.bool (tdA td i)) := by
  rw [blk_cell h.tdb, tdA_at hi]
  simp [hi]
theorem ShW.frz {w : World} {B a t : Nat} {sh : List Shp} {td : List Bool} (h : ShW w B a t sh td) (i : Nat) : w.frozen? ⟨a, i, none⟩ = false ∧ w.frozen? ⟨t, i, none⟩ = false := by
  obtain ⟨vs, h1, h2, h3⟩ := h.shb
  exact ⟨blk_frozen h2 i, blk_frozen h.tdb i⟩
theorem ShW.lt {w : World} {B a t : Nat} {sh : List Shp} {td : List Bool} (h : ShW w B a t sh td) : a < w.heap.size ∧ t < w.heap.size := by
  obtain ⟨vs, h1, h2, h3⟩ := h.shb
  exact ⟨blk_lt h2, blk_lt h.tdb⟩
theorem map_set_bool (td : List Bool) (i : Nat) (b : Bool) : ((td.map Value.bool).toArray).setIfInBounds i (.bool b) = ((td.set i b).map Value.bool).toArray := by
  rw [List.setIfInBounds_toArray, List.map_set]
theorem ShW.set_td {w : World} {B a t : Nat} {sh : List Shp} {td : List Bool} (h : ShW w B a t sh td) (i : Nat) (b : Bool) : ShW (w.setCell ⟨t, i, none⟩ (.bool b)) B a t sh (td.set i b) := by
  obtain ⟨vs, h1, h2, h3⟩ := h.shb
  exact ⟨blk_put h.tdb i _ (map_set_bool td i b), ⟨vs, h1, blk_far h2 (p := ⟨t, i, none⟩) h.ne _, fun j hj => (h3 j hj).set (.inr rfl) _⟩, h.ne⟩
theorem ShW.set_sh {w : World} {B a t : Nat} {sh : List Shp} {td : List Bool} (h : ShW w B a t sh td) {i : Nat} (hi : i < sh.length) {s : Shp} {v : Value} (hv : RowX w B a t v s.2) :
    ShW ((w.setCell ⟨a, i * 2, none⟩ (.bool s.1)).setCell ⟨a, i * 2 + 1, none⟩ v) B a t (sh.set i s) td := by
  obtain ⟨vs, h1, h2, h3⟩ := h.shb
  have hvl : i < vs.length := by omega
  refine ⟨blk_far (blk_far h.tdb (p := ⟨a, i * 2, none⟩) (fun e => h.ne e.symm) _) (p := ⟨a, i * 2 + 1, none⟩) (fun e => h.ne e.symm) _, ⟨vs.set i v, by rw [List.length_set, List.length_set, h1], blk_put (blk_put h2 (i * 2) _ rfl) (i * 2 + 1) _ (shCells_set sh vs i s v hi hvl), fun j hj => ?_⟩, h.ne⟩
  rw [List.length_set] at hj
  rw [shA_set hi, List.getD_eq_getElem?_getD, List.getElem?_set]
  by_cases e : i = j
  · subst e
    rw [if_pos rfl, if_pos hvl, if_pos rfl]
    exact (hv.set (.inl rfl) _).set (.inl rfl) _
  · rw [if_neg e, if_neg e, ← List.getD_eq_getElem?_getD]
    exact ((h3 j hj).set (.inl rfl) _).set (.inl rfl) _
end Go.Proofs.Ytcfbhobpfnlkpaa.Flow
