/- What the bulk of an argument says of its length; each theorem names its conditions. -/
import Derived.Test.YtbbpfeljcnkcdaaRows
import Derived.Test.YtbbpfeljcnkcdaaOpen
namespace Go.Proofs.Ytbbpfeljcnkcdaa.Bulk
open Go.RowKit Go.WideShapes Go.ChangeShapes
theorem one_le {H : Type} (d : DataW H) : 1 ≤ Rows.uptoBulk d := by
  cases d with
  | lit l => cases l <;> simp [Rows.uptoBulk]
  | nil => simp [Rows.uptoBulk]
  | ptr d => simp [Rows.uptoBulk]
  | slice elems spare => simp [Rows.uptoBulk]
  | agg parts => simp [Rows.uptoBulk]
  | iface t d => simp [Rows.uptoBulk]
  | map entries => simp [Rows.uptoBulk]
  | held h => simp [Rows.uptoBulk]
theorem part_le {H : Type} {d : DataW H} {l : List (DataW H)} (h : d ∈ l) : Rows.uptoBulk d ≤ Rows.uptoBulkAll l := by
  induction l with
  | nil => cases h
  | cons x r ih =>
    simp only [Rows.uptoBulkAll]
    cases List.mem_cons.1 h with
    | inl e => subst e; omega
    | inr e => have := ih e; omega
theorem part_at {H : Type} {d : DataW H} {l : List (DataW H)} {i : Nat} (h : l[i]? = some d) : Rows.uptoBulk d ≤ Rows.uptoBulkAll l := part_le (List.mem_of_getElem? h)
theorem length_le {H : Type} (l : List (DataW H)) : l.length ≤ Rows.uptoBulkAll l := by
  induction l with
  | nil => simp [Rows.uptoBulkAll]
  | cons x r ih => have := one_le x; simp only [Rows.uptoBulkAll, List.length_cons]; omega
theorem len_trod {H : Type} {enc : TypeId × Value → H} {P : Program} {w : World} {base n : Nat} {t e : TypeId} {A : Option Addr} {len cap : Nat} {y : DataW H × List MemPlace} (ht : P.underlying t = some (.slice e))
    (h : DataW.trod enc P w base (fun _ => true) true n t [.slice A len cap] = some y) : len ≤ Rows.uptoBulk y.1 := by
  rcases DataW.trod_slice ht h with ⟨hcs, _⟩ | ⟨a, l, c, elems, rest, m, _, hcs, hy, _, _, _, hlen, _⟩
  · injection hcs with hcs _
    injection hcs with _ hl _
    omega
  · injection hcs with hcs _
    injection hcs with _ hl _
    rw [hy]
    have h1 := length_le (elems.map (·.1))
    have h2 := length_le (rest.map (·.1))
    simp only [Rows.uptoBulk, List.length_map] at *
    omega
theorem len_arg {H : Type} {enc : TypeId × Value → H} {P : Program} {w : World} {t e : TypeId} {A : Option Addr} {len cap : Nat} {d : DataW H} {ps : List MemPlace} (ht : P.underlying t = some (.slice e))
    (h : DataW.Trod enc P w 0 (fun _ => true) true t (.slice A len cap) d ps) : len ≤ Rows.uptoBulk d := by
  obtain ⟨fuel, hf⟩ := h
  exact len_trod ht hf
theorem len_field {H : Type} {enc : TypeId × Value → H} {P : Program} {w : World} {t s e : TypeId} {fs : Array Field} {A : Option Addr} {len cap : Nat} {cs : List Value} {d : DataW H} {ps : List MemPlace} {f : Field} (ht : P.underlying t = some (.struct fs)) (hs : P.underlying s = some (.slice e)) (i : Nat) (hf : fs[i]? = some f)
    (hft : f.type = s ∧ P.cellsOf s = 1) (h : DataW.Trod enc P w 0 (fun _ => true) true t (.agg cs.toArray) d ps) (hc : cs[f.offset]? = some (.slice A len cap)) : len ≤ Rows.uptoBulk d := by
  obtain ⟨fuel, hh⟩ := h
  obtain ⟨xs, n, _, hxd, hl, hxl, he⟩ := DataW.trod_struct ht hh
  have e1 := he i f hf
  have hil : i < xs.length := by
    have : i < fs.size := by
      have := (Array.getElem?_eq_some_iff.1 hf).1
      exact this
    omega
  rw [hft.1, hft.2, List.getElem?_eq_getElem hil] at e1
  have e2 : ((cs.drop f.offset).take 1) = [.slice A len cap] := by
    obtain ⟨hlt, hv⟩ := List.getElem?_eq_some_iff.1 hc
    rw [List.drop_eq_getElem_cons hlt, hv]; rfl
  have e3 : (Value.agg cs.toArray).cells.toList = cs := rfl
  rw [e3, e2] at e1
  have h1 := len_trod hs e1
  injection hxd with hd _
  rw [hd]
  have h2 : Rows.uptoBulk xs[i].1 ≤ Rows.uptoBulkAll (xs.map (·.1)) := part_le (List.mem_map.2 ⟨_, List.getElem_mem hil, rfl⟩)
  simp only [Rows.uptoBulk]
  omega
end Go.Proofs.Ytbbpfeljcnkcdaa.Bulk
