/- How an argument of slices and structs is read as plain lists and structures: for any program, type by type; each theorem names its conditions. -/
import Derived.Test.YtcfbhobpfnlkpaaV
import Derived.ProofKit
import Derived.OpenShut
import Derived.Carry
import Derived.ChangeArms
import Derived.ChangeSlices
import Derived.WideShapes
namespace Go.Proofs.Ytcfbhobpfnlkpaa.Open
open Go.RowKit Go.Proofs.YtcfbhobpfnlkpaaW.PrintWords Go.WideShapes Go.ChangeShapes

def Rdr (P : Program) (t : TypeId) {α : Type} (d : Kd α) (G : α → Prop) : Prop :=
  ∀ (H : Type) (enc : TypeId × Value → H) (w : World) (base fuel : Nat) (cs : List Value) (x : DataW H × List MemPlace),
    DataW.trod enc P w base (fun _ => true) true fuel t cs = some x → (x.1.weights P t).all (· ≤ reachBytes) = true → ∃ a : α, d.K w a cs ∧ G a

def IntG (k : IntKind) (n : Int) : Prop := (Lit.int k n).wf = true
def RowG {α : Type} (B : Nat) (G : α → Prop) (xs : List α) : Prop := xs.length * B ≤ 140737488351232 ∧ ∀ x ∈ xs, G x
theorem reach_is : reachBytes = 140737488351232 := by rfl
theorem each_weight {H : Type} {P : Program} : ∀ {ts : List TypeId} {ds : List (DataW H)}, (DataW.weightsEach P ts ds).all (· ≤ reachBytes) = true → ∀ (j : Nat) (t : TypeId) (d : DataW H), ts[j]? = some t → ds[j]? = some d → (d.weights P t).all (· ≤ reachBytes) = true := by
  intro ts
  induction ts with
  | nil => intro ds _ j t d ht; simp at ht
  | cons t0 ts ih =>
    intro ds h j t d ht hd
    cases ds with
    | nil => simp at hd
    | cons d0 ds =>
      rw [DataW.weightsEach, List.all_append, Bool.and_eq_true] at h
      cases j with
      | zero =>
        simp only [List.getElem?_cons_zero, Option.some.injEq] at ht hd
        subst ht; subst hd
        exact h.1
      | succ j => exact ih h.2 j t d (by simpa using ht) (by simpa using hd)
theorem all_weight {H : Type} {P : Program} {e : TypeId} : ∀ {ds : List (DataW H)}, (DataW.weightsAll P e ds).all (· ≤ reachBytes) = true → ∀ (d : DataW H), d ∈ ds → (d.weights P e).all (· ≤ reachBytes) = true := by
  intro ds
  induction ds with
  | nil => intro _ d hd; simp at hd
  | cons d0 ds ih =>
    intro h d hd
    rw [DataW.weightsAll, List.all_append, Bool.and_eq_true] at h
    rcases List.mem_cons.1 hd with rfl | hd
    · exact h.1
    · exact ih h.2 d hd

theorem rdr_int {P : Program} {t : TypeId} {k : IntKind} (ht : P.underlying t = some (.int k)) : Rdr P t (Kd.int k) (IntG k) := by
  intro H enc w base fuel cs x h _
  obtain ⟨n, hcs, _, hw⟩ := DataW.trod_int ht h
  exact ⟨n, hcs, hw⟩
theorem rdr_bool {P : Program} {t : TypeId} (ht : P.underlying t = some .bool) : Rdr P t Kd.bool (fun _ => True) := by
  intro H enc w base fuel cs x h _
  obtain ⟨n, hcs, _⟩ := DataW.trod_bool ht h
  exact ⟨n, hcs, trivial⟩

theorem cells?_get {w : World} {base n : Nat} {a : Addr} {cs : List Value} (h : w.cells? base a n = some cs) : cs.length = n ∧ ∀ i u, cs[i]? = some u → w.cell? (a.add i) = some u := by
  unfold World.cells? at h
  split at h
  · have hl := mapM_some_length h
    rw [List.length_range] at hl
    refine ⟨hl, fun i u hu => ?_⟩
    have hi : i < n := by have := (List.getElem?_eq_some_iff.1 hu).1; omega
    have := mapM_some_get h i i (List.getElem?_range hi)
    rw [this, hu]
  · cases h

theorem list_choose {α : Type} {p : Nat → α → Prop} : ∀ (n : Nat), (∀ i, i < n → ∃ a, p i a) → ∃ l : List α, l.length = n ∧ ∀ i a, l[i]? = some a → p i a := by
  intro n
  induction n with
  | zero => intro _; exact ⟨[], rfl, fun i a h => by simp at h⟩
  | succ n ih =>
    intro h
    obtain ⟨l, hl, hp⟩ := ih (fun i hi => h i (by omega))
    obtain ⟨a, ha⟩ := h n (by omega)
    refine ⟨l ++ [a], by simp [hl], fun i b hb => ?_⟩
    by_cases hi : i < n
    · rw [List.getElem?_append_left (by omega)] at hb
      exact hp i b hb
    · rw [List.getElem?_append_right (by omega)] at hb
      have h0 : i - l.length = 0 := by
        have := (List.getElem?_eq_some_iff.1 hb).1
        simp at this
        omega
      rw [h0] at hb
      simp at hb
      have : i = n := by omega
      rw [this, ← hb]
      exact ha

theorem rdr_slice {P : Program} {t e : TypeId} {α : Type} {d : Kd α} {G : α → Prop} (ht : P.underlying t = some (.slice e)) (hc : P.cellsOf e = d.sz) {B : Nat} (hB : P.bytesOf e = B) (r : Rdr P e d G) : Rdr P t (Kd.slice e d) (RowG B G) := by
  intro H enc w base fuel cs x h hwt
  rcases DataW.trod_slice ht h with ⟨rfl, _⟩ | ⟨a, len, cap, elems, rest, n, _, rfl, hxd, hb, hl, hm, hlen, hel, _, _⟩
  · exact ⟨[], ⟨none, 0, rfl, Nat.le_refl _, rfl, by simp, fun h => by simp at h⟩, by simp, fun x hx => by simp at hx⟩
  · rw [hxd] at hwt
    simp only [DataW.weights, ht, List.all_cons, List.all_append, Bool.and_eq_true, decide_eq_true_eq, List.length_map] at hwt
    rw [hB, reach_is] at hwt
    have hlB : len * B ≤ 140737488351232 := Nat.le_trans (Nat.mul_le_mul_right _ (by omega)) hwt.1
    have one : ∀ i, i < len → ∃ y : α, (∃ c, c.length = d.sz ∧ d.K w y c ∧ ∀ j u, c[j]? = some u → w.cell? (a.add (i * d.sz + j)) = some u) ∧ G y := by
      intro i hi
      have h1 := hel i hi
      rw [List.getElem?_eq_getElem (by omega), Option.bind_eq_some_iff] at h1
      obtain ⟨c, hc1, hc2⟩ := h1
      obtain ⟨y, hy, hg⟩ := r H enc w base n c _ hc2 (all_weight hwt.2.1 _ (List.mem_map.2 ⟨_, List.getElem_mem _, rfl⟩))
      obtain ⟨hcl, hcell⟩ := cells?_get hc1
      refine ⟨y, ⟨c, by rw [hcl, hc], hy, fun j u hu => ?_⟩, hg⟩
      have := hcell j u hu
      rw [hc] at this
      have e : (a.add (i * d.sz)).add j = a.add (i * d.sz + j) := by exact add_add _ _ _
      rw [← e]
      exact this
    obtain ⟨xs, hxl, hx⟩ := list_choose len one
    have hmax : len ≤ 9223372036854775807 := by unfold maxLen at hm; omega
    refine ⟨xs, ⟨some a, cap, by rw [hxl], by omega, rfl, by omega, fun _ => ⟨a, rfl, fun j p hj => (hx j p hj).1⟩⟩, by rw [hxl]; exact hlB, fun x hxm => ?_⟩
    obtain ⟨i, hi⟩ := List.getElem?_of_mem hxm
    exact (hx i x hi).2

def RdrF (P : Program) (fs : List Field) (off : Nat) {α : Type} (d : Kd α) (G : α → Prop) : Prop :=
  ∀ (H : Type) (enc : TypeId × Value → H) (w : World) (base n : Nat) (cs : List Value), off + d.sz ≤ cs.length →
    (∀ f ∈ fs, ∃ y : DataW H × List MemPlace, DataW.trod enc P w base (fun _ => true) true n f.type ((cs.drop f.offset).take (P.cellsOf f.type)) = some y ∧ (y.1.weights P f.type).all (· ≤ reachBytes) = true) → ∃ a : α, d.K w a ((cs.drop off).take d.sz) ∧ G a

theorem rdrF_one {P : Program} {f : Field} {off : Nat} {α : Type} {d : Kd α} {G : α → Prop} (ho : f.offset = off) (hc : P.cellsOf f.type = d.sz) (r : Rdr P f.type d G) : RdrF P [f] off d G := by
  intro H enc w base n cs _ h
  obtain ⟨y, hy, hyw⟩ := h f (List.mem_singleton.2 rfl)
  rw [ho, hc] at hy
  exact r H enc w base n _ y hy hyw
theorem rdrF_cons {P : Program} {f : Field} {fs : List Field} {off off' : Nat} {α β : Type} {d : Kd α} {d' : Kd β} {G : α → Prop} {G' : β → Prop} (ho : f.offset = off) (hc : P.cellsOf f.type = d.sz) (hoff : off + d.sz = off')
    (r : Rdr P f.type d G) (rs : RdrF P fs off' d' G') : RdrF P (f :: fs) off (Kd.pair d d') (fun a => G a.1 ∧ G' a.2) := by
  intro H enc w base n cs hl h
  have hl' : off + (d.sz + d'.sz) ≤ cs.length := hl
  obtain ⟨y, hy, hyw⟩ := h f List.mem_cons_self
  rw [ho, hc] at hy
  obtain ⟨a, ha, ga⟩ := r H enc w base n _ y hy hyw
  obtain ⟨b, hb, gb⟩ := rs H enc w base n cs (by omega) (fun g hg => h g (List.mem_cons_of_mem _ hg))
  refine ⟨(a, b), ⟨_, _, ?_, ha, hb⟩, ga, gb⟩
  show (cs.drop off).take (d.sz + d'.sz) = _
  rw [List.take_add, List.drop_drop, hoff]
theorem rdr_struct {P : Program} {t : TypeId} {fs : Array Field} {α β : Type} {d : Kd α} {G : α → Prop} {G' : β → Prop} {f : β → α} (ht : P.underlying t = some (.struct fs)) (hc : P.cellsOf t = d.sz) (rs : RdrF P fs.toList 0 d G)
    (hf : ∀ a, G a → ∃ b, f b = a ∧ G' b) : Rdr P t (Kd.iso d f) G' := by
  intro H enc w base fuel cs x h hwt
  obtain ⟨xs, n, _, hxd, hl, hxl, he⟩ := DataW.trod_struct ht h
  rw [hc] at hl
  rw [hxd] at hwt
  simp only [DataW.weights, ht] at hwt
  obtain ⟨a, ha, ga⟩ := rs H enc w base n cs (by omega) (fun g hg => by
    obtain ⟨i, hi⟩ := List.getElem?_of_mem hg
    have hil : i < fs.size := by have := (List.getElem?_eq_some_iff.1 hi).1; simpa using this
    have := he i g (by simpa using hi)
    rw [this]
    refine ⟨_, List.getElem?_eq_getElem (by omega), each_weight hwt i _ _ ?_ ?_⟩
    · rw [List.getElem?_map, hi]; rfl
    · rw [List.getElem?_map, List.getElem?_eq_getElem (by omega)]; rfl)
  obtain ⟨b, rfl, gb⟩ := hf a ga
  refine ⟨b, ?_, gb⟩
  show d.K w (f b) cs
  rw [List.drop_zero, List.take_of_length_le (by omega)] at ha
  exact ha

theorem arg_slice {P : Program} {t e : TypeId} {α : Type} {d : Kd α} {G : α → Prop} {H : Type} {enc : TypeId × Value → H} {w : World} {r : Reach} {b0 : Nat} {v : Value} {x : DataW H} {ps : List MemPlace}
    {B : Nat} (ht : P.underlying t = some (.slice e)) (rd : Rdr P t (Kd.slice e d) (RowG B G)) (hw : (x.weights P t).all (· ≤ reachBytes) = true) (hv : Value.okWide P w r b0 t v) (h : DataW.Trod enc P w 0 (fun _ => true) true t v x ps) :
    ∃ A l c, v = .slice A l.length c ∧ l.length ≤ c ∧ Kd.C d w A l.length l ∧ RowG B G l := by
  obtain ⟨a, len, cap, rfl⟩ := okWide_slice ht hv
  obtain ⟨fuel, hf⟩ := h
  obtain ⟨l, ⟨A, c, hcs, hlc, hC⟩, hg⟩ := rd H enc w 0 fuel _ _ hf hw
  have hcs' : [Value.slice a len cap] = [Value.slice A l.length c] := hcs
  injection hcs' with hcs' _
  exact ⟨A, l, c, hcs', hlc, hC, hg⟩
theorem arg_struct {P : Program} {t : TypeId} {fs : Array Field} {α : Type} {d : Kd α} {G : α → Prop} {H : Type} {enc : TypeId × Value → H} {w : World} {r : Reach} {b0 : Nat} {v : Value} {x : DataW H} {ps : List MemPlace}
    (ht : P.underlying t = some (.struct fs)) (rd : Rdr P t d G) (hw : (x.weights P t).all (· ≤ reachBytes) = true) (hv : Value.okWide P w r b0 t v) (h : DataW.Trod enc P w 0 (fun _ => true) true t v x ps) :
    ∃ a cs, v = .agg cs.toArray ∧ d.K w a cs ∧ G a := by
  obtain ⟨cs, rfl, _⟩ := okWide_struct ht hv
  obtain ⟨fuel, hf⟩ := h
  obtain ⟨a, hK, hg⟩ := rd H enc w 0 fuel _ _ hf hw
  exact ⟨a, cs.toList, rfl, hK, hg⟩

end Go.Proofs.Ytcfbhobpfnlkpaa.Open
