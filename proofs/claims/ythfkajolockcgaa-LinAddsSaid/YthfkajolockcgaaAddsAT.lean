/- What the two sums leave, and their values. -/
import Derived.Test.YthfkajolockcgaaAddsAL
namespace Go.Proofs.Ythfkajolockcgaa.Adds
open Go.RowKit Go.Proofs.Ythfkajolockcgaa.QLinAdds Go.Proofs.YthfkajolockcgaaW.PrintWords Go.Proofs.YthfkajolockcgaaW.PrintLast Go.Proofs.YthfkajolockcgaaW.PrintMore Go.Proofs.Ythfkajolockcgaa.Open Go.Proofs.Ythfkajolockcgaa.Lin
set_option linter.unusedVariables false
/-- A sum that was made: its box, its row, apart from the times. -/
structure SB (w w' : World) (gx : Nat) (vx : Value) (X : List Int) (M : Int) (vt : Value) : Prop where
  bx : w'.heap[gx]? = some (.cells #[vx, .int .i64 M] 27 (0, 0))
  bg : w.heap.size ≤ gx
  ow : w'.ownsRow w.heap.size 3 1 vx X.length (nums .i64 X)
  ne : ∀ k, vt.ownBlock = some k → vx.ownBlock ≠ some k
theorem SB.below {w w' w2 : World} {gx : Nat} {vx : Value} {X : List Int} {M : Int} {vt : Value} (h : SB w w' gx vx X M vt) (hb : Below w'.heap.size w' w2) : SB w w2 gx vx X M vt :=
  ⟨(hb.block gx (blk_lt h.bx)).trans h.bx, h.bg, pw_own_below h.ow hb, h.ne⟩
theorem SB.form {w w' : World} {gx : Nat} {vx : Value} {X : List Int} {M : Int} {vt : Value} (h : SB w w' gx vx X M vt) : ∃ A c, vx = .slice A X.length c ∧ Kd.C (Kd.int .i64) w' A X.length X ∧ X.length ≤ c := own_blk h.ow
/-- Out of what lin.Sum hands back, boxed. -/
theorem SB.of {w w1 w2 : World} {vx : Value} {X : List Int} {M : Int} {vt : Value} {ts : List Int} (hR : Kd.R (Kd.int .i64) 3 w2 w1.heap.size (fun _ => True) vx X) (hB : w.heap.size ≤ w1.heap.size) (hb : Below w1.heap.size w1 w2) (ht : w1.ownsRow w.heap.size 3 1 vt ts.length (nums .i64 ts)) :
    SB w (w2.alloc (.cells #[vx, .int .i64 M] 27)) w2.heap.size vx X M vt := by
  have ho : w2.ownsRow w1.heap.size 3 1 vx X.length (nums .i64 X) := Kd.own_of_R hR
  refine ⟨heap_alloc_new w2 _, Nat.le_trans hB hb.size, (own_weaken ho hB).alloc _, fun k e1 e2 => ?_⟩
  have h1 := own_lt ht k e1
  have h2 := own_base ho k e2
  omega
/-- The sums' values, with what the law asks of them. -/
theorem adds_sums (l : List S27) (ti : List Int) (n : Nat) (h10 : l.length ≤ 10) (hlt : l.length ≤ ti.length) (hti : ∀ t ∈ ti, 0 ≤ t ∧ t ≤ 255) (hp : Past l n l.length) (hn : n ≤ 50) :
    ∃ X M, X.length = n ∧ (∀ x ∈ X, -1000000000000000000 ≤ x ∧ x ≤ 1000000000000000000) ∧ (-1000000000000000000 ≤ M ∧ M ≤ 1000000000000000000) ∧
      lin_Sum.f 100000 l (ti.take l.length) (n : Int) = some (X, M, 0) ∧ lin_Sum.f 100000 l (twice (ti.take l.length)) (n : Int) = some (twice X, 2 * M, 0) ∧
      lin_Proves.f 100000 l (ti.take l.length) X M = some true ∧
      ∀ (mc : List Int) (mm : Int), mc.length = n → (∀ c ∈ mc, -1152921504606846976 < c ∧ c < 1152921504606846976) → (-1152921504606846976 < mm ∧ mm < 1152921504606846976) → lin_Proves.f 100000 (l ++ [⟨mc, mm⟩]) (ti.take l.length ++ [0]) X M = some true := by
  have hprl : (pr l).length = l.length := by unfold pr; rw [List.length_map]
  have htl : (ti.take l.length).length = l.length := by rw [List.length_take]; omega
  have hts : ∀ t ∈ ti.take l.length, 0 ≤ t ∧ t ≤ 510 := fun t ht => by have := hti t (List.mem_of_mem_take ht); omega
  have htw : ∀ t ∈ twice (ti.take l.length), 0 ≤ t ∧ t ≤ 510 := fun t ht => by
    obtain ⟨x, hx, rfl⟩ := List.mem_map.1 ht
    have := hti x (List.mem_of_mem_take hx)
    omega
  have hsm : ∀ r ∈ pr l, SmallR n r := fun r hr => by
    obtain ⟨s, hs, rfl⟩ := List.mem_map.1 hr
    obtain ⟨j, hj, rfl⟩ := List.mem_iff_getElem.1 hs
    exact hp j hj hj
  have htwl : (twice (ti.take l.length)).length = l.length := by unfold twice; rw [List.length_map]; exact htl
  have s1 := sum_small (rs := pr l) (ts := ti.take l.length) (n := n) (by omega) (by omega) hn hts hsm
  have s2 := sum_small (rs := pr l) (ts := twice (ti.take l.length)) (n := n) (by omega) (by omega) hn htw hsm
  have hbig : ∀ cs : List Int, cs.length = (pr l).length → (∀ c ∈ cs, -1099511627776 ≤ c ∧ c ≤ 1099511627776) → -1000000000000000000 ≤ prodSum cs (ti.take l.length) ∧ prodSum cs (ti.take l.length) ≤ 1000000000000000000 := fun cs hcl hc => by
    rw [prodSum_sumN cs _ (by omega)]
    have hb : ∀ i, i < cs.length → -(560750930165760 : Int) ≤ cs.getD i 0 * (ti.take l.length).getD i 0 ∧ cs.getD i 0 * (ti.take l.length).getD i 0 ≤ 560750930165760 := by
      intro i hi
      have h1 := hc (cs.getD i 0) (by rw [List.getD_eq_getElem?_getD, List.getElem?_eq_getElem hi]; exact List.getElem_mem hi)
      have h2 := hts ((ti.take l.length).getD i 0) (by rw [List.getD_eq_getElem?_getD, List.getElem?_eq_getElem (by omega)]; exact List.getElem_mem _)
      generalize cs.getD i 0 = a at *
      generalize (ti.take l.length).getD i 0 = b at *
      constructor
      · have : -(1099511627776 : Int) * b ≤ a * b := Int.mul_le_mul_of_nonneg_right h1.1 h2.1
        omega
      · have : a * b ≤ (1099511627776 : Int) * b := Int.mul_le_mul_of_nonneg_right h1.2 h2.1
        omega
    obtain ⟨h1, h2⟩ := sumN_bound hb
    omega
  have hX : ((List.range n).map (fun v => prodSum (colOf (pr l) v) (twice (ti.take l.length)))) = twice ((List.range n).map (fun v => prodSum (colOf (pr l) v) (ti.take l.length))) := by
    unfold twice
    rw [List.map_map]
    apply List.map_congr_left
    intro v _
    exact prodSum_twice _ _
  have hM : prodSum ((pr l).map (·.2)) (twice (ti.take l.length)) = 2 * prodSum ((pr l).map (·.2)) (ti.take l.length) := prodSum_twice _ _
  rw [hX, hM] at s2
  have hXl : ((List.range n).map (fun v => prodSum (colOf (pr l) v) (ti.take l.length))).length = n := by rw [List.length_map, List.length_range]
  refine ⟨(List.range n).map (fun v => prodSum (colOf (pr l) v) (ti.take l.length)), prodSum ((pr l).map (·.2)) (ti.take l.length), hXl, fun x hx => ?_, ?_, ?_, ?_, ?_, fun mc mm hmc hb1 hb2 => ?_⟩
  · obtain ⟨v, hv, rfl⟩ := List.mem_map.1 hx
    refine hbig _ (List.length_map _) (fun c hc => ?_)
    obtain ⟨r', hr', rfl⟩ := List.mem_map.1 hc
    have g := hsm r' hr'
    have hv' : v < r'.1.length := by have := g.1; have := List.mem_range.1 hv; omega
    rw [List.getD_eq_getElem?_getD, List.getElem?_eq_getElem hv']
    exact g.2.1 _ (List.getElem_mem hv')
  · refine hbig _ (List.length_map _) (fun c hc => ?_)
    obtain ⟨r', hr', rfl⟩ := List.mem_map.1 hc
    exact (hsm r' hr').2.2
  · rw [sum_val l _ _ (by omega) _ (Nat.le_refl _), s1]
  · rw [sum_val l _ _ (by omega) _ (Nat.le_refl _), s2]
  · rw [proves_val l _ _ _ (by omega) _ (Nat.le_refl _), hXl, s1]
    simp
  · have s3 := sum_more (rs := pr l) (ts := ti.take l.length) (n := n) (r := (mc, mm)) (by omega) (by omega) hn hts hsm hmc hb1 hb2
    have hpr : pr (l ++ [⟨mc, mm⟩]) = pr l ++ [(mc, mm)] := by unfold pr; rw [List.map_append]; rfl
    rw [proves_val _ _ _ _ (by simp; omega) _ (Nat.le_refl _), hXl, hpr, s3]
    simp
end Go.Proofs.Ythfkajolockcgaa.Adds
