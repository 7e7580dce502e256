/- What a write into a region leaves of the state; the contract of ref.In. -/
import Derived.Test.YtgpekomaoeockaaMemF3
namespace Go.Proofs.Ytgpekomaoeockaa.MemC
open Go.RowKit Go.Proofs.YtgpekomaoeockaaW.PrintWords Go.Proofs.YtgpekomaoeockaaW.PrintLast Go.Proofs.YtgpekomaoeockaaW.PrintMore Go.Proofs.Ytgpekomaoeockaa.QMemSizes
set_option linter.unusedVariables false
set_option linter.unusedSimpArgs false
/-- A cell of region m is written. -/
def wrote (rs : List Reg) (m q : Nat) (v : Int) : List Reg := rs.modify m (fun x => (x.1, x.2.set q v))
theorem wrote_length (rs : List Reg) (m q : Nat) (v : Int) : (wrote rs m q v).length = rs.length := List.length_modify ..
theorem flat_wrote (rs : List Reg) (m q : Nat) (v : Int) (hm : m < rs.length) (hq : q < rs[m].2.length) : flat (wrote rs m q v) = (flat rs).set (tot (rs.take m) + q) v := by
  induction rs generalizing m with
  | nil => simp at hm
  | cons x r ih =>
    cases m with
    | zero =>
      simp only [List.getElem_cons_zero] at hq
      simp only [wrote, List.modify_zero_cons, List.take_zero]
      rw [flat_cons, flat_cons]
      show x.2.set q v ++ flat r = _
      rw [show tot [] + q = q by simp [tot, flat], List.set_append_left _ _ hq]
    | succ m =>
      simp only [List.getElem_cons_succ] at hq
      simp only [wrote, List.modify_succ_cons, List.take_succ_cons] at ih ⊢
      rw [flat_cons, flat_cons, ih m (by simpa using hm) hq, tot_cons, List.set_append_right _ _ (by omega), show x.2.length + tot (List.take m r) + q - x.2.length = tot (List.take m r) + q by omega]
theorem tot_wrote (rs : List Reg) (m q : Nat) (v : Int) (hm : m < rs.length) (hq : q < rs[m].2.length) : tot (wrote rs m q v) = tot rs := by
  unfold tot
  rw [flat_wrote rs m q v hm hq, List.length_set]
theorem lay_wrote (o : Nat) (rs : List Reg) (m q : Nat) (v : Int) : lay o (wrote rs m q v) = lay o rs := by
  induction rs generalizing m o with
  | nil => cases m <;> rfl
  | cons x r ih =>
    obtain ⟨i, c⟩ := x
    cases m with
    | zero => simp [wrote, lay]
    | succ m =>
      simp only [wrote, List.modify_succ_cons, lay] at ih ⊢
      rw [ih]
theorem MS.read {w : World} {base p sb hb : Nat} {st : List Int} {n : Nat} {rs : List Reg} {lv : Value} (h : MS w base p sb hb st n rs lv) (m : Nat) (hm : m < rs.length) (q : Nat) (hq : q < rs[m].2.length) :
    w.cell? ⟨hb, tot (rs.take m) + q, none⟩ = some (.int .i32 rs[m].2[q]) := by
  obtain ⟨j, h1, _⟩ := h.hea
  rw [blk_cell h1, List.getElem?_toArray, flat_split rs m hm, List.append_assoc, nums_app, List.getElem?_append_right (by rw [nums_len]; show tot (rs.take m) ≤ _; omega), nums_len,
    show tot (rs.take m) + q - (flat (rs.take m)).length = q by show tot (rs.take m) + q - tot (rs.take m) = q; omega, List.append_assoc, nums_app, List.getElem?_append_left (by rw [nums_len]; exact hq)]
  unfold nums
  rw [List.getElem?_map, List.getElem?_eq_getElem hq]
  rfl
theorem MS.fr {w : World} {base p sb hb : Nat} {st : List Int} {n : Nat} {rs : List Reg} {lv : Value} (h : MS w base p sb hb st n rs lv) (o : Nat) : w.frozen? ⟨hb, o, none⟩ = false := by
  obtain ⟨j, h1, _⟩ := h.hea
  exact blk_frozen h1 _
theorem MS.write {w : World} {base p sb hb : Nat} {st : List Int} {n : Nat} {rs : List Reg} {lv : Value} (h : MS w base p sb hb st n rs lv) (m : Nat) (hm : m < rs.length) (q : Nat) (hq : q < rs[m].2.length) (v : Int) :
    MS (w.setCell ⟨hb, tot (rs.take m) + q, none⟩ (.int .i32 v)) base p sb hb st n (wrote rs m q v) lv := by
  obtain ⟨j, h1, h2⟩ := h.hea
  have h3 := tot_take_le rs (m + 1)
  have h4 := tot_take_succ rs m hm
  refine ⟨blk_far h.box h.p_ne_h _, blk_far h.stk h.ne _, ⟨j, (blk_set h1 _ _).trans ?_, by rw [tot_wrote rs m q v hm hq]; exact h2⟩, ?_, h.bp, h.bs, h.bh, h.ne, h.nb, h.sn⟩
  · rw [flat_wrote rs m q v hm hq]
    congr 2
    rw [List.setIfInBounds_toArray]
    congr 1
    rw [← List.set_append_left _ _ (by show _ < tot rs; omega)]
    unfold nums
    rw [List.map_set]
  · rw [lay_wrote, wrote_length]
    exact own_setCell h.lst (fun e => h.lv_ne_h e.symm) _
/-! ### plimsollref01_In: function 17 -/
def plimsollref01_In.l0 : Nat → List Int → Int → Int → Option (Bool)
  | 0, _, _, _ => none
  | k + 1, x0, x1, x5 => if x5 < (x0.length : Int) then (if 0 ≤ x5 then (if (rd x0 x5) = x1 then (some true) else (plimsollref01_In.l0 k x0 x1 (wrap64 (x5 + 1)))) else (none)) else (some false)
def plimsollref01_In.f (k : Nat) (l0 : List Int) (a1 : Int) : Option (Bool) := plimsollref01_In.l0 k l0 a1 0
theorem plimsollref01_In.mono_l : ∀ k, (∀ y0 y1 y2, LeO (plimsollref01_In.l0 k y0 y1 y2) (plimsollref01_In.l0 (k + 1) y0 y1 y2))
  | 0 => fun _ _ _ r h => by simp [plimsollref01_In.l0] at h
  | k + 1 => by
    have ih0 := plimsollref01_In.mono_l k
    · intro y0 y1 y2
      unfold plimsollref01_In.l0
      repeat' first
      | (with_reducible exact ih0 _ _ _)
      | (with_reducible exact LeO.refl _)
      | (with_reducible exact LeO.none _)
      | (with_reducible refine LeO.ite ?_ ?_)
      | (with_reducible refine LeO.bind ?_ (fun _ => ?_))
      | exact ih0 _ _ _
      | exact LeO.none _
      | refine LeO.ite ?_ ?_
      | refine LeO.bind ?_ (fun _ => ?_)
theorem plimsollref01_In.mono : ∀ a0 a1 k, LeO (plimsollref01_In.f k a0 a1) (plimsollref01_In.f (k + 1) a0 a1) := by
  intro a0 a1 k
  have ih0 := plimsollref01_In.mono_l k
  unfold plimsollref01_In.f
  repeat' first
      | (with_reducible exact ih0 _ _ _)
      | (with_reducible exact LeO.refl _)
      | (with_reducible exact LeO.none _)
      | (with_reducible refine LeO.ite ?_ ?_)
      | (with_reducible refine LeO.bind ?_ (fun _ => ?_))
      | exact ih0 _ _ _
      | exact LeO.none _
      | refine LeO.ite ?_ ?_
      | refine LeO.bind ?_ (fun _ => ?_)
set_option maxHeartbeats 8000000 in
set_option maxRecDepth 100000 in
theorem plimsollref01_In.calls (k : Nat) (A0 : Option Addr) (c0 : Nat) (l0 : List Int) (a1 : Int) (r : Bool) (w : World) (hr0 : Kd.C (Kd.int .i64) w A0 l0.length l0) (hc0 : l0.length ≤ c0) (h : plimsollref01_In.f k l0 a1 = some r) :
    Calls Try.prog 17 #[.slice A0 l0.length c0, .int .i64 a1] w fun e w' => e = .returned (.bool r) ∧ Drawn0 w w' := by
  have HR0 := Aside0.mk hr0
  have HC0 := Aside0.mk hc0
  clear hr0 hc0
  have H : (plimsollref01_In.l0 k l0 a1 0) = some r := h
  clear h
  have H' := Aside0.mk H
  clear H
  go_enter Try.func17, Try.ntmps17
  go_wp2
  go_loopg [5] k (fun kq v5 w' => ∃ (x5_1 : Int), v5 = .int .i64 x5_1 ∧ Aside0 (plimsollref01_In.l0 kq l0 a1 x5_1 = some r) ∧ Aside0 (kq ≤ k) ∧ Drawn0 w w')
  case atStart => exact ⟨(0), (by first | rfl | (simp; done) | (simp [*]; done)), H', ⟨Nat.le_refl _⟩, by repeat (first | exact Drawn0.refl _ | apply Drawn0.step)⟩
  case round =>
    clear H'
    try clear c1
    try clear p2
    obtain ⟨x5_1, rfl, HA, HK1, ⟨m1, rfl⟩⟩ := hrel
    cases gk with
    | zero => exact absurd HA.out (by simp [plimsollref01_In.l0])
    | succ k1 =>
      have H := HA.out
      clear HA
      simp only [plimsollref01_In.l0] at H
      by_cases c3 : x5_1 < (l0.length : Int)
      · rw [if_pos c3] at H
        have c3b0 : decide (x5_1 < (l0.length : Int)) = true := decide_eq_true c3
        clear c3
        by_cases c4 : 0 ≤ x5_1
        · rw [if_pos c4] at H
          have c4b0 : decide (0 ≤ x5_1) = true := decide_eq_true c4
          clear c4
          by_cases c5 : (rd l0 x5_1) = a1
          · rw [if_pos c5] at H
            have c5b0 : ((rd l0 x5_1) == a1) = true := beq_iff_eq.mpr c5
            have c5b1 : ((rd l0 x5_1) != a1) = false := bne_eq_false_iff_eq.mpr c5
            clear c5
            obtain rfl := Option.some.inj H
            have p110 : 0 ≤ (x5_1 : Int) := of_decide_eq_true (by first | (with_reducible assumption) | assumption)
            have q110 : x5_1 < (l0.length : Int) := of_decide_eq_true (by first | (with_reducible assumption) | assumption)
            obtain ⟨ad110, e110, hx110_0⟩ := Kd.at_int HR0.out x5_1 p110 q110
            cases e110
            replace p110 := eq_true p110
            replace q110 := eq_true q110
            go_wp2
            go_ret
            exact ⟨by first | rfl | (simp; done) | (simp [*]; done), by repeat (first | exact Drawn0.refl _ | apply Drawn0.step)⟩
          · rw [if_neg c5] at H
            have c5b0 : ((rd l0 x5_1) == a1) = false := beq_eq_false_iff_ne.mpr c5
            have c5b1 : ((rd l0 x5_1) != a1) = true := bne_iff_ne.mpr c5
            have H' := Aside0.mk H
            clear H
            have p110 : 0 ≤ (x5_1 : Int) := of_decide_eq_true (by first | (with_reducible assumption) | assumption)
            have q110 : x5_1 < (l0.length : Int) := of_decide_eq_true (by first | (with_reducible assumption) | assumption)
            obtain ⟨ad110, e110, hx110_0⟩ := Kd.at_int HR0.out x5_1 p110 q110
            cases e110
            replace p110 := eq_true p110
            replace q110 := eq_true q110
            go_wp2
            go_roundg k1
            case measure => have := HK1.out; omega
            case rel => exact ⟨(wrap64 (x5_1 + 1)), (by first | rfl | (simp; done) | (simp [*]; done)), H', ⟨by have := HK1.out; omega⟩, by repeat (first | exact Drawn0.refl _ | apply Drawn0.step)⟩
        · rw [if_neg c4] at H
          exact absurd H (by simp)
      · rw [if_neg c3] at H
        have c3b0 : decide (x5_1 < (l0.length : Int)) = false := decide_eq_false c3
        clear c3
        obtain rfl := Option.some.inj H
        go_wp2
        go_ret
        exact ⟨by first | rfl | (simp; done) | (simp [*]; done), by repeat (first | exact Drawn0.refl _ | apply Drawn0.step)⟩

-- NOT PRINTED: function 7 (plimsolllaw17_awake)

-- NOT PRINTED: function 4 (plimsolllaw17_MemSizes)

end Go.Proofs.Ytgpekomaoeockaa.MemC
