-- Written by a program of ours (tools/mkprint.py) over the kit's printing program, for the law FlowSteps: some functions' texts are ours.
import Derived.Test.YtoiahldbahdaoaaUFlowStepsx0
import Derived.Test.YtoiahldbahdaoaaUFlowStepsx1
import Derived.Test.YtoiahldbahdaoaaUFlowStepsx4
namespace Go.Proofs.Ytoiahldbahdaoaa.QFlowSteps
open Go.RowKit Go.Proofs.YtoiahldbahdaoaaW.PrintWords Go.Proofs.YtoiahldbahdaoaaW.PrintLast Go.Proofs.YtoiahldbahdaoaaW.PrintMore
attribute [local go_sem] max2_int min2_int max_two min_two max_three min_three max_four min_four   -- for this text's walks alone
set_option linter.unusedVariables false
set_option linter.unusedSimpArgs false

attribute [local go_sem high] eqA38
/-! ### class_Fields: function 41 -/
def class_Fields.l0 : Nat → Int → List (S38) → List (S80) → List (S38) → List Int → List (S41) → List Int → Int → Int → Option ((List (S38)))
  | 0, _, _, _, _, _, _, _, _, _ => none
  | k + 1, x1, x5, x206000, x206001, x206002, x206003, x206004, x206005, x206006 => if x1 ≥ 0 then (if 0 ≤ x1 then (if x1 < (x206000.length : Int) then ((api_Type_20.f k (([(rd_T80 x206000 x1).f1, x5] : List (List (S38))))).bind fun t210 => ((class_up.f x206000 x206001 x206002 x206003 x206004 x206005 x206006 x1).bind fun t213 => (class_Fields.l0 k t213 t210 x206000 x206001 x206002 x206003 x206004 x206005 x206006))) else (none)) else (none)) else (some x5)
def class_Fields.f (k : Nat) (l0_0 : List (S80)) (l0_1 : List (S38)) (l0_2 : List Int) (l0_3 : List (S41)) (l0_4 : List Int) (a0_5 : Int) (a0_6 : Int) (a1 : Int) : Option ((List (S38))) := if a1 ≥ (l0_0.length : Int) then (some ([] : List (S38))) else (class_Fields.l0 k a1 ([] : List (S38)) l0_0 l0_1 l0_2 l0_3 l0_4 a0_5 a0_6)
theorem class_Fields.mono_l : ∀ k, (∀ y0 y1 y2 y3 y4 y5 y6 y7 y8, LeO (class_Fields.l0 k y0 y1 y2 y3 y4 y5 y6 y7 y8) (class_Fields.l0 (k + 1) y0 y1 y2 y3 y4 y5 y6 y7 y8))
  | 0 => fun _ _ _ _ _ _ _ _ _ r h => by simp [class_Fields.l0] at h
  | k + 1 => by
    have ih0 := class_Fields.mono_l k
    · intro y0 y1 y2 y3 y4 y5 y6 y7 y8
      unfold class_Fields.l0
      repeat' first
      | (with_reducible exact ih0 _ _ _ _ _ _ _ _ _)
      | (with_reducible exact api_Type_20.mono _ _)
      | (with_reducible exact LeO.refl _)
      | (with_reducible exact LeO.none _)
      | (with_reducible refine LeO.ite ?_ ?_)
      | (with_reducible refine LeO.bind ?_ (fun _ => ?_))
      | exact ih0 _ _ _ _ _ _ _ _ _
      | exact api_Type_20.mono _ _
      | exact LeO.none _
      | refine LeO.ite ?_ ?_
      | refine LeO.bind ?_ (fun _ => ?_)
theorem class_Fields.mono : ∀ a0 a1 a2 a3 a4 a5 a6 a7 k, LeO (class_Fields.f k a0 a1 a2 a3 a4 a5 a6 a7) (class_Fields.f (k + 1) a0 a1 a2 a3 a4 a5 a6 a7) := by
  intro a0 a1 a2 a3 a4 a5 a6 a7 k
  have ih0 := class_Fields.mono_l k
  unfold class_Fields.f
  repeat' first
      | (with_reducible exact ih0 _ _ _ _ _ _ _ _ _)
      | (with_reducible exact api_Type_20.mono _ _)
      | (with_reducible exact LeO.refl _)
      | (with_reducible exact LeO.none _)
      | (with_reducible refine LeO.ite ?_ ?_)
      | (with_reducible refine LeO.bind ?_ (fun _ => ?_))
      | exact ih0 _ _ _ _ _ _ _ _ _
      | exact api_Type_20.mono _ _
      | exact LeO.none _
      | refine LeO.ite ?_ ?_
      | refine LeO.bind ?_ (fun _ => ?_)
set_option maxHeartbeats 8000000 in
set_option maxRecDepth 100000 in
theorem class_Fields.calls (k : Nat) (P0_0_ : Nat → Prop) (A0_0 : Option Addr) (c0_0 : Nat) (l0_0 : List (S80)) (A0_1 : Option Addr) (c0_1 : Nat) (l0_1 : List (S38)) (A0_2 : Option Addr) (c0_2 : Nat) (l0_2 : List Int) (A0_3 : Option Addr) (c0_3 : Nat) (l0_3 : List (S41)) (A0_4 : Option Addr) (c0_4 : Nat) (l0_4 : List Int) (a0_5 : Int) (a0_6 : Int) (a1 : Int) (r : List (S38)) (w : World) (hs0_0 : Kd.V k80 80 w w.heap.size (fun k_ => P0_0_ k_) (.slice A0_0 l0_0.length c0_0) l0_0) (hr0_1 : Kd.C k38 w A0_1 l0_1.length l0_1) (hc0_1 : l0_1.length ≤ c0_1) (hr0_2 : Kd.C (Kd.int .i32) w A0_2 l0_2.length l0_2) (hc0_2 : l0_2.length ≤ c0_2) (hr0_3 : Kd.C k41 w A0_3 l0_3.length l0_3) (hc0_3 : l0_3.length ≤ c0_3) (hr0_4 : Kd.C (Kd.int .i64) w A0_4 l0_4.length l0_4) (hc0_4 : l0_4.length ≤ c0_4) (h : class_Fields.f k l0_0 l0_1 l0_2 l0_3 l0_4 a0_5 a0_6 a1 = some r) :
    Calls Try.prog 41 #[.agg #[.slice A0_0 l0_0.length c0_0, .slice A0_1 l0_1.length c0_1, .slice A0_2 l0_2.length c0_2, .slice A0_3 l0_3.length c0_3, .slice A0_4 l0_4.length c0_4, .int .i64 a0_5, .int .i64 a0_6], .int .i64 a1] w fun e w' => ∃ v0_ : Value, e = .returned (v0_) ∧ Kd.R k38 38 w' w.heap.size (fun k_ => (w.heap.size ≤ k_)) v0_ r ∧ Below w.heap.size w w' := by
  have hu28 := Try.underlying28
  have HO0_0 := Aside0.mk (show Kd.V k80 80 w w.heap.size (fun k_ => (P0_0_ k_ ∨ w.heap.size ≤ k_)) (.slice A0_0 l0_0.length c0_0) l0_0 from Kd.V_mono hs0_0 (fun k_ hk => .inl hk))
  have HR0_1 := Aside0.mk hr0_1
  have HC0_1 := Aside0.mk hc0_1
  clear hr0_1 hc0_1
  have HR0_2 := Aside0.mk hr0_2
  have HC0_2 := Aside0.mk hc0_2
  clear hr0_2 hc0_2
  have HR0_3 := Aside0.mk hr0_3
  have HC0_3 := Aside0.mk hc0_3
  clear hr0_3 hc0_3
  have HR0_4 := Aside0.mk hr0_4
  have HC0_4 := Aside0.mk hc0_4
  clear hr0_4 hc0_4
  have HB := Aside0.mk (Below.refl w.heap.size w)
  have H : (if a1 ≥ (l0_0.length : Int) then (some ([] : List (S38))) else (class_Fields.l0 k a1 ([] : List (S38)) l0_0 l0_1 l0_2 l0_3 l0_4 a0_5 a0_6)) = some r := h
  clear h
  by_cases c3 : a1 ≥ (l0_0.length : Int)
  · rw [if_pos c3] at H
    have c3b0 : decide ((l0_0.length : Int) ≤ a1) = true := decide_eq_true c3
    clear c3
    obtain rfl := Option.some.inj H
    go_enter Try.func41, Try.ntmps41
    go_wp2_with (first | ((with_reducible refine gate_dst (N := 2) rfl ?_); refine box_event ?hg (N := 2) ?hd (cs := #[.slice A0_0 l0_0.length c0_0, .slice A0_1 l0_1.length c0_1, .slice A0_2 l0_2.length c0_2, .slice A0_3 l0_3.length c0_3, .slice A0_4 l0_4.length c0_4, .int .i64 a0_5, .int .i64 a0_6]) (t := 28) ?hr ?_; (case hd => rfl); (case hg => rfl); (case hr => first | (go_simp; done) | (go_simp; rfl)); intro gb205 hg w4 hbox hb; have n0_ := Aside0.mk (Kd.V_below (Kd.V_elderB (by (with_reducible repeat (first | apply Kd.V_alloc | apply Kd.V_drewN | apply Kd.V_drew)); exact HO0_0.out) gb205 (Nat.le_of_eq hg.symm)) hb); have n1_ := Aside0.mk (below_step (by repeat (first | (with_reducible first | exact HB.out | apply below_alloc | apply pw_below_drewN | apply below_drew1) | exact HB.out)) hb); have n2_ := Aside0.mk (hbox); have n3_ := Aside0.mk ((by rw [hg]; exact (below_size (by repeat (first | (with_reducible first | exact HB.out | apply below_alloc | apply pw_below_drewN | apply below_drew1) | exact HB.out))) : w.heap.size ≤ gb205)); have n4_ := Aside0.mk ((by rw [hg]; exact (below_size (by repeat (first | (with_reducible first | exact HB.out | apply below_alloc | apply pw_below_drewN | apply below_drew1) | exact HB.out))) : w.heap.size ≤ gb205)); clear HO0_0; clear HB; have HO0_0 := n0_; have HB := n1_; have BK205 := n2_; have GW205 := n3_; have GE205 := n4_; clear n0_ n1_ n2_ n3_ n4_; clear hb hbox hg; have hcz5_0 : w4.cell? ⟨gb205, 0, none⟩ = some (.slice A0_0 l0_0.length c0_0) := (blk_cell BK205.out 0).trans rfl; have hcz5_1 : w4.cell? ⟨gb205, 1, none⟩ = some (.slice A0_1 l0_1.length c0_1) := (blk_cell BK205.out 1).trans rfl; have hcz5_2 : w4.cell? ⟨gb205, 2, none⟩ = some (.slice A0_2 l0_2.length c0_2) := (blk_cell BK205.out 2).trans rfl; have hcz5_3 : w4.cell? ⟨gb205, 3, none⟩ = some (.slice A0_3 l0_3.length c0_3) := (blk_cell BK205.out 3).trans rfl; have hcz5_4 : w4.cell? ⟨gb205, 4, none⟩ = some (.slice A0_4 l0_4.length c0_4) := (blk_cell BK205.out 4).trans rfl; have hcz5_5 : w4.cell? ⟨gb205, 5, none⟩ = some (.int .i64 a0_5) := (blk_cell BK205.out 5).trans rfl; have hcz5_6 : w4.cell? ⟨gb205, 6, none⟩ = some (.int .i64 a0_6) := (blk_cell BK205.out 6).trans rfl; have hfz5_0 := blk_frozen BK205.out 0; have hfz5_1 := blk_frozen BK205.out 1; have hfz5_2 := blk_frozen BK205.out 2; have hfz5_3 := blk_frozen BK205.out 3; have hfz5_4 := blk_frozen BK205.out 4; have hfz5_5 := blk_frozen BK205.out 5; have hfz5_6 := blk_frozen BK205.out 6))
    go_ret
    exact ⟨_, by first | rfl | (simp [errW_none, errW_some] <;> rfl) | (simp [*, errW_none, errW_some] <;> rfl), by first | exact Kd.R_nil _ _ _ _ _ | exact Kd.N_nil _ _ _ _ _ | exact Kd.V_nil _ _ _ _ _ | exact Kd.Q_nil _ _ _ _ _ | exact Kd.S_nil _ _ _ _ _, by repeat (first | (with_reducible first | exact HB.out | apply below_alloc | apply pw_below_drewN | apply below_drew1 | refine below_set ?_ GE205.out) | exact HB.out)⟩
  · rw [if_neg c3] at H
    have c3b0 : decide ((l0_0.length : Int) ≤ a1) = false := decide_eq_false c3
    clear c3
    have H' := Aside0.mk H
    clear H
    go_enter Try.func41, Try.ntmps41
    go_wp2_with (first | ((with_reducible refine gate_dst (N := 2) rfl ?_); refine box_event ?hg (N := 2) ?hd (cs := #[.slice A0_0 l0_0.length c0_0, .slice A0_1 l0_1.length c0_1, .slice A0_2 l0_2.length c0_2, .slice A0_3 l0_3.length c0_3, .slice A0_4 l0_4.length c0_4, .int .i64 a0_5, .int .i64 a0_6]) (t := 28) ?hr ?_; (case hd => rfl); (case hg => rfl); (case hr => first | (go_simp; done) | (go_simp; rfl)); intro gb205 hg w6 hbox hb; have n0_ := Aside0.mk (Kd.V_below (Kd.V_elderB (by (with_reducible repeat (first | apply Kd.V_alloc | apply Kd.V_drewN | apply Kd.V_drew)); exact HO0_0.out) gb205 (Nat.le_of_eq hg.symm)) hb); have n1_ := Aside0.mk (below_step (by repeat (first | (with_reducible first | exact HB.out | apply below_alloc | apply pw_below_drewN | apply below_drew1) | exact HB.out)) hb); have n2_ := Aside0.mk (hbox); have n3_ := Aside0.mk ((by rw [hg]; exact (below_size (by repeat (first | (with_reducible first | exact HB.out | apply below_alloc | apply pw_below_drewN | apply below_drew1) | exact HB.out))) : w.heap.size ≤ gb205)); have n4_ := Aside0.mk ((by rw [hg]; exact (below_size (by repeat (first | (with_reducible first | exact HB.out | apply below_alloc | apply pw_below_drewN | apply below_drew1) | exact HB.out))) : w.heap.size ≤ gb205)); clear HO0_0; clear HB; have HO0_0 := n0_; have HB := n1_; have BK205 := n2_; have GW205 := n3_; have GE205 := n4_; clear n0_ n1_ n2_ n3_ n4_; clear hb hbox hg; have hcz7_0 : w6.cell? ⟨gb205, 0, none⟩ = some (.slice A0_0 l0_0.length c0_0) := (blk_cell BK205.out 0).trans rfl; have hcz7_1 : w6.cell? ⟨gb205, 1, none⟩ = some (.slice A0_1 l0_1.length c0_1) := (blk_cell BK205.out 1).trans rfl; have hcz7_2 : w6.cell? ⟨gb205, 2, none⟩ = some (.slice A0_2 l0_2.length c0_2) := (blk_cell BK205.out 2).trans rfl; have hcz7_3 : w6.cell? ⟨gb205, 3, none⟩ = some (.slice A0_3 l0_3.length c0_3) := (blk_cell BK205.out 3).trans rfl; have hcz7_4 : w6.cell? ⟨gb205, 4, none⟩ = some (.slice A0_4 l0_4.length c0_4) := (blk_cell BK205.out 4).trans rfl; have hcz7_5 : w6.cell? ⟨gb205, 5, none⟩ = some (.int .i64 a0_5) := (blk_cell BK205.out 5).trans rfl; have hcz7_6 : w6.cell? ⟨gb205, 6, none⟩ = some (.int .i64 a0_6) := (blk_cell BK205.out 6).trans rfl; have hfz7_0 := blk_frozen BK205.out 0; have hfz7_1 := blk_frozen BK205.out 1; have hfz7_2 := blk_frozen BK205.out 2; have hfz7_3 := blk_frozen BK205.out 3; have hfz7_4 := blk_frozen BK205.out 4; have hfz7_5 := blk_frozen BK205.out 5; have hfz7_6 := blk_frozen BK205.out 6))
    go_loopg [1, 5] k (fun kq v1 v5 w' => ∃ (x1_1 : Int) (x5_1 : List (S38)), v1 = .int .i64 x1_1 ∧ Aside0 (class_Fields.l0 kq x1_1 x5_1 l0_0 l0_1 l0_2 l0_3 l0_4 a0_5 a0_6 = some r) ∧ Aside0 (kq ≤ k) ∧ Aside0 (Kd.R k38 38 w' w.heap.size (fun k_ => (w.heap.size ≤ k_)) v5 x5_1) ∧ Aside0 (Kd.V k80 80 w' w.heap.size (fun k_ => (P0_0_ k_ ∨ w.heap.size ≤ k_) ∧ some k_ ≠ (v5 : Value).ownBlock ∧ k_ ≠ gb205) (.slice A0_0 l0_0.length c0_0) l0_0) ∧ Aside0 (w'.heap[gb205]? = some (.cells #[(.slice A0_0 l0_0.length c0_0), (.slice A0_1 l0_1.length c0_1), (.slice A0_2 l0_2.length c0_2), (.slice A0_3 l0_3.length c0_3), (.slice A0_4 l0_4.length c0_4), .int .i64 a0_5, .int .i64 a0_6] 28 (0, 0))) ∧ Aside0 (Below w.heap.size w w'))
    case atStart => exact ⟨(a1), (([] : List (S38))), (by first | rfl | (simp; done) | (simp [*]; done)), H', ⟨Nat.le_refl _⟩, ⟨by first | exact Kd.R_nil _ _ _ _ _ | exact Kd.N_nil _ _ _ _ _ | exact Kd.V_nil _ _ _ _ _ | exact Kd.Q_nil _ _ _ _ _ | exact Kd.S_nil _ _ _ _ _⟩, ⟨by (with_reducible repeat (first | apply Kd.V_alloc | apply Kd.V_drewN | apply Kd.V_drew)); exact Kd.V_mono HO0_0.out (fun _ hk => ⟨hk.1, ⟨(by simp [Value.ownBlock]), hk.2⟩⟩)⟩, ⟨by (with_reducible repeat (first | refine blk_drewN ?_ _ | refine blk_drew ?_ | refine blk_alloc ?_ _)); exact BK205.out⟩, ⟨by repeat (first | (with_reducible first | exact HB.out | apply below_alloc | apply pw_below_drewN | apply below_drew1 | refine below_set ?_ GE205.out) | exact HB.out)⟩⟩
    case round =>
      clear H'
      try clear p2
      try clear c3
      try clear c3b0
      try clear c4
      try clear hcz5_0
      try clear hcz5_1
      try clear hcz5_2
      try clear hcz5_3
      try clear hcz5_4
      try clear hcz5_5
      try clear hcz5_6
      try clear hcz7_0
      try clear hcz7_1
      try clear hcz7_2
      try clear hcz7_3
      try clear hcz7_4
      try clear hcz7_5
      try clear hcz7_6
      try clear hfz5_0
      try clear hfz5_1
      try clear hfz5_2
      try clear hfz5_3
      try clear hfz5_4
      try clear hfz5_5
      try clear hfz5_6
      try clear hfz7_0
      try clear hfz7_1
      try clear hfz7_2
      try clear hfz7_3
      try clear hfz7_4
      try clear hfz7_5
      try clear hfz7_6
      obtain ⟨x1_1, x5_1, rfl, HA, HK1, HO_5, HO_206000, BK205, HB⟩ := hrel
      cases gk with
      | zero => exact absurd HA.out (by simp [class_Fields.l0])
      | succ k1 =>
        have H := HA.out
        clear HA
        simp only [class_Fields.l0] at H
        by_cases c8 : x1_1 ≥ 0
        · rw [if_pos c8] at H
          have c8b0 : decide (0 ≤ x1_1) = true := decide_eq_true c8
          clear c8
          by_cases c9 : 0 ≤ x1_1
          · rw [if_pos c9] at H
            have c9b0 : decide (0 ≤ x1_1) = true := decide_eq_true c9
            clear c9
            by_cases c10 : x1_1 < (l0_0.length : Int)
            · rw [if_pos c10] at H
              have c10b0 : decide (x1_1 < (l0_0.length : Int)) = true := decide_eq_true c10
              clear c10
              obtain ⟨y207, hy207⟩ : ∃ y_ : List (List (S38)), y_ = (([(rd_T80 l0_0 x1_1).f1, x5_1] : List (List (S38)))) := ⟨_, rfl⟩
              replace H : ((api_Type_20.f k1 y207).bind fun t210 => ((class_up.f l0_0 l0_1 l0_2 l0_3 l0_4 a0_5 a0_6 x1_1).bind fun t213 => (class_Fields.l0 k1 t213 t210 l0_0 l0_1 l0_2 l0_3 l0_4 a0_5 a0_6))) = some r := by first | (rw [hy207]; with_reducible exact H) | (have H2_ := (Option.bind_some _ _).symm.trans H; rw [hy207]; with_reducible exact H2_) | (have H2_ := (Option.bind_some _ _).symm.trans H; with_reducible exact H2_) | with_reducible exact H | (rw [hy207]; exact H) | exact H
              have Ny207 := Aside0.mk hy207
              clear hy207
              replace H := Option.bind_eq_some_iff.mp H
              obtain ⟨t210, A110, H⟩ := H
              replace H : ((class_up.f l0_0 l0_1 l0_2 l0_3 l0_4 a0_5 a0_6 x1_1).bind fun t213 => (class_Fields.l0 k1 t213 t210 l0_0 l0_1 l0_2 l0_3 l0_4 a0_5 a0_6)) = some r := H
              have A11 := Aside0.mk A110
              clear A110
              replace H := Option.bind_eq_some_iff.mp H
              obtain ⟨t213, A120, H⟩ := H
              replace H : (class_Fields.l0 k1 t213 t210 l0_0 l0_1 l0_2 l0_3 l0_4 a0_5 a0_6) = some r := H
              have A12 := Aside0.mk A120
              clear A120
              have H' := Aside0.mk H
              clear H
              have hcz13_0 : wr.cell? ⟨gb205, 0, none⟩ = some (.slice A0_0 l0_0.length c0_0) := (blk_cell BK205.out 0).trans rfl
              have hcz13_1 : wr.cell? ⟨gb205, 1, none⟩ = some (.slice A0_1 l0_1.length c0_1) := (blk_cell BK205.out 1).trans rfl
              have hcz13_2 : wr.cell? ⟨gb205, 2, none⟩ = some (.slice A0_2 l0_2.length c0_2) := (blk_cell BK205.out 2).trans rfl
              have hcz13_3 : wr.cell? ⟨gb205, 3, none⟩ = some (.slice A0_3 l0_3.length c0_3) := (blk_cell BK205.out 3).trans rfl
              have hcz13_4 : wr.cell? ⟨gb205, 4, none⟩ = some (.slice A0_4 l0_4.length c0_4) := (blk_cell BK205.out 4).trans rfl
              have hcz13_5 : wr.cell? ⟨gb205, 5, none⟩ = some (.int .i64 a0_5) := (blk_cell BK205.out 5).trans rfl
              have hcz13_6 : wr.cell? ⟨gb205, 6, none⟩ = some (.int .i64 a0_6) := (blk_cell BK205.out 6).trans rfl
              have hfz13_0 := blk_frozen BK205.out 0
              have hfz13_1 := blk_frozen BK205.out 1
              have hfz13_2 := blk_frozen BK205.out 2
              have hfz13_3 := blk_frozen BK205.out 3
              have hfz13_4 := blk_frozen BK205.out 4
              have hfz13_5 := blk_frozen BK205.out 5
              have hfz13_6 := blk_frozen BK205.out 6
              have p206 : 0 ≤ (x1_1 : Int) := of_decide_eq_true (by first | (with_reducible assumption) | assumption)
              have q206 : x1_1 < (l0_0.length : Int) := of_decide_eq_true (by first | (with_reducible assumption) | assumption)
              obtain ⟨ad206, A206_1, c206_1, A206_2, c206_2, e206, hx206_0, hx206_1, hx206_2, hl206_1, hi206_1, hl206_2, hi206_2⟩ := at_T80 (Kd.V_reads' HO_206000.out).2.2 x1_1 p206 q206
              cases e206
              obtain ⟨ce206, hce206, hMe206, hcc206⟩ := Kd.V_get HO_206000.out z80 x1_1 p206 (by first | exact q206 | exact of_decide_eq_true (by first | (with_reducible assumption) | assumption) | (have e_ := (Kd.V_reads' HO_206000.out).1; omega))
              obtain ⟨ua206_1, uc206_1, ua206_2, uc206_2, rfl, ul206_1, ge206_1, ul206_2, ge206_2⟩ := k80_openF hMe206
              have hv206_1 := hcc206 1 _ rfl
              rw [add_field _ _ 1 (by omega)] at hv206_1
              replace hv206_1 := Option.some.inj (hv206_1.symm.trans hx206_1)
              injection hv206_1 with hva_ hvn_ hvc_
              rw [hva_] at ge206_1
              rw [hvc_] at ul206_1
              have HL206_1 := Aside0.mk (show Kd.V k38 38 _ w.heap.size _ _ ((rd_T80 l0_0 x1_1).f1) from Kd.V_mk ul206_1 ge206_1)
              clear hva_ hvn_ hvc_ ge206_1 ul206_1
              have hv206_2 := hcc206 2 _ rfl
              rw [add_field _ _ 2 (by omega)] at hv206_2
              replace hv206_2 := Option.some.inj (hv206_2.symm.trans hx206_2)
              injection hv206_2 with hva_ hvn_ hvc_
              rw [hva_] at ge206_2
              rw [hvc_] at ul206_2
              have HL206_2 := Aside0.mk (show Kd.V (Kd.int .i64) 3 _ w.heap.size _ _ ((rd_T80 l0_0 x1_1).f2) from Kd.V_mk ul206_2 ge206_2)
              clear hva_ hvn_ hvc_ ge206_2 ul206_2
              clear hcc206 hce206
              have HR206_1 := Aside0.mk hi206_1
              have HC206_1 := Aside0.mk hl206_1
              clear hi206_1 hl206_1
              have HR206_2 := Aside0.mk hi206_2
              have HC206_2 := Aside0.mk hl206_2
              clear hi206_2 hl206_2
              replace p206 := eq_true p206
              replace q206 := eq_true q206
              obtain ⟨Ao14, co14, eo14⟩ := Kd.R_slice HO_5.out
              subst eo14
              go_wp2_with (first | ((with_reducible refine gate_dst (N := 23) rfl ?_); refine Kd.N_lit (Kd.slice 38 k38) _ 23 ?hg (N' := 23) ?hd (xs := ([(rd_T80 l0_0 x1_1).f1, x5_1] : List (List (S38)))) (inner := [.slice A206_1 ((rd_T80 l0_0 x1_1).f1).length c206_1, .slice Ao14 x5_1.length co14]) (ok := (fun k_ => (P0_0_ k_ ∨ w.heap.size ≤ k_) ∧ k_ ≠ gb205)) (okp := (fun k_ => (P0_0_ k_ ∨ w.heap.size ≤ k_) ∧ k_ ≠ gb205)) ?hr ?hp (fun _ hk => hk) ((show ∀ k_, wr.heap.size ≤ k_ → (fun k_ => (P0_0_ k_ ∨ w.heap.size ≤ k_) ∧ k_ ≠ gb205) k_ from fun k_ hk => ⟨(.inr (Nat.le_trans (below_size (by repeat (first | (with_reducible first | exact HB.out | apply below_alloc | apply pw_below_drewN | apply below_drew1 | refine below_set ?_ GE205.out) | exact HB.out))) hk)), Kd.freshB (g := gb205) (o := .cells #[.slice (some ad206) l0_0.length c0_0, .slice A0_1 l0_1.length c0_1, .slice A0_2 l0_2.length c0_2, .slice A0_3 l0_3.length c0_3, .slice A0_4 l0_4.length c0_4, .int .i64 a0_5, .int .i64 a0_6] 28 (0, 0)) (by (with_reducible repeat (first | refine blk_drewN ?_ _ | refine blk_drew ?_ | refine blk_alloc ?_ _)); exact BK205.out) k_ hk⟩) _ (Nat.le_refl _)) (Below.refl _ _) (Nat.le_refl _) (by simp) ?_; (case hd => rfl); (case hg => rfl); (case hr => first | (go_simp; done) | (go_simp; rfl)); (case hp => exact (Reps.one (show Kd.FK (Kd.slice 38 k38) _ _ ((rd_T80 l0_0 x1_1).f1) [.slice A206_1 ((rd_T80 l0_0 x1_1).f1).length c206_1] from (Kd.FK_slice_mk (Kd.V_reads' (Kd.V_mono (ok' := (fun k_ => (P0_0_ k_ ∨ w.heap.size ≤ k_) ∧ k_ ≠ gb205)) (HL206_1.out) (fun k_ hk => ⟨hk.1, hk.2.2⟩))).2.1 (Kd.V_F (Kd.V_mono (ok' := (fun k_ => (P0_0_ k_ ∨ w.heap.size ≤ k_) ∧ k_ ≠ gb205)) (HL206_1.out) (fun k_ hk => ⟨hk.1, hk.2.2⟩))))) (Reps.one (show Kd.FK (Kd.slice 38 k38) _ _ x5_1 [.slice Ao14 x5_1.length co14] from (Kd.FK_slice_mk (Kd.R_reads' (Kd.R_mono (ok' := (fun k_ => (P0_0_ k_ ∨ w.heap.size ≤ k_) ∧ k_ ≠ gb205)) (Kd.R_types (HO_5.out) BK205.out (by decide)) (fun k_ hk => ⟨(.inr (hk.1)), hk.2⟩))).2.1 (Kd.R_F (Kd.R_mono (ok' := (fun k_ => (P0_0_ k_ ∨ w.heap.size ≤ k_) ∧ k_ ≠ gb205)) (Kd.R_types (HO_5.out) BK205.out (by decide)) (fun k_ hk => ⟨(.inr (hk.1)), hk.2⟩))))) (Reps.none _ _)))); intro v208 w15 ho16 hb hg_ hnew_; clear hg_ hnew_; (first | rw [← Ny207.out] at ho16 | (simp only [Int.reduceToNat] at ho16; rw [← Ny207.out] at ho16)); have n0_ := Aside0.mk (Kd.V_elder' (by (with_reducible repeat (first | apply Kd.V_alloc | apply Kd.V_drewN | apply Kd.V_drew)); exact HO_206000.out) (Kd.N_base ho16) hb); have n1_ := Aside0.mk (Kd.V_elder' (by (with_reducible repeat (first | apply Kd.V_alloc | apply Kd.V_drewN | apply Kd.V_drew)); exact HL206_1.out) (Kd.N_base ho16) hb); have n2_ := Aside0.mk (Kd.V_elder' (by (with_reducible repeat (first | apply Kd.V_alloc | apply Kd.V_drewN | apply Kd.V_drew)); exact HL206_2.out) (Kd.N_base ho16) hb); have n3_ := Aside0.mk (Kd.N_lower ho16 (below_size (by repeat (first | (with_reducible first | exact HB.out | apply below_alloc | apply pw_below_drewN | apply below_drew1 | refine below_set ?_ GE205.out) | exact HB.out)))); have n4_ := Aside0.mk (blk_below (g := gb205) (o := .cells #[.slice (some ad206) l0_0.length c0_0, .slice A0_1 l0_1.length c0_1, .slice A0_2 l0_2.length c0_2, .slice A0_3 l0_3.length c0_3, .slice A0_4 l0_4.length c0_4, .int .i64 a0_5, .int .i64 a0_6] 28 (0, 0)) (by (with_reducible repeat (first | refine blk_drewN ?_ _ | refine blk_drew ?_ | refine blk_alloc ?_ _)); exact BK205.out) hb); have n5_ := Aside0.mk (Kd.C_below (by repeat (first | (with_reducible exact HR206_1.out) | (with_reducible refine Kd.C_alloc ?_ _) | (with_reducible refine Kd.C_drewN ?_ _) | (with_reducible refine Kd.C_drew ?_) | exact HR206_1.out)) hb); have n6_ := Aside0.mk (Kd.C_below (by repeat (first | (with_reducible exact HR206_2.out) | (with_reducible refine Kd.C_alloc ?_ _) | (with_reducible refine Kd.C_drewN ?_ _) | (with_reducible refine Kd.C_drew ?_) | exact HR206_2.out)) hb); have n7_ := Aside0.mk (below_step (by repeat (first | (with_reducible first | exact HB.out | apply below_alloc | apply pw_below_drewN | apply below_drew1 | refine below_set ?_ GE205.out) | exact HB.out)) hb); clear HO_206000; clear HL206_1; clear HL206_2; clear BK205; clear HR206_1; clear HR206_2; clear HB; clear HO_5; have HO_206000 := n0_; have HL206_1 := n1_; have HL206_2 := n2_; have HO209 := n3_; have BK205 := n4_; have HR206_1 := n5_; have HR206_2 := n6_; have HB := n7_; clear n0_ n1_ n2_ n3_ n4_ n5_ n6_ n7_; clear hb ho16; obtain ⟨Ao17, co17, eo17⟩ := Kd.N_slice HO209.out; subst eo17) | ((with_reducible refine gate_callee (f := 20) rfl ?_); refine goesL_ (some 24) rfl rfl Try.func20 (by kernel_rfl) rfl #[.slice Ao17 y207.length co17] rfl (by (try simp only [List.map_toArray, List.map_cons, List.map_nil]); first | done | rfl | (simp only [List.length_drop, List.length_take]; rfl)) ?_; (with_reducible refine (api_Type_20.calls k1 _ _ y207 t210 _ ?side1 ?side2 A11.out).mono ?_); (case side1 => repeat (first | exact (Kd.N_reads' HO209.out).2.2 | (with_reducible refine Kd.C_alloc ?_ _) | (with_reducible refine Kd.C_drewN ?_ _) | (with_reducible refine Kd.C_drew ?_))); (case side2 => exact (Kd.N_reads' HO209.out).2.1); rintro e w18 ⟨v211, rfl, ho0, hb⟩; refine ⟨_, rfl, ?_⟩; have n0_ := Aside0.mk (Kd.V_elder' (by (with_reducible repeat (first | apply Kd.V_alloc | apply Kd.V_drewN | apply Kd.V_drew)); exact HO_206000.out) (Kd.R_base ho0) hb); have n1_ := Aside0.mk (Kd.V_elder' (by (with_reducible repeat (first | apply Kd.V_alloc | apply Kd.V_drewN | apply Kd.V_drew)); exact HL206_1.out) (Kd.R_base ho0) hb); have n2_ := Aside0.mk (Kd.V_elder' (by (with_reducible repeat (first | apply Kd.V_alloc | apply Kd.V_drewN | apply Kd.V_drew)); exact HL206_2.out) (Kd.R_base ho0) hb); have n3_ := Aside0.mk (Kd.N_elder' (by (with_reducible repeat (first | apply Kd.N_alloc | apply Kd.N_drewN | apply Kd.N_drew)); exact HO209.out) (Kd.R_base ho0) hb); have n4_ := Aside0.mk (Kd.R_lower (Kd.R_newM (M := fun k_ => (w.heap.size ≤ k_)) ho0 (below_size (by repeat (first | (with_reducible first | exact HB.out | apply below_alloc | apply pw_below_drewN | apply below_drew1 | refine below_set ?_ GE205.out) | exact HB.out))) (fun k_ h_ => h_)) (below_size (by repeat (first | (with_reducible first | exact HB.out | apply below_alloc | apply pw_below_drewN | apply below_drew1 | refine below_set ?_ GE205.out) | exact HB.out)))); have n5_ := Aside0.mk (blk_below (g := gb205) (o := .cells #[.slice (some ad206) l0_0.length c0_0, .slice A0_1 l0_1.length c0_1, .slice A0_2 l0_2.length c0_2, .slice A0_3 l0_3.length c0_3, .slice A0_4 l0_4.length c0_4, .int .i64 a0_5, .int .i64 a0_6] 28 (0, 0)) (by (with_reducible repeat (first | refine blk_drewN ?_ _ | refine blk_drew ?_ | refine blk_alloc ?_ _)); exact BK205.out) hb); have n6_ := Aside0.mk (Kd.C_below (by repeat (first | (with_reducible exact HR206_1.out) | (with_reducible refine Kd.C_alloc ?_ _) | (with_reducible refine Kd.C_drewN ?_ _) | (with_reducible refine Kd.C_drew ?_) | exact HR206_1.out)) hb); have n7_ := Aside0.mk (Kd.C_below (by repeat (first | (with_reducible exact HR206_2.out) | (with_reducible refine Kd.C_alloc ?_ _) | (with_reducible refine Kd.C_drewN ?_ _) | (with_reducible refine Kd.C_drew ?_) | exact HR206_2.out)) hb); have n8_ := Aside0.mk (below_step (by repeat (first | (with_reducible first | exact HB.out | apply below_alloc | apply pw_below_drewN | apply below_drew1 | refine below_set ?_ GE205.out) | exact HB.out)) hb); clear HO_206000; clear HL206_1; clear HL206_2; clear HO209; clear BK205; clear HR206_1; clear HR206_2; clear HB; have HO_206000 := n0_; have HL206_1 := n1_; have HL206_2 := n2_; have HO209 := n3_; have HO212 := n4_; have BK205 := n5_; have HR206_1 := n6_; have HR206_2 := n7_; have HB := n8_; clear n0_ n1_ n2_ n3_ n4_ n5_ n6_ n7_ n8_; (try clear hb); (try clear hb2); (try clear hk); (try clear hi); (try clear ho0); have hcz19_0 : w18.cell? ⟨gb205, 0, none⟩ = some (.slice (some ad206) l0_0.length c0_0) := (blk_cell BK205.out 0).trans rfl; have hcz19_1 : w18.cell? ⟨gb205, 1, none⟩ = some (.slice A0_1 l0_1.length c0_1) := (blk_cell BK205.out 1).trans rfl; have hcz19_2 : w18.cell? ⟨gb205, 2, none⟩ = some (.slice A0_2 l0_2.length c0_2) := (blk_cell BK205.out 2).trans rfl; have hcz19_3 : w18.cell? ⟨gb205, 3, none⟩ = some (.slice A0_3 l0_3.length c0_3) := (blk_cell BK205.out 3).trans rfl; have hcz19_4 : w18.cell? ⟨gb205, 4, none⟩ = some (.slice A0_4 l0_4.length c0_4) := (blk_cell BK205.out 4).trans rfl; have hcz19_5 : w18.cell? ⟨gb205, 5, none⟩ = some (.int .i64 a0_5) := (blk_cell BK205.out 5).trans rfl; have hcz19_6 : w18.cell? ⟨gb205, 6, none⟩ = some (.int .i64 a0_6) := (blk_cell BK205.out 6).trans rfl; have hfz19_0 := blk_frozen BK205.out 0; have hfz19_1 := blk_frozen BK205.out 1; have hfz19_2 := blk_frozen BK205.out 2; have hfz19_3 := blk_frozen BK205.out 3; have hfz19_4 := blk_frozen BK205.out 4; have hfz19_5 := blk_frozen BK205.out 5; have hfz19_6 := blk_frozen BK205.out 6) | ((with_reducible refine gate_callee (f := 58) rfl ?_); refine goesL_ (some 15) rfl rfl Try.func58 (by kernel_rfl) rfl #[.agg #[.slice (some ad206) l0_0.length c0_0, .slice A0_1 l0_1.length c0_1, .slice A0_2 l0_2.length c0_2, .slice A0_3 l0_3.length c0_3, .slice A0_4 l0_4.length c0_4, .int .i64 a0_5, .int .i64 a0_6], .int .i64 x1_1] rfl (by (try simp only [List.map_toArray, List.map_cons, List.map_nil]); first | done | rfl | (simp only [List.length_drop, List.length_take]; rfl)) ?_; (with_reducible refine (class_up.calls _ _ l0_0 _ _ l0_1 _ _ l0_2 _ _ l0_3 _ _ l0_4 a0_5 a0_6 x1_1 t213 _ ?side1 ?side2 ?side3 ?side4 ?side5 ?side6 ?side7 ?side8 ?side9 ?side10 A12.out).mono ?_); (case side1 => repeat (first | exact (Kd.V_reads' HO_206000.out).2.2 | (with_reducible refine Kd.C_alloc ?_ _) | (with_reducible refine Kd.C_drewN ?_ _) | (with_reducible refine Kd.C_drew ?_))); (case side2 => exact (Kd.V_reads' HO_206000.out).2.1); (case side3 => repeat (first | exact (Kd.C_below HR0_1.out HB.out) | (with_reducible refine Kd.C_alloc ?_ _) | (with_reducible refine Kd.C_drewN ?_ _) | (with_reducible refine Kd.C_drew ?_))); (case side4 => exact HC0_1.out); (case side5 => repeat (first | exact (Kd.C_below HR0_2.out HB.out) | (with_reducible refine Kd.C_alloc ?_ _) | (with_reducible refine Kd.C_drewN ?_ _) | (with_reducible refine Kd.C_drew ?_))); (case side6 => exact HC0_2.out); (case side7 => repeat (first | exact (Kd.C_below HR0_3.out HB.out) | (with_reducible refine Kd.C_alloc ?_ _) | (with_reducible refine Kd.C_drewN ?_ _) | (with_reducible refine Kd.C_drew ?_))); (case side8 => exact HC0_3.out); (case side9 => repeat (first | exact (Kd.C_below HR0_4.out HB.out) | (with_reducible refine Kd.C_alloc ?_ _) | (with_reducible refine Kd.C_drewN ?_ _) | (with_reducible refine Kd.C_drew ?_))); (case side10 => exact HC0_4.out); rintro e w20 ⟨rfl, hb⟩; refine ⟨_, rfl, ?_⟩; have n0_ := Aside0.mk (Kd.V_below (by (with_reducible repeat (first | apply Kd.V_alloc | apply Kd.V_drewN | apply Kd.V_drew)); exact HO_206000.out) hb); have n1_ := Aside0.mk (Kd.V_below (by (with_reducible repeat (first | apply Kd.V_alloc | apply Kd.V_drewN | apply Kd.V_drew)); exact HL206_1.out) hb); have n2_ := Aside0.mk (Kd.V_below (by (with_reducible repeat (first | apply Kd.V_alloc | apply Kd.V_drewN | apply Kd.V_drew)); exact HL206_2.out) hb); have n3_ := Aside0.mk (Kd.N_below (by (with_reducible repeat (first | apply Kd.N_alloc | apply Kd.N_drewN | apply Kd.N_drew)); exact HO209.out) hb); have n4_ := Aside0.mk (Kd.R_below (by (with_reducible repeat (first | apply Kd.R_alloc | apply Kd.R_drewN | apply Kd.R_drew)); exact HO212.out) hb); have n5_ := Aside0.mk (blk_below (g := gb205) (o := .cells #[.slice (some ad206) l0_0.length c0_0, .slice A0_1 l0_1.length c0_1, .slice A0_2 l0_2.length c0_2, .slice A0_3 l0_3.length c0_3, .slice A0_4 l0_4.length c0_4, .int .i64 a0_5, .int .i64 a0_6] 28 (0, 0)) (by (with_reducible repeat (first | refine blk_drewN ?_ _ | refine blk_drew ?_ | refine blk_alloc ?_ _)); exact BK205.out) hb); have n6_ := Aside0.mk (Kd.C_below (by repeat (first | (with_reducible exact HR206_1.out) | (with_reducible refine Kd.C_alloc ?_ _) | (with_reducible refine Kd.C_drewN ?_ _) | (with_reducible refine Kd.C_drew ?_) | exact HR206_1.out)) hb); have n7_ := Aside0.mk (Kd.C_below (by repeat (first | (with_reducible exact HR206_2.out) | (with_reducible refine Kd.C_alloc ?_ _) | (with_reducible refine Kd.C_drewN ?_ _) | (with_reducible refine Kd.C_drew ?_) | exact HR206_2.out)) hb); have n8_ := Aside0.mk (below_step (by repeat (first | (with_reducible first | exact HB.out | apply below_alloc | apply pw_below_drewN | apply below_drew1 | refine below_set ?_ GE205.out) | exact HB.out)) hb); clear HO_206000; clear HL206_1; clear HL206_2; clear HO209; clear HO212; clear BK205; clear HR206_1; clear HR206_2; clear HB; have HO_206000 := n0_; have HL206_1 := n1_; have HL206_2 := n2_; have HO209 := n3_; have HO212 := n4_; have BK205 := n5_; have HR206_1 := n6_; have HR206_2 := n7_; have HB := n8_; clear n0_ n1_ n2_ n3_ n4_ n5_ n6_ n7_ n8_; (try clear hb); (try clear hb2); (try clear hk); (try clear hi)))
              go_roundg k1
              case measure => have := HK1.out; omega
              case rel => exact ⟨(t213), (t210), (by first | rfl | (simp; done) | (simp [*]; done)), H', ⟨by have := HK1.out; omega⟩, ⟨by (with_reducible repeat (first | apply Kd.R_alloc | apply Kd.R_drewN | apply Kd.R_drew)); exact Kd.R_mono HO212.out (fun _ hk => hk.1)⟩, ⟨by (with_reducible repeat (first | apply Kd.V_alloc | apply Kd.V_drewN | apply Kd.V_drew)); exact Kd.V_mono HO_206000.out (fun _ hk => ⟨hk.1.1.1, ⟨hk.2, hk.1.1.2.2⟩⟩)⟩, ⟨by (with_reducible repeat (first | refine blk_drewN ?_ _ | refine blk_drew ?_ | refine blk_alloc ?_ _)); exact BK205.out⟩, ⟨by repeat (first | (with_reducible first | exact HB.out | apply below_alloc | apply pw_below_drewN | apply below_drew1 | refine below_set ?_ GE205.out) | exact HB.out)⟩⟩
            · rw [if_neg c10] at H
              exact absurd H (by simp)
          · rw [if_neg c9] at H
            exact absurd H (by simp)
        · rw [if_neg c8] at H
          have c8b0 : decide (0 ≤ x1_1) = false := decide_eq_false c8
          clear c8
          obtain rfl := Option.some.inj H
          go_wp2
          go_ret
          exact ⟨_, by first | rfl | (simp [errW_none, errW_some] <;> rfl) | (simp [*, errW_none, errW_some] <;> rfl), by (with_reducible repeat (first | apply Kd.R_alloc | apply Kd.R_drewN | apply Kd.R_drew)); exact HO_5.out, by repeat (first | (with_reducible first | exact HB.out | apply below_alloc | apply pw_below_drewN | apply below_drew1 | refine below_set ?_ GE205.out) | exact HB.out)⟩

-- NOT PRINTED: function 42 (flow_called)

/-! ### class_Slot: function 43 -/
def class_Slot.f (l0_0 : List (S80)) (l0_1 : List (S38)) (l0_2 : List Int) (l0_3 : List (S41)) (l0_4 : List Int) (a0_5 : Int) (a0_6 : Int) (a1 : Int) (a2 : Int) : Option (Int × Bool) := if a1 < 0 then (some (0, false)) else (if a1 ≥ (l0_0.length : Int) then (some (0, false)) else (if a2 < 0 then (some (0, false)) else (if 0 ≤ a1 then (if a1 < (l0_0.length : Int) then (if a2 ≥ (((rd_T80 l0_0 a1).f2).length : Int) then (some (0, false)) else (if 0 ≤ a2 then (if a2 < (((rd_T80 l0_0 a1).f2).length : Int) then (some (rd ((rd_T80 l0_0 a1).f2) a2, true)) else (none)) else (none))) else (none)) else (none))))
set_option maxHeartbeats 8000000 in
set_option maxRecDepth 100000 in
theorem class_Slot.calls (A0_0 : Option Addr) (c0_0 : Nat) (l0_0 : List (S80)) (A0_1 : Option Addr) (c0_1 : Nat) (l0_1 : List (S38)) (A0_2 : Option Addr) (c0_2 : Nat) (l0_2 : List Int) (A0_3 : Option Addr) (c0_3 : Nat) (l0_3 : List (S41)) (A0_4 : Option Addr) (c0_4 : Nat) (l0_4 : List Int) (a0_5 : Int) (a0_6 : Int) (a1 : Int) (a2 : Int) (r1 : Int) (r2 : Bool) (w : World) (hr0_0 : Kd.C k80 w A0_0 l0_0.length l0_0) (hc0_0 : l0_0.length ≤ c0_0) (hr0_1 : Kd.C k38 w A0_1 l0_1.length l0_1) (hc0_1 : l0_1.length ≤ c0_1) (hr0_2 : Kd.C (Kd.int .i32) w A0_2 l0_2.length l0_2) (hc0_2 : l0_2.length ≤ c0_2) (hr0_3 : Kd.C k41 w A0_3 l0_3.length l0_3) (hc0_3 : l0_3.length ≤ c0_3) (hr0_4 : Kd.C (Kd.int .i64) w A0_4 l0_4.length l0_4) (hc0_4 : l0_4.length ≤ c0_4) (h : class_Slot.f l0_0 l0_1 l0_2 l0_3 l0_4 a0_5 a0_6 a1 a2 = some (r1, r2)) :
    Calls Try.prog 43 #[.agg #[.slice A0_0 l0_0.length c0_0, .slice A0_1 l0_1.length c0_1, .slice A0_2 l0_2.length c0_2, .slice A0_3 l0_3.length c0_3, .slice A0_4 l0_4.length c0_4, .int .i64 a0_5, .int .i64 a0_6], .int .i64 a1, .int .i64 a2] w fun e w' => e = .returned (.tuple #[.int .i64 r1, .bool r2]) ∧ Below w.heap.size w w' := by
  have HR := Aside0.mk hr0_0
  have HM := Aside0.mk h
  clear hc0_0 hr0_1 hc0_1 hr0_2 hc0_2 hr0_3 hc0_3 hr0_4 hc0_4
  have fin : ∀ {a a' : Int} {b b' : Bool}, some (a, b) = some (a', b') → Ending.returned (.tuple #[.int .i64 a, .bool b]) = .returned (.tuple #[.int .i64 a', .bool b']) := fun e => by injection e with e; injection e with e1 e2; rw [e1, e2]
  unfold class_Slot.f at h
  by_cases n0 : a1 < 0
  · rw [if_pos n0] at h
    have HE := Aside0.mk h
    clear h hr0_0
    go_enter Try.func43, Try.ntmps43
    go_wp2_with fail
    go_ret2
    exact ⟨fin HE.out, below_alloc (Below.refl _ _) _⟩
  rw [if_neg n0] at h
  by_cases n1 : (l0_0.length : Int) ≤ a1
  · rw [if_pos n1] at h
    have HE := Aside0.mk h
    clear h hr0_0
    go_enter Try.func43, Try.ntmps43
    go_wp2_with fail
    go_ret2
    exact ⟨fin HE.out, below_alloc (Below.refl _ _) _⟩
  rw [if_neg n1] at h
  by_cases n2 : a2 < 0
  · rw [if_pos n2] at h
    have HE := Aside0.mk h
    clear h hr0_0
    go_enter Try.func43, Try.ntmps43
    go_wp2_with fail
    go_ret2
    exact ⟨fin HE.out, below_alloc (Below.refl _ _) _⟩
  rw [if_neg n2, if_pos (by omega), if_pos (by omega)] at h
  obtain ⟨ad, A1_, k1_, A2_, k2_, hA0, q0, q1, q2, s1, s2, s3, s4⟩ := at_T80 hr0_0 a1 (by omega) (by omega)
  subst hA0
  clear q0 q1 s1 s2 s3 hr0_0
  have ql := World.block_lt_of_cell? w _ q2
  have ql1 : (ad.add (a1.toNat * 3)).block < w.heap.size + 1 := Nat.lt_succ_of_lt ql
  obtain ⟨X, hX⟩ : ∃ X, (rd_T80 l0_0 a1).f2 = X := ⟨_, rfl⟩
  rw [hX] at h q2 s4
  clear hX
  by_cases n3 : (X.length : Int) ≤ a2
  · rw [if_pos n3] at h
    have HE := Aside0.mk h
    clear h
    go_enter Try.func43, Try.ntmps43
    go_wp2_with fail
    go_ret2
    exact ⟨fin HE.out, below_alloc (Below.refl _ _) _⟩
  rw [if_neg n3, if_pos (by omega), if_pos (by omega)] at h
  have HE := Aside0.mk h
  clear h
  obtain ⟨bd, eb, hel⟩ := (readsInt_of.2 (Kd.reads_of_C (d := (0 : Int)) s4)).at_ a2 (by omega) (by omega)
  subst eb
  have qb := World.block_lt_of_cell? w _ hel
  have qb1 : (bd.add a2.toNat).block < w.heap.size + 1 := Nat.lt_succ_of_lt qb
  clear s4
  go_enter Try.func43, Try.ntmps43
  go_wp2_with fail
  go_ret2
  exact ⟨fin HE.out, below_alloc (Below.refl _ _) _⟩

-- NOT PRINTED: function 21 (flow_of)

/-! ### kind_IsRef: function 44 -/
def kind_IsRef.f (a0_0 : Int) (a0_1 : Int) : Option (Bool) := if a0_0 = 2 then (some true) else (if a0_0 = 3 then (some true) else (some (a0_0 == 4)))
set_option maxHeartbeats 8000000 in
set_option maxRecDepth 100000 in
theorem kind_IsRef.calls (a0_0 : Int) (a0_1 : Int) (r : Bool) (w : World) (h : kind_IsRef.f a0_0 a0_1 = some r) :
    Calls Try.prog 44 #[.agg #[.int .i64 a0_0, .int .i64 a0_1]] w fun e w' => e = .returned (.bool r) ∧ Below w.heap.size w w' := by
  have hu38 := Try.underlying38
  have HB := Aside0.mk (Below.refl w.heap.size w)
  have H : (if a0_0 = 2 then (some true) else (if a0_0 = 3 then (some true) else (some (a0_0 == 4)))) = some r := h
  clear h
  by_cases c2 : a0_0 = 2
  · rw [if_pos c2] at H
    have c2b0 : (a0_0 == 2) = true := beq_iff_eq.mpr c2
    have c2b1 : (a0_0 != 2) = false := bne_eq_false_iff_eq.mpr c2
    clear c2
    obtain rfl := Option.some.inj H
    go_enter Try.func44, Try.ntmps44
    go_wp2_with (first | ((with_reducible refine gate_dst (N := 1) rfl ?_); refine box_event ?hg (N := 1) ?hd (cs := #[.int .i64 a0_0, .int .i64 a0_1]) (t := 38) ?hr ?_; (case hd => rfl); (case hg => rfl); (case hr => first | (go_simp; done) | (go_simp; rfl)); intro gb223 hg w3 hbox hb; have n0_ := Aside0.mk (below_step (by repeat (first | (with_reducible first | exact HB.out | apply below_alloc | apply pw_below_drewN | apply below_drew1) | exact HB.out)) hb); have n1_ := Aside0.mk (hbox); have n2_ := Aside0.mk ((by rw [hg]; exact (below_size (by repeat (first | (with_reducible first | exact HB.out | apply below_alloc | apply pw_below_drewN | apply below_drew1) | exact HB.out))) : w.heap.size ≤ gb223)); have n3_ := Aside0.mk ((by rw [hg]; exact (below_size (by repeat (first | (with_reducible first | exact HB.out | apply below_alloc | apply pw_below_drewN | apply below_drew1) | exact HB.out))) : w.heap.size ≤ gb223)); clear HB; have HB := n0_; have BK223 := n1_; have GW223 := n2_; have GE223 := n3_; clear n0_ n1_ n2_ n3_; clear hb hbox hg; have hcz4_0 : w3.cell? ⟨gb223, 0, none⟩ = some (.int .i64 a0_0) := (blk_cell BK223.out 0).trans rfl; have hcz4_1 : w3.cell? ⟨gb223, 1, none⟩ = some (.int .i64 a0_1) := (blk_cell BK223.out 1).trans rfl; have hfz4_0 := blk_frozen BK223.out 0; have hfz4_1 := blk_frozen BK223.out 1))
    go_ret
    exact ⟨by first | rfl | (simp [errW_none, errW_some] <;> rfl) | (simp [*, errW_none, errW_some] <;> rfl), by repeat (first | (with_reducible first | exact HB.out | apply below_alloc | apply pw_below_drewN | apply below_drew1 | refine below_set ?_ GE223.out) | exact HB.out)⟩
  · rw [if_neg c2] at H
    have c2b0 : (a0_0 == 2) = false := beq_eq_false_iff_ne.mpr c2
    have c2b1 : (a0_0 != 2) = true := bne_iff_ne.mpr c2
    by_cases c5 : a0_0 = 3
    · rw [if_pos c5] at H
      have c5b0 : (a0_0 == 3) = true := beq_iff_eq.mpr c5
      have c5b1 : (a0_0 != 3) = false := bne_eq_false_iff_eq.mpr c5
      clear c5
      obtain rfl := Option.some.inj H
      go_enter Try.func44, Try.ntmps44
      go_wp2_with (first | ((with_reducible refine gate_dst (N := 1) rfl ?_); refine box_event ?hg (N := 1) ?hd (cs := #[.int .i64 a0_0, .int .i64 a0_1]) (t := 38) ?hr ?_; (case hd => rfl); (case hg => rfl); (case hr => first | (go_simp; done) | (go_simp; rfl)); intro gb223 hg w6 hbox hb; have n0_ := Aside0.mk (below_step (by repeat (first | (with_reducible first | exact HB.out | apply below_alloc | apply pw_below_drewN | apply below_drew1) | exact HB.out)) hb); have n1_ := Aside0.mk (hbox); have n2_ := Aside0.mk ((by rw [hg]; exact (below_size (by repeat (first | (with_reducible first | exact HB.out | apply below_alloc | apply pw_below_drewN | apply below_drew1) | exact HB.out))) : w.heap.size ≤ gb223)); have n3_ := Aside0.mk ((by rw [hg]; exact (below_size (by repeat (first | (with_reducible first | exact HB.out | apply below_alloc | apply pw_below_drewN | apply below_drew1) | exact HB.out))) : w.heap.size ≤ gb223)); clear HB; have HB := n0_; have BK223 := n1_; have GW223 := n2_; have GE223 := n3_; clear n0_ n1_ n2_ n3_; clear hb hbox hg; have hcz7_0 : w6.cell? ⟨gb223, 0, none⟩ = some (.int .i64 a0_0) := (blk_cell BK223.out 0).trans rfl; have hcz7_1 : w6.cell? ⟨gb223, 1, none⟩ = some (.int .i64 a0_1) := (blk_cell BK223.out 1).trans rfl; have hfz7_0 := blk_frozen BK223.out 0; have hfz7_1 := blk_frozen BK223.out 1))
      go_ret
      exact ⟨by first | rfl | (simp [errW_none, errW_some] <;> rfl) | (simp [*, errW_none, errW_some] <;> rfl), by repeat (first | (with_reducible first | exact HB.out | apply below_alloc | apply pw_below_drewN | apply below_drew1 | refine below_set ?_ GE223.out) | exact HB.out)⟩
    · rw [if_neg c5] at H
      have c5b0 : (a0_0 == 3) = false := beq_eq_false_iff_ne.mpr c5
      have c5b1 : (a0_0 != 3) = true := bne_iff_ne.mpr c5
      obtain rfl := Option.some.inj H
      go_enter Try.func44, Try.ntmps44
      go_wp2_with (first | ((with_reducible refine gate_dst (N := 1) rfl ?_); refine box_event ?hg (N := 1) ?hd (cs := #[.int .i64 a0_0, .int .i64 a0_1]) (t := 38) ?hr ?_; (case hd => rfl); (case hg => rfl); (case hr => first | (go_simp; done) | (go_simp; rfl)); intro gb223 hg w8 hbox hb; have n0_ := Aside0.mk (below_step (by repeat (first | (with_reducible first | exact HB.out | apply below_alloc | apply pw_below_drewN | apply below_drew1) | exact HB.out)) hb); have n1_ := Aside0.mk (hbox); have n2_ := Aside0.mk ((by rw [hg]; exact (below_size (by repeat (first | (with_reducible first | exact HB.out | apply below_alloc | apply pw_below_drewN | apply below_drew1) | exact HB.out))) : w.heap.size ≤ gb223)); have n3_ := Aside0.mk ((by rw [hg]; exact (below_size (by repeat (first | (with_reducible first | exact HB.out | apply below_alloc | apply pw_below_drewN | apply below_drew1) | exact HB.out))) : w.heap.size ≤ gb223)); clear HB; have HB := n0_; have BK223 := n1_; have GW223 := n2_; have GE223 := n3_; clear n0_ n1_ n2_ n3_; clear hb hbox hg; have hcz9_0 : w8.cell? ⟨gb223, 0, none⟩ = some (.int .i64 a0_0) := (blk_cell BK223.out 0).trans rfl; have hcz9_1 : w8.cell? ⟨gb223, 1, none⟩ = some (.int .i64 a0_1) := (blk_cell BK223.out 1).trans rfl; have hfz9_0 := blk_frozen BK223.out 0; have hfz9_1 := blk_frozen BK223.out 1))
      go_ret
      exact ⟨by first | rfl | (simp [errW_none, errW_some] <;> rfl) | (simp [*, errW_none, errW_some] <;> rfl), by repeat (first | (with_reducible first | exact HB.out | apply below_alloc | apply pw_below_drewN | apply below_drew1 | refine below_set ?_ GE223.out) | exact HB.out)⟩

/-! ### kind_up: function 62 -/
def kind_up.f (l0 : List (S80)) (a1 : Int) : Option (Int) := if a1 < 0 then (some (-1)) else (if a1 ≥ (l0.length : Int) then (some (-1)) else (if 0 ≤ a1 then (if a1 < (l0.length : Int) then (if ((rd_T80 l0 a1).f0) ≥ a1 then (some (-1)) else (some ((rd_T80 l0 a1).f0))) else (none)) else (none)))
set_option maxHeartbeats 8000000 in
set_option maxRecDepth 100000 in
theorem kind_up.calls (A0 : Option Addr) (c0 : Nat) (l0 : List (S80)) (a1 : Int) (r : Int) (w : World) (hr0 : Kd.C k80 w A0 l0.length l0) (hc0 : l0.length ≤ c0) (h : kind_up.f l0 a1 = some r) :
    Calls Try.prog 62 #[.slice A0 l0.length c0, .int .i64 a1] w fun e w' => e = .returned (.int .i64 r) ∧ Drawn0 w w' := by
  have HR0 := Aside0.mk hr0
  have HC0 := Aside0.mk hc0
  clear hr0 hc0
  have H : (if a1 < 0 then (some (-1)) else (if a1 ≥ (l0.length : Int) then (some (-1)) else (if 0 ≤ a1 then (if a1 < (l0.length : Int) then (if ((rd_T80 l0 a1).f0) ≥ a1 then (some (-1)) else (some ((rd_T80 l0 a1).f0))) else (none)) else (none)))) = some r := h
  clear h
  by_cases c3 : a1 < 0
  · rw [if_pos c3] at H
    have c3b0 : decide (a1 < 0) = true := decide_eq_true c3
    clear c3
    obtain rfl := Option.some.inj H
    go_enter Try.func62, Try.ntmps62
    go_wp2
    go_ret
    exact ⟨by first | rfl | (simp; done) | (simp [*]; done), by repeat (first | exact Drawn0.refl _ | apply Drawn0.step)⟩
  · rw [if_neg c3] at H
    have c3b0 : decide (a1 < 0) = false := decide_eq_false c3
    clear c3
    by_cases c4 : a1 ≥ (l0.length : Int)
    · rw [if_pos c4] at H
      have c4b0 : decide ((l0.length : Int) ≤ a1) = true := decide_eq_true c4
      clear c4
      obtain rfl := Option.some.inj H
      go_enter Try.func62, Try.ntmps62
      go_wp2
      go_ret
      exact ⟨by first | rfl | (simp; done) | (simp [*]; done), by repeat (first | exact Drawn0.refl _ | apply Drawn0.step)⟩
    · rw [if_neg c4] at H
      have c4b0 : decide ((l0.length : Int) ≤ a1) = false := decide_eq_false c4
      clear c4
      by_cases c5 : 0 ≤ a1
      · rw [if_pos c5] at H
        have c5b0 : decide (0 ≤ a1) = true := decide_eq_true c5
        clear c5
        by_cases c6 : a1 < (l0.length : Int)
        · rw [if_pos c6] at H
          have c6b0 : decide (a1 < (l0.length : Int)) = true := decide_eq_true c6
          clear c6
          by_cases c7 : ((rd_T80 l0 a1).f0) ≥ a1
          · rw [if_pos c7] at H
            have c7b0 : decide (a1 ≤ ((rd_T80 l0 a1).f0)) = true := decide_eq_true c7
            clear c7
            obtain rfl := Option.some.inj H
            have p224 : 0 ≤ (a1 : Int) := of_decide_eq_true (by first | (with_reducible assumption) | assumption)
            have q224 : a1 < (l0.length : Int) := of_decide_eq_true (by first | (with_reducible assumption) | assumption)
            obtain ⟨ad224, A224_1, c224_1, A224_2, c224_2, e224, hx224_0, hx224_1, hx224_2, hl224_1, hi224_1, hl224_2, hi224_2⟩ := at_T80 HR0.out a1 p224 q224
            cases e224
            have HR224_1 := Aside0.mk hi224_1
            have HC224_1 := Aside0.mk hl224_1
            clear hi224_1 hl224_1
            have HR224_2 := Aside0.mk hi224_2
            have HC224_2 := Aside0.mk hl224_2
            clear hi224_2 hl224_2
            replace p224 := eq_true p224
            replace q224 := eq_true q224
            go_enter Try.func62, Try.ntmps62
            go_wp2
            go_ret
            exact ⟨by first | rfl | (simp; done) | (simp [*]; done), by repeat (first | exact Drawn0.refl _ | apply Drawn0.step)⟩
          · rw [if_neg c7] at H
            have c7b0 : decide (a1 ≤ ((rd_T80 l0 a1).f0)) = false := decide_eq_false c7
            clear c7
            obtain rfl := Option.some.inj H
            have p224 : 0 ≤ (a1 : Int) := of_decide_eq_true (by first | (with_reducible assumption) | assumption)
            have q224 : a1 < (l0.length : Int) := of_decide_eq_true (by first | (with_reducible assumption) | assumption)
            obtain ⟨ad224, A224_1, c224_1, A224_2, c224_2, e224, hx224_0, hx224_1, hx224_2, hl224_1, hi224_1, hl224_2, hi224_2⟩ := at_T80 HR0.out a1 p224 q224
            cases e224
            have HR224_1 := Aside0.mk hi224_1
            have HC224_1 := Aside0.mk hl224_1
            clear hi224_1 hl224_1
            have HR224_2 := Aside0.mk hi224_2
            have HC224_2 := Aside0.mk hl224_2
            clear hi224_2 hl224_2
            replace p224 := eq_true p224
            replace q224 := eq_true q224
            have p225 : 0 ≤ (a1 : Int) := of_decide_eq_true (by first | (with_reducible assumption) | assumption)
            have q225 : a1 < (l0.length : Int) := of_decide_eq_true (by first | (with_reducible assumption) | assumption)
            obtain ⟨ad225, A225_1, c225_1, A225_2, c225_2, e225, hx225_0, hx225_1, hx225_2, hl225_1, hi225_1, hl225_2, hi225_2⟩ := at_T80 HR0.out a1 p225 q225
            obtain rfl : ad224 = ad225 := (by injection e225)
            have HR225_1 := Aside0.mk hi225_1
            have HC225_1 := Aside0.mk hl225_1
            clear hi225_1 hl225_1
            have HR225_2 := Aside0.mk hi225_2
            have HC225_2 := Aside0.mk hl225_2
            clear hi225_2 hl225_2
            replace p225 := eq_true p225
            replace q225 := eq_true q225
            have ea_ := Option.some.inj (hx224_1.symm.trans hx225_1)
            injection ea_ with ea_ en_ ec_
            subst ea_
            subst ec_
            clear en_
            have ea_ := Option.some.inj (hx224_2.symm.trans hx225_2)
            injection ea_ with ea_ en_ ec_
            subst ea_
            subst ec_
            clear en_
            go_enter Try.func62, Try.ntmps62
            go_wp2
            go_ret
            exact ⟨by first | rfl | (simp; done) | (simp [*]; done), by repeat (first | exact Drawn0.refl _ | apply Drawn0.step)⟩
        · rw [if_neg c6] at H
          exact absurd H (by simp)
      · rw [if_neg c5] at H
        exact absurd H (by simp)

/-! ### kind_Below: function 59 -/
mutual
def kind_Below.j0 : Nat → List (S80) → Int → Int → Bool → Option (Bool)
  | 0, _, _, _, _ => none
  | k + 1, x0, x1, x2, x20 => if x20 = true then (some false) else (kind_Below.l0 k x0 x1 x2)
def kind_Below.l0 : Nat → List (S80) → Int → Int → Option (Bool)
  | 0, _, _, _ => none
  | k + 1, x0, x1, x2 => if x1 ≥ 0 then (if x1 = x2 then (some true) else ((kind_up.f x0 x1).bind fun t226 => (kind_Below.l0 k x0 t226 x2))) else (some false)
end
def kind_Below.f (k : Nat) (l0 : List (S80)) (a1 : Int) (a2 : Int) : Option (Bool) := if a2 < 0 then (kind_Below.j0 k l0 a1 a2 true) else (if a2 ≥ (l0.length : Int) then (kind_Below.j0 k l0 a1 a2 true) else (kind_Below.j0 k l0 a1 a2 (decide (a1 ≥ (l0.length : Int)))))
theorem kind_Below.mono_l : ∀ k, (∀ y0 y1 y2 y3, LeO (kind_Below.j0 k y0 y1 y2 y3) (kind_Below.j0 (k + 1) y0 y1 y2 y3)) ∧ (∀ y0 y1 y2, LeO (kind_Below.l0 k y0 y1 y2) (kind_Below.l0 (k + 1) y0 y1 y2))
  | 0 => ⟨fun _ _ _ _ r h => by simp [kind_Below.j0] at h, fun _ _ _ r h => by simp [kind_Below.l0] at h⟩
  | k + 1 => by
    obtain ⟨ih0, ih1⟩ := kind_Below.mono_l k
    refine ⟨?_, ?_⟩
    · intro y0 y1 y2 y3
      unfold kind_Below.j0
      repeat' first
      | (with_reducible exact ih0 _ _ _ _)
      | (with_reducible exact ih1 _ _ _)
      | (with_reducible exact LeO.refl _)
      | (with_reducible exact LeO.none _)
      | (with_reducible refine LeO.ite ?_ ?_)
      | (with_reducible refine LeO.bind ?_ (fun _ => ?_))
      | exact ih0 _ _ _ _
      | exact ih1 _ _ _
      | exact LeO.none _
      | refine LeO.ite ?_ ?_
      | refine LeO.bind ?_ (fun _ => ?_)
    · intro y0 y1 y2
      unfold kind_Below.l0
      repeat' first
      | (with_reducible exact ih0 _ _ _ _)
      | (with_reducible exact ih1 _ _ _)
      | (with_reducible exact LeO.refl _)
      | (with_reducible exact LeO.none _)
      | (with_reducible refine LeO.ite ?_ ?_)
      | (with_reducible refine LeO.bind ?_ (fun _ => ?_))
      | exact ih0 _ _ _ _
      | exact ih1 _ _ _
      | exact LeO.none _
      | refine LeO.ite ?_ ?_
      | refine LeO.bind ?_ (fun _ => ?_)
theorem kind_Below.mono : ∀ a0 a1 a2 k, LeO (kind_Below.f k a0 a1 a2) (kind_Below.f (k + 1) a0 a1 a2) := by
  intro a0 a1 a2 k
  obtain ⟨ih0, ih1⟩ := kind_Below.mono_l k
  unfold kind_Below.f
  repeat' first
      | (with_reducible exact ih0 _ _ _ _)
      | (with_reducible exact ih1 _ _ _)
      | (with_reducible exact LeO.refl _)
      | (with_reducible exact LeO.none _)
      | (with_reducible refine LeO.ite ?_ ?_)
      | (with_reducible refine LeO.bind ?_ (fun _ => ?_))
      | exact ih0 _ _ _ _
      | exact ih1 _ _ _
      | exact LeO.none _
      | refine LeO.ite ?_ ?_
      | refine LeO.bind ?_ (fun _ => ?_)
set_option maxHeartbeats 8000000 in
set_option maxRecDepth 100000 in
theorem kind_Below.calls (k : Nat) (A0 : Option Addr) (c0 : Nat) (l0 : List (S80)) (a1 : Int) (a2 : Int) (r : Bool) (w : World) (hr0 : Kd.C k80 w A0 l0.length l0) (hc0 : l0.length ≤ c0) (h : kind_Below.f k l0 a1 a2 = some r) :
    Calls Try.prog 59 #[.slice A0 l0.length c0, .int .i64 a1, .int .i64 a2] w fun e w' => e = .returned (.bool r) ∧ Drawn0 w w' := by
  have HR0 := Aside0.mk hr0
  have HC0 := Aside0.mk hc0
  clear hr0 hc0
  have H : (if a2 < 0 then (kind_Below.j0 k l0 a1 a2 true) else (if a2 ≥ (l0.length : Int) then (kind_Below.j0 k l0 a1 a2 true) else (kind_Below.j0 k l0 a1 a2 (decide (a1 ≥ (l0.length : Int)))))) = some r := h
  clear h
  have HC4 := Aside0.mk H
  clear H
  go_enter Try.func59, Try.ntmps59
  go_upto_region 1 with (fail)
  go_cut [20] (fun v20 wc => ∃ (kq : Nat) (x20_3 : Bool), v20 = .bool x20_3 ∧ Aside0 (kind_Below.j0 kq l0 a1 a2 x20_3 = some r) ∧ Aside0 (kq ≤ k) ∧ Drawn0 w wc)
  case first =>
    have H := HC4.out
    clear HC4
    by_cases c5 : a2 < 0
    · rw [if_pos c5] at H
      have c5b0 : decide (a2 < 0) = true := decide_eq_true c5
      clear c5
      (first | rw [c5b0] | (simp only [i64_w, i32_w]; rw [c5b0]) | skip)
      have H' := Aside0.mk H
      clear H
      go_wp2
      go_meet
      case rel => exact ⟨_, (true), (by first | rfl | (simp; done) | (simp [*]; done)), H', ⟨by first | omega | exact Nat.le_refl _⟩, by repeat (first | exact Drawn0.refl _ | apply Drawn0.step)⟩
    · rw [if_neg c5] at H
      have c5b0 : decide (a2 < 0) = false := decide_eq_false c5
      clear c5
      (first | rw [c5b0] | (simp only [i64_w, i32_w]; rw [c5b0]) | skip)
      by_cases c6 : a2 ≥ (l0.length : Int)
      · rw [if_pos c6] at H
        have c6b0 : decide ((l0.length : Int) ≤ a2) = true := decide_eq_true c6
        clear c6
        have H' := Aside0.mk H
        clear H
        go_wp2
        go_meet
        case rel => exact ⟨_, (true), (by first | rfl | (simp; done) | (simp [*]; done)), H', ⟨by first | omega | exact Nat.le_refl _⟩, by repeat (first | exact Drawn0.refl _ | apply Drawn0.step)⟩
      · rw [if_neg c6] at H
        have c6b0 : decide ((l0.length : Int) ≤ a2) = false := decide_eq_false c6
        clear c6
        have H' := Aside0.mk H
        clear H
        go_wp2
        go_meet
        case rel => exact ⟨_, (decide (a1 ≥ (l0.length : Int))), (by first | rfl | (simp; done) | (simp [*]; done)), H', ⟨by first | omega | exact Nat.le_refl _⟩, by repeat (first | exact Drawn0.refl _ | apply Drawn0.step)⟩
  case rest =>
    clear HC4
    try clear p2
    try clear c5
    try clear c5b0
    try clear c6
    try clear c6b0
    obtain ⟨kq, x20_3, rfl, HA, HJ3, ⟨mc3, rfl⟩⟩ := hcut
    cases kq with
    | zero => exact absurd HA.out (by simp [kind_Below.j0])
    | succ kj3 =>
      have H := HA.out
      clear HA
      simp only [kind_Below.j0] at H
      by_cases c7 : x20_3 = true
      · subst c7
        have H1 : (some false) = some r := by rw [if_pos rfl] at H; exact H
        clear H
        have H := H1
        clear H1
        obtain rfl := Option.some.inj H
        go_wp2
        go_ret
        exact ⟨by first | rfl | (simp; done) | (simp [*]; done), by repeat (first | exact Drawn0.refl _ | apply Drawn0.step)⟩
      · replace c7 := Bool.eq_false_iff.mpr c7
        subst c7
        have H1 : (kind_Below.l0 kj3 l0 a1 a2) = some r := by rw [if_neg (show ¬ (false = true) by decide)] at H; exact H
        clear H
        have H := H1
        clear H1
        have H' := Aside0.mk H
        clear H
        go_wp2
        go_loopg [1] kj3 (fun kq v1 w' => ∃ (x1_2 : Int), v1 = .int .i64 x1_2 ∧ Aside0 (kind_Below.l0 kq l0 x1_2 a2 = some r) ∧ Aside0 (kq ≤ kj3) ∧ Drawn0 w w')
        case atStart => exact ⟨(a1), (by first | rfl | (simp; done) | (simp [*]; done)), H', ⟨Nat.le_refl _⟩, by repeat (first | exact Drawn0.refl _ | apply Drawn0.step)⟩
        case round =>
          clear H'
          try clear p2
          try clear c3
          try clear c5
          try clear c5b0
          try clear c6
          try clear c6b0
          try clear c7
          try clear p2
          obtain ⟨x1_2, rfl, HA, HK2, ⟨m2, rfl⟩⟩ := hrel
          cases gk with
          | zero => exact absurd HA.out (by simp [kind_Below.l0])
          | succ k2 =>
            have H := HA.out
            clear HA
            simp only [kind_Below.l0] at H
            by_cases c8 : x1_2 ≥ 0
            · rw [if_pos c8] at H
              have c8b0 : decide (0 ≤ x1_2) = true := decide_eq_true c8
              clear c8
              by_cases c9 : x1_2 = a2
              · rw [if_pos c9] at H
                have c9b0 : (x1_2 == a2) = true := beq_iff_eq.mpr c9
                have c9b1 : (x1_2 != a2) = false := bne_eq_false_iff_eq.mpr c9
                clear c9
                obtain rfl := Option.some.inj H
                go_wp2
                go_ret
                exact ⟨by first | rfl | (simp; done) | (simp [*]; done), by repeat (first | exact Drawn0.refl _ | apply Drawn0.step)⟩
              · rw [if_neg c9] at H
                have c9b0 : (x1_2 == a2) = false := beq_eq_false_iff_ne.mpr c9
                have c9b1 : (x1_2 != a2) = true := bne_iff_ne.mpr c9
                replace H := Option.bind_eq_some_iff.mp H
                obtain ⟨t226, A100, H⟩ := H
                replace H : (kind_Below.l0 k2 l0 t226 a2) = some r := H
                have A10 := Aside0.mk A100
                clear A100
                have H' := Aside0.mk H
                clear H
                go_wp2_with (first | ((with_reducible refine gate_callee (f := 62) rfl ?_); refine goesL_ (some 25) rfl rfl Try.func62 (by kernel_rfl) rfl #[.slice A0 l0.length c0, .int .i64 x1_2] rfl (by (try simp only [List.map_toArray, List.map_cons, List.map_nil]); first | done | rfl | (simp only [List.length_drop, List.length_take]; rfl)) ?_; (with_reducible refine (kind_up.calls _ _ l0 x1_2 t226 _ ?side1 ?side2 A10.out).mono ?_); (case side1 => repeat (first | exact HR0.out | (with_reducible refine Kd.C_alloc ?_ _) | (with_reducible refine Kd.C_drewN ?_ _) | (with_reducible refine Kd.C_drew ?_))); (case side2 => exact HC0.out); rintro e w' ⟨rfl, ⟨nd, rfl⟩⟩; refine ⟨_, rfl, ?_⟩))
                go_roundg k2
                case measure => have := HJ3.out; have := HK2.out; omega
                case rel => exact ⟨(t226), (by first | rfl | (simp; done) | (simp [*]; done)), H', ⟨by have := HJ3.out; have := HK2.out; omega⟩, by repeat (first | exact Drawn0.refl _ | apply Drawn0.step)⟩
            · rw [if_neg c8] at H
              have c8b0 : decide (0 ≤ x1_2) = false := decide_eq_false c8
              clear c8
              obtain rfl := Option.some.inj H
              go_wp2
              go_ret
              exact ⟨by first | rfl | (simp; done) | (simp [*]; done), by repeat (first | exact Drawn0.refl _ | apply Drawn0.step)⟩

/-! ### kind_Sub: function 45 -/
def kind_Sub.f (k : Nat) (l0 : List (S80)) (a1_0 : Int) (a1_1 : Int) (a2_0 : Int) (a2_1 : Int) : Option (Bool) := if a1_0 = 4 then ((kind_IsRef.f a2_0 a2_1).bind fun t229 => (some t229)) else (if a1_0 = 3 then (if a2_0 = 3 then ((kind_Below.f k l0 a1_1 a2_1).bind fun t230 => (some t230)) else (if (a1_0 == a2_0 && (a1_1 == a2_1)) = true then (if a1_0 = 1 then (some true) else (some (a1_0 == 2))) else (some false))) else (if (a1_0 == a2_0 && (a1_1 == a2_1)) = true then (if a1_0 = 1 then (some true) else (some (a1_0 == 2))) else (some false)))
theorem kind_Sub.mono : ∀ a0 a1 a2 a3 a4 k, LeO (kind_Sub.f k a0 a1 a2 a3 a4) (kind_Sub.f (k + 1) a0 a1 a2 a3 a4) := by
  intro a0 a1 a2 a3 a4 k
  unfold kind_Sub.f
  repeat' first
      | (with_reducible exact kind_Below.mono _ _ _ _)
      | (with_reducible exact LeO.refl _)
      | (with_reducible exact LeO.none _)
      | (with_reducible refine LeO.ite ?_ ?_)
      | (with_reducible refine LeO.bind ?_ (fun _ => ?_))
      | exact kind_Below.mono _ _ _ _
      | exact LeO.none _
      | refine LeO.ite ?_ ?_
      | refine LeO.bind ?_ (fun _ => ?_)
set_option maxHeartbeats 8000000 in
set_option maxRecDepth 100000 in
theorem kind_Sub.calls (k : Nat) (A0 : Option Addr) (c0 : Nat) (l0 : List (S80)) (a1_0 : Int) (a1_1 : Int) (a2_0 : Int) (a2_1 : Int) (r : Bool) (w : World) (hr0 : Kd.C k80 w A0 l0.length l0) (hc0 : l0.length ≤ c0) (h : kind_Sub.f k l0 a1_0 a1_1 a2_0 a2_1 = some r) :
    Calls Try.prog 45 #[.slice A0 l0.length c0, .agg #[.int .i64 a1_0, .int .i64 a1_1], .agg #[.int .i64 a2_0, .int .i64 a2_1]] w fun e w' => e = .returned (.bool r) ∧ Below w.heap.size w w' := by
  have HR := Aside0.mk hr0
  have HC := Aside0.mk hc0
  clear hr0 hc0
  unfold kind_Sub.f at h
  have eqs : a1_0 ≠ 4 → ¬ (a1_0 = 3 ∧ a2_0 = 3) → ((a1_0 == a2_0 && (a1_1 == a2_1)) && (a1_0 == 1 || a1_0 == 2)) = r := by
    intro n4 n3
    rw [if_neg n4] at h
    have h2 : (if (a1_0 == a2_0 && (a1_1 == a2_1)) = true then (if a1_0 = 1 then some true else some (a1_0 == 2)) else some false) = some r := by
      by_cases h3 : a1_0 = 3
      · rw [if_pos h3, if_neg (fun e => n3 ⟨h3, e⟩)] at h; exact h
      · rw [if_neg h3] at h; exact h
    cases he : (a1_0 == a2_0 && (a1_1 == a2_1))
    · rw [he] at h2; exact Option.some.inj h2
    · rw [he, if_pos rfl] at h2
      by_cases h1 : a1_0 = 1
      · rw [if_pos h1] at h2; rw [h1]; exact Option.some.inj h2
      · rw [if_neg h1] at h2
        have := Option.some.inj h2
        rw [← this]
        have : (a1_0 == 1) = false := beq_eq_false_iff_ne.2 h1
        rw [this]; rfl
  by_cases h4 : a1_0 = 4
  · subst h4
    rw [if_pos rfl] at h
    obtain ⟨t, ht, e⟩ := Option.bind_eq_some_iff.mp h
    obtain rfl := Option.some.inj e
    have HT := Aside0.mk ht
    clear h ht eqs
    go_enter Try.func45, Try.ntmps45
    go_wp2_with (first | (go_at_call 44; (refine (kind_IsRef.calls _ _ _ _ HT.out).mono ?_); rintro e w1 ⟨rfl, hb1⟩; have HB1 := Aside0.mk hb1; clear hb1))
    go_ret
    exact ⟨rfl, below_step (below_alloc (below_alloc (Below.refl _ _) _) _) HB1.out⟩
  have d4 : (a1_0 == 4) = false := beq_eq_false_iff_ne.2 h4
  by_cases h3 : a1_0 = 3 ∧ a2_0 = 3
  · obtain ⟨rfl, rfl⟩ := h3
    rw [if_neg h4, if_pos rfl, if_pos rfl] at h
    obtain ⟨t, ht, e⟩ := Option.bind_eq_some_iff.mp h
    obtain rfl := Option.some.inj e
    have HT := Aside0.mk ht
    clear h ht eqs
    go_enter Try.func45, Try.ntmps45
    go_wp2_with (first | (go_at_call 59; (refine (kind_Below.calls k A0 c0 l0 _ _ _ _ (Kd.C_below HR.out (below_alloc (below_alloc (Below.refl _ _) _) _)) HC.out HT.out).mono ?_); rintro e w1 ⟨rfl, hb1⟩; have HB1 := Aside0.mk hb1; clear hb1))
    go_ret
    exact ⟨rfl, below_step (below_alloc (below_alloc (Below.refl _ _) _) _) (by first | exact HB1.out | exact HB1.out.below)⟩
  have HE := Aside0.mk (eqs h4 h3)
  clear eqs h
  have n3 : a1_0 ≠ 3 ∨ (a1_0 = 3 ∧ a2_0 ≠ 3) := by
    by_cases e : a1_0 = 3
    · exact .inr ⟨e, fun e2 => h3 ⟨e, e2⟩⟩
    · exact .inl e
  clear h3 h4
  have fin : ∀ b : Bool, b = r → Ending.returned (.bool b) = .returned (.bool r) := fun b e => by rw [e]
  rcases n3 with n3 | ⟨rfl, n3⟩
  · have d3 : (a1_0 == 3) = false := beq_eq_false_iff_ne.2 n3
    clear n3
    go_enter Try.func45, Try.ntmps45
    go_wp2_with fail
    all_goals
      go_ret
      exact ⟨fin _ (by rw [← HE.out]; simp [*]), below_alloc (below_alloc (Below.refl _ _) _) _⟩
  · have d3 : (a2_0 == 3) = false := beq_eq_false_iff_ne.2 n3
    have e3 : ((3 : Int) == a2_0) = false := beq_eq_false_iff_ne.2 (fun h => n3 h.symm)
    go_enter Try.func45, Try.ntmps45
    go_wp2_with fail
    all_goals
      go_ret
      exact ⟨fin _ (by rw [← HE.out]; simp [*]), below_alloc (below_alloc (Below.refl _ _) _) _⟩

/-! ### flow_fits: function 22 -/
def flow_fits.f (k : Nat) (l0_0 : List (S80)) (l0_1 : List (S38)) (l0_2 : List Int) (l0_3 : List (S41)) (l0_4 : List Int) (a0_5 : Int) (a0_6 : Int) (a1 : Int) (a2_0 : Int) (a2_1 : Int) (a3_0 : Int) (a3_1 : Int) : Option (Bool) := if a3_0 = 0 then (some true) else (if a3_0 = 4 then ((kind_IsRef.f a2_0 a2_1).bind fun t234 => (if t234 = true then (if a1 = 34 then (some (a2_0 != 2)) else (some true)) else (some false))) else ((kind_Sub.f k l0_0 a2_0 a2_1 a3_0 a3_1).bind fun t235 => (some t235)))
theorem flow_fits.mono : ∀ a0 a1 a2 a3 a4 a5 a6 a7 a8 a9 a10 a11 k, LeO (flow_fits.f k a0 a1 a2 a3 a4 a5 a6 a7 a8 a9 a10 a11) (flow_fits.f (k + 1) a0 a1 a2 a3 a4 a5 a6 a7 a8 a9 a10 a11) := by
  intro a0 a1 a2 a3 a4 a5 a6 a7 a8 a9 a10 a11 k
  unfold flow_fits.f
  repeat' first
      | (with_reducible exact kind_Sub.mono _ _ _ _ _ _)
      | (with_reducible exact LeO.refl _)
      | (with_reducible exact LeO.none _)
      | (with_reducible refine LeO.ite ?_ ?_)
      | (with_reducible refine LeO.bind ?_ (fun _ => ?_))
      | exact kind_Sub.mono _ _ _ _ _ _
      | exact LeO.none _
      | refine LeO.ite ?_ ?_
      | refine LeO.bind ?_ (fun _ => ?_)
set_option maxHeartbeats 8000000 in
set_option maxRecDepth 100000 in
theorem flow_fits.calls (k : Nat) (A0_0 : Option Addr) (c0_0 : Nat) (l0_0 : List (S80)) (A0_1 : Option Addr) (c0_1 : Nat) (l0_1 : List (S38)) (A0_2 : Option Addr) (c0_2 : Nat) (l0_2 : List Int) (A0_3 : Option Addr) (c0_3 : Nat) (l0_3 : List (S41)) (A0_4 : Option Addr) (c0_4 : Nat) (l0_4 : List Int) (a0_5 : Int) (a0_6 : Int) (a1 : Int) (a2_0 : Int) (a2_1 : Int) (a3_0 : Int) (a3_1 : Int) (r : Bool) (w : World) (hr0_0 : Kd.C k80 w A0_0 l0_0.length l0_0) (hc0_0 : l0_0.length ≤ c0_0) (hr0_1 : Kd.C k38 w A0_1 l0_1.length l0_1) (hc0_1 : l0_1.length ≤ c0_1) (hr0_2 : Kd.C (Kd.int .i32) w A0_2 l0_2.length l0_2) (hc0_2 : l0_2.length ≤ c0_2) (hr0_3 : Kd.C k41 w A0_3 l0_3.length l0_3) (hc0_3 : l0_3.length ≤ c0_3) (hr0_4 : Kd.C (Kd.int .i64) w A0_4 l0_4.length l0_4) (hc0_4 : l0_4.length ≤ c0_4) (h : flow_fits.f k l0_0 l0_1 l0_2 l0_3 l0_4 a0_5 a0_6 a1 a2_0 a2_1 a3_0 a3_1 = some r) :
    Calls Try.prog 22 #[.agg #[.slice A0_0 l0_0.length c0_0, .slice A0_1 l0_1.length c0_1, .slice A0_2 l0_2.length c0_2, .slice A0_3 l0_3.length c0_3, .slice A0_4 l0_4.length c0_4, .int .i64 a0_5, .int .i64 a0_6], .int .i64 a1, .agg #[.int .i64 a2_0, .int .i64 a2_1], .agg #[.int .i64 a3_0, .int .i64 a3_1]] w fun e w' => e = .returned (.bool r) ∧ Below w.heap.size w w' := by
  have fin : ∀ {b r : Bool}, b = r → Ending.returned (.bool b) = .returned (.bool r) := fun e => by rw [e]
  have bc : ∀ {W w1 : World} (_ : Below W.heap.size W w1), ∀ b o, b < W.heap.size → w1.cell? ⟨b, o, none⟩ = W.cell? ⟨b, o, none⟩ := fun hb b o h => hb.cell (p := ⟨b, o, none⟩) h
  have HR := Aside0.mk hr0_0
  have HC := Aside0.mk hc0_0
  clear hr0_0 hc0_0 hr0_1 hc0_1 hr0_2 hc0_2 hr0_3 hc0_3 hr0_4 hc0_4
  unfold flow_fits.f at h
  by_cases h0 : a3_0 = 0
  · subst h0
    rw [if_pos rfl] at h
    obtain rfl := Option.some.inj h
    go_enter Try.func22, Try.ntmps22
    go_wp2_with fail
    go_ret
    exact ⟨rfl, (below_alloc (below_alloc (below_alloc (Below.refl _ _) _) _) _)⟩
  have d0 : (a3_0 == 0) = false := beq_eq_false_iff_ne.2 h0
  rw [if_neg h0] at h
  clear h0
  by_cases h4 : a3_0 = 4
  · subst h4
    rw [if_pos rfl] at h
    obtain ⟨t, ht, e⟩ := Option.bind_eq_some_iff.mp h
    have HT := Aside0.mk ht
    clear h ht
    cases t with
    | false =>
      rw [if_neg (by decide)] at e
      obtain rfl := Option.some.inj e
      clear e
      go_enter Try.func22, Try.ntmps22
      go_wp2_with (first | (go_at_call 44; (refine (kind_IsRef.calls _ _ _ _ HT.out).mono ?_); rintro e w1 ⟨rfl, hb1⟩; have hc1 := bc hb1; have hz1 : w.heap.size + 1 < w1.heap.size := (by have := hb1.size; simp at this; omega); have HB1 := Aside0.mk hb1; clear hb1))
      go_ret
      exact ⟨rfl, below_step (below_alloc (below_alloc (below_alloc (Below.refl _ _) _) _) _) HB1.out⟩
    | true =>
      rw [if_pos rfl] at e
      by_cases h34 : a1 = 34
      · subst h34
        rw [if_pos rfl] at e
        obtain rfl := Option.some.inj e
        clear e
        go_enter Try.func22, Try.ntmps22
        go_wp2_with (first | (go_at_call 44; (refine (kind_IsRef.calls _ _ _ _ HT.out).mono ?_); rintro e w1 ⟨rfl, hb1⟩; have hc1 := bc hb1; have hz1 : w.heap.size + 1 < w1.heap.size := (by have := hb1.size; simp at this; omega); have HB1 := Aside0.mk hb1; clear hb1))
        all_goals
          go_ret
          exact ⟨fin (by simp [*]), below_step (below_alloc (below_alloc (below_alloc (Below.refl _ _) _) _) _) HB1.out⟩
      · rw [if_neg h34] at e
        obtain rfl := Option.some.inj e
        have d34 : (a1 != 34) = true := bne_iff_ne.2 h34
        clear e h34
        go_enter Try.func22, Try.ntmps22
        go_wp2_with (first | (go_at_call 44; (refine (kind_IsRef.calls _ _ _ _ HT.out).mono ?_); rintro e w1 ⟨rfl, hb1⟩; have hc1 := bc hb1; have hz1 : w.heap.size + 1 < w1.heap.size := (by have := hb1.size; simp at this; omega); have HB1 := Aside0.mk hb1; clear hb1))
        go_ret
        exact ⟨rfl, below_step (below_alloc (below_alloc (below_alloc (Below.refl _ _) _) _) _) HB1.out⟩
  · have d4 : (a3_0 == 4) = false := beq_eq_false_iff_ne.2 h4
    rw [if_neg h4] at h
    obtain ⟨t, ht, e⟩ := Option.bind_eq_some_iff.mp h
    obtain rfl := Option.some.inj e
    have HT := Aside0.mk ht
    clear h ht h4 e
    go_enter Try.func22, Try.ntmps22
    go_wp2_with (first | (go_at_call 45; (refine (kind_Sub.calls k A0_0 c0_0 l0_0 _ _ _ _ _ _ (Kd.C_below HR.out (by repeat (first | exact Below.refl _ _ | apply below_alloc))) HC.out HT.out).mono ?_); rintro e w1 ⟨rfl, hb1⟩; have HB1 := Aside0.mk hb1; clear hb1))
    go_ret
    exact ⟨rfl, below_step (below_alloc (below_alloc (below_alloc (Below.refl _ _) _) _) _) HB1.out⟩

-- NOT PRINTED: function 9 (flow_Step)

end Go.Proofs.Ytoiahldbahdaoaa.QFlowSteps
