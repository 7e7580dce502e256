-- Written by a program of ours (tools/mkprint.py) over the kit's printing program, for the law LinAdds: some functions' texts are ours.
import Derived.Test.YthfkajolockcgaaQLinAddsx0
import Derived.Test.YthfkajolockcgaaQLinAddsx1
import Derived.Test.YthfkajolockcgaaQLinAddsx2
import Derived.Test.YthfkajolockcgaaQLinAddsx3
namespace Go.Proofs.Ythfkajolockcgaa.QLinAdds
open Go.RowKit Go.Proofs.YthfkajolockcgaaW.PrintWords Go.Proofs.YthfkajolockcgaaW.PrintLast Go.Proofs.YthfkajolockcgaaW.PrintMore
attribute [local go_sem] max2_int min2_int max_two min_two max_three min_three max_four min_four   -- for this text's walks alone
set_option linter.unusedVariables false
set_option linter.unusedSimpArgs false

/-! ### lin_Holds: function 15 -/
def lin_Holds.l0 : Nat → List Int → List Int → Int → Int → List Int → Int → Int → Bool → Option (Bool × Int)
  | 0, _, _, _, _, _, _, _, _ => none
  | k + 1, x1, x17, x18, x19, x176000, x176001, x179000, x179001 => if x19 < x18 then (if 0 ≤ x19 then (if x19 < (x17.length : Int) then ((lin_of.f (rd x17 x19)).bind fun bt180 => (if x19 < (x1.length : Int) then ((lin_of.f (rd x1 x19)).bind fun bt183 => ((lin_sure_times.f k bt180.1 bt180.2 bt183.1 bt183.2).bind fun bt185 => ((lin_sure_plus.f x179000 x179001 bt185.1 bt185.2).bind fun bt187 => (lin_Holds.l0 k x1 x17 x18 (wrap64 (x19 + 1)) x176000 x176001 bt187.1 bt187.2)))) else (none))) else (none)) else (none)) else (if x179001 = true then (some (decide (x179000 ≤ x176001), 0)) else (some (false, 14)))
def lin_Holds.f (k : Nat) (l0_0 : List Int) (a0_1 : Int) (l1 : List Int) : Option (Bool × Int) := if (l0_0.length : Int) = (l1.length : Int) then ((lin_of.f 0).bind fun bt176 => (lin_Holds.l0 k l1 l0_0 (l0_0.length : Int) 0 l0_0 a0_1 bt176.1 bt176.2)) else (some (false, 14))
theorem lin_Holds.mono_l : ∀ k, (∀ y0 y1 y2 y3 y4 y5 y6 y7, LeO (lin_Holds.l0 k y0 y1 y2 y3 y4 y5 y6 y7) (lin_Holds.l0 (k + 1) y0 y1 y2 y3 y4 y5 y6 y7))
  | 0 => fun _ _ _ _ _ _ _ _ r h => by simp [lin_Holds.l0] at h
  | k + 1 => by
    have ih0 := lin_Holds.mono_l k
    · intro y0 y1 y2 y3 y4 y5 y6 y7
      unfold lin_Holds.l0
      repeat' first
      | (with_reducible exact ih0 _ _ _ _ _ _ _ _)
      | (with_reducible exact lin_sure_times.mono _ _ _ _ _)
      | (with_reducible exact LeO.refl _)
      | (with_reducible exact LeO.none _)
      | (with_reducible refine LeO.ite ?_ ?_)
      | (with_reducible refine LeO.bind ?_ (fun _ => ?_))
      | exact ih0 _ _ _ _ _ _ _ _
      | exact lin_sure_times.mono _ _ _ _ _
      | exact LeO.none _
      | refine LeO.ite ?_ ?_
      | refine LeO.bind ?_ (fun _ => ?_)
theorem lin_Holds.mono : ∀ a0 a1 a2 k, LeO (lin_Holds.f k a0 a1 a2) (lin_Holds.f (k + 1) a0 a1 a2) := by
  intro a0 a1 a2 k
  have ih0 := lin_Holds.mono_l k
  unfold lin_Holds.f
  repeat' first
      | (with_reducible exact ih0 _ _ _ _ _ _ _ _)
      | (with_reducible exact lin_sure_times.mono _ _ _ _ _)
      | (with_reducible exact LeO.refl _)
      | (with_reducible exact LeO.none _)
      | (with_reducible refine LeO.ite ?_ ?_)
      | (with_reducible refine LeO.bind ?_ (fun _ => ?_))
      | exact ih0 _ _ _ _ _ _ _ _
      | exact lin_sure_times.mono _ _ _ _ _
      | exact LeO.none _
      | refine LeO.ite ?_ ?_
      | refine LeO.bind ?_ (fun _ => ?_)
def lin_Holds.T7 : Bool × List (List Nat × List Nat) := (true, [([], []), ([], []), ([1], [1]), ([], []), ([], []), ([3, 4], [3, 4]), ([5], [5]), ([6, 2], [6]), ([2, 7, 7], [2, 7]), ([0, 8, 8], [0, 8]), ([9, 9, 0, 1, 2, 3, 4, 5, 6, 7, 8, 9], [9])])
def lin_Holds.B7 : List Nat := [0, 0, 2, 0, 0, 24, 56, 126, 254, 511, 1023]
theorem lin_Holds.tab7 : rtab .any (opsOf Try.f15 7) = lin_Holds.T7 := by kernel_rfl
theorem lin_Holds.bits7 : waitsOk lin_Holds.T7.2 lin_Holds.B7 = true := by kernel_rfl
set_option maxHeartbeats 8000000 in
set_option maxRecDepth 100000 in
theorem lin_Holds.calls (k : Nat) (A0_0 : Option Addr) (c0_0 : Nat) (l0_0 : List Int) (a0_1 : Int) (A1 : Option Addr) (c1 : Nat) (l1 : List Int) (r1 : Bool) (r2 : Int) (w : World) (hr0_0 : Kd.C (Kd.int .i64) w A0_0 l0_0.length l0_0) (hc0_0 : l0_0.length ≤ c0_0) (hr1 : Kd.C (Kd.int .i64) w A1 l1.length l1) (hc1 : l1.length ≤ c1) (h : lin_Holds.f k l0_0 a0_1 l1 = some (r1, r2)) :
    Calls Try.prog 15 #[.agg #[.slice A0_0 l0_0.length c0_0, .int .i64 a0_1], .slice A1 l1.length c1] w fun e w' => e = .returned (.tuple #[.bool r1, .int .i64 r2]) ∧ Below w.heap.size w w' := by
  have hu27 := Try.underlying27
  have hu49 := Try.underlying49
  have HR0_0 := Aside0.mk hr0_0
  have HC0_0 := Aside0.mk hc0_0
  clear hr0_0 hc0_0
  have HR1 := Aside0.mk hr1
  have HC1 := Aside0.mk hc1
  clear hr1 hc1
  have HB := Aside0.mk (Below.refl w.heap.size w)
  have H : (if (l0_0.length : Int) = (l1.length : Int) then ((lin_of.f 0).bind fun bt176 => (lin_Holds.l0 k l1 l0_0 (l0_0.length : Int) 0 l0_0 a0_1 bt176.1 bt176.2)) else (some (false, 14))) = some (r1, r2) := h
  clear h
  by_cases c3 : (l0_0.length : Int) = (l1.length : Int)
  · rw [if_pos c3] at H
    have c3b0 : ((l0_0.length : Int) == (l1.length : Int)) = true := beq_iff_eq.mpr c3
    have c3b1 : ((l0_0.length : Int) != (l1.length : Int)) = false := bne_eq_false_iff_eq.mpr c3
    have c3b2 : (l0_0.length == l1.length) = true := by first | simpa using c3 | (simp at c3 ⊢; omega)
    clear c3
    replace H := Option.bind_eq_some_iff.mp H
    obtain ⟨⟨t176, t177⟩, A40, H⟩ := H
    replace H : (lin_Holds.l0 k l1 l0_0 (l0_0.length : Int) 0 l0_0 a0_1 t176 t177) = some (r1, r2) := H
    have A4 := Aside0.mk A40
    clear A40
    have H' := Aside0.mk H
    clear H
    go_enter Try.func15, Try.ntmps15
    go_wp2_with (first | ((with_reducible refine gate_dst (N := 2) rfl ?_); refine box_event ?hg (N := 2) ?hd (cs := #[.slice A0_0 l0_0.length c0_0, .int .i64 a0_1]) (t := 27) ?hr ?_; (case hd => rfl); (case hg => rfl); (case hr => first | (go_simp; done) | (go_simp; rfl)); intro gb175 hg w5 hbox hb; have n0_ := Aside0.mk (below_step (by repeat (first | (with_reducible first | exact HB.out | apply below_alloc | apply pw_below_drewN | apply below_drew1) | exact HB.out)) hb); have n1_ := Aside0.mk (hbox); have n2_ := Aside0.mk ((by rw [hg]; exact (below_size (by repeat (first | (with_reducible first | exact HB.out | apply below_alloc | apply pw_below_drewN | apply below_drew1) | exact HB.out))) : w.heap.size ≤ gb175)); have n3_ := Aside0.mk ((by rw [hg]; exact (below_size (by repeat (first | (with_reducible first | exact HB.out | apply below_alloc | apply pw_below_drewN | apply below_drew1) | exact HB.out))) : w.heap.size ≤ gb175)); clear HB; have HB := n0_; have BK175 := n1_; have GW175 := n2_; have GE175 := n3_; clear n0_ n1_ n2_ n3_; clear hb hbox hg; have hcz6_0 : w5.cell? ⟨gb175, 0, none⟩ = some (.slice A0_0 l0_0.length c0_0) := (blk_cell BK175.out 0).trans rfl; have hcz6_1 : w5.cell? ⟨gb175, 1, none⟩ = some (.int .i64 a0_1) := (blk_cell BK175.out 1).trans rfl; have hfz6_0 := blk_frozen BK175.out 0; have hfz6_1 := blk_frozen BK175.out 1) | ((with_reducible refine gate_callee (f := 18) rfl ?_); refine goesL_ (some 15) rfl rfl Try.func18 (by kernel_rfl) rfl #[.int .i64 0] rfl (by (try simp only [List.map_toArray, List.map_cons, List.map_nil]); first | done | rfl | (simp only [List.length_drop, List.length_take]; rfl)) ?_; (with_reducible refine (lin_of.calls 0 t176 t177 _ A4.out).mono ?_); rintro e w7 ⟨rfl, hb⟩; refine ⟨_, rfl, ?_⟩; have n0_ := Aside0.mk (blk_below (g := gb175) (o := .cells #[.slice A0_0 l0_0.length c0_0, .int .i64 a0_1] 27 (0, 0)) (by (with_reducible repeat (first | refine blk_drewN ?_ _ | refine blk_drew ?_ | refine blk_alloc ?_ _)); exact BK175.out) hb); have n1_ := Aside0.mk (below_step (by repeat (first | (with_reducible first | exact HB.out | apply below_alloc | apply pw_below_drewN | apply below_drew1 | refine below_set ?_ GE175.out) | exact HB.out)) hb); clear BK175; clear HB; have BK175 := n0_; have HB := n1_; clear n0_ n1_; (try clear hb); (try clear hb2); (try clear hk); (try clear hi)) | ((with_reducible refine gate_dst (N := 6) rfl ?_); refine box_event ?hg (N := 6) ?hd (cs := #[.int .i64 0, .bool false]) (t := 49) ?hr ?_; (case hd => rfl); (case hg => rfl); (case hr => first | (go_simp; done) | (go_simp; rfl)); intro gb178 hg w8 hbox hb; have n0_ := Aside0.mk (blk_below (g := gb175) (o := .cells #[.slice A0_0 l0_0.length c0_0, .int .i64 a0_1] 27 (0, 0)) (by (with_reducible repeat (first | refine blk_drewN ?_ _ | refine blk_drew ?_ | refine blk_alloc ?_ _)); exact BK175.out) hb); have n1_ := Aside0.mk (below_step (by repeat (first | (with_reducible first | exact HB.out | apply below_alloc | apply pw_below_drewN | apply below_drew1 | refine below_set ?_ GE175.out) | exact HB.out)) hb); have n2_ := Aside0.mk (hbox); have n3_ := Aside0.mk ((by rw [hg]; exact (below_size (by repeat (first | (with_reducible first | exact HB.out | apply below_alloc | apply pw_below_drewN | apply below_drew1 | refine below_set ?_ GE175.out) | exact HB.out))) : w.heap.size ≤ gb178)); have n4_ := Aside0.mk ((by rw [hg]; exact (below_size (by repeat (first | (with_reducible first | exact HB.out | apply below_alloc | apply pw_below_drewN | apply below_drew1 | refine below_set ?_ GE175.out) | exact HB.out))) : w.heap.size ≤ gb178)); have n5_ := Aside0.mk ((by rw [hg]; exact Nat.ne_of_lt (blk_lt (g := gb175) (o := .cells #[.slice A0_0 l0_0.length c0_0, .int .i64 a0_1] 27 (0, 0)) (by (with_reducible repeat (first | refine blk_drewN ?_ _ | refine blk_drew ?_ | refine blk_alloc ?_ _)); exact BK175.out)) : gb175 ≠ gb178)); have n6_ := Aside0.mk ((by rw [hg]; exact Nat.ne_of_gt (blk_lt (g := gb175) (o := .cells #[.slice A0_0 l0_0.length c0_0, .int .i64 a0_1] 27 (0, 0)) (by (with_reducible repeat (first | refine blk_drewN ?_ _ | refine blk_drew ?_ | refine blk_alloc ?_ _)); exact BK175.out)) : gb178 ≠ gb175)); clear BK175; clear HB; have BK175 := n0_; have HB := n1_; have BK178 := n2_; have GW178 := n3_; have GE178 := n4_; have NB175_178 := n5_; have NB178_175 := n6_; clear n0_ n1_ n2_ n3_ n4_ n5_ n6_; clear hb hbox hg; have hnb9 := NB178_175.out; have hnc9 := NB175_178.out; have hcz10_0 : w8.cell? ⟨gb178, 0, none⟩ = some (.int .i64 0) := (blk_cell BK178.out 0).trans rfl; have hcz10_1 : w8.cell? ⟨gb178, 1, none⟩ = some (.bool false) := (blk_cell BK178.out 1).trans rfl; have hfz10_0 := blk_frozen BK178.out 0; have hfz10_1 := blk_frozen BK178.out 1; have hcz11_0 : w8.cell? ⟨gb175, 0, none⟩ = some (.slice A0_0 l0_0.length c0_0) := (blk_cell BK175.out 0).trans rfl; have hcz11_1 : w8.cell? ⟨gb175, 1, none⟩ = some (.int .i64 a0_1) := (blk_cell BK175.out 1).trans rfl; have hfz11_0 := blk_frozen BK175.out 0; have hfz11_1 := blk_frozen BK175.out 1))
    go_loopg [19] k (fun kq v19 w' => ∃ (x19_1 : Int) (x179000_1 : Int) (x179001_1 : Bool), v19 = .int .i64 x19_1 ∧ Aside0 (lin_Holds.l0 kq l1 l0_0 (l0_0.length : Int) x19_1 l0_0 a0_1 x179000_1 x179001_1 = some (r1, r2)) ∧ Aside0 (kq ≤ k) ∧ Aside0 (w'.heap[gb175]? = some (.cells #[(.slice A0_0 l0_0.length c0_0), .int .i64 a0_1] 27 (0, 0))) ∧ Aside0 (w'.heap[gb178]? = some (.cells #[.int .i64 x179000_1, .bool x179001_1] 49 (0, 0))) ∧ Aside0 (Below w.heap.size w w'))
    case atStart => exact ⟨(0), (t176), (t177), (by first | rfl | (simp; done) | (simp [*]; done)), H', ⟨Nat.le_refl _⟩, ⟨by (with_reducible repeat (first | refine blk_drewN ?_ _ | refine blk_drew ?_ | refine blk_alloc ?_ _)); refine blk_far ?_ NB175_178.out _; (with_reducible repeat (first | refine blk_drewN ?_ _ | refine blk_drew ?_ | refine blk_alloc ?_ _)); refine blk_far ?_ NB175_178.out _; (with_reducible repeat (first | refine blk_drewN ?_ _ | refine blk_drew ?_ | refine blk_alloc ?_ _)); exact BK175.out⟩, ⟨by (with_reducible repeat (first | refine blk_drewN ?_ _ | refine blk_drew ?_ | refine blk_alloc ?_ _)); refine blk_put (cs := #[.int .i64 t176, .bool false]) ?_ 1 _ rfl; (with_reducible repeat (first | refine blk_drewN ?_ _ | refine blk_drew ?_ | refine blk_alloc ?_ _)); refine blk_put (cs := #[.int .i64 0, .bool false]) ?_ 0 _ rfl; (with_reducible repeat (first | refine blk_drewN ?_ _ | refine blk_drew ?_ | refine blk_alloc ?_ _)); exact BK178.out⟩, ⟨by repeat (first | (with_reducible first | exact HB.out | apply below_alloc | apply pw_below_drewN | apply below_drew1 | refine below_set ?_ GE175.out | refine below_set ?_ GE178.out) | exact HB.out)⟩⟩
    case round =>
      clear H'
      try clear c1
      try clear p2
      try clear c3
      try clear c3b0
      try clear c3b1
      try clear c3b2
      try clear c9
      try clear hcz10_0
      try clear hcz10_1
      try clear hcz11_0
      try clear hcz11_1
      try clear hcz6_0
      try clear hcz6_1
      try clear hfz10_0
      try clear hfz10_1
      try clear hfz11_0
      try clear hfz11_1
      try clear hfz6_0
      try clear hfz6_1
      obtain ⟨x19_1, x179000_1, x179001_1, rfl, HA, HK1, BK175, BK178, HB⟩ := hrel
      cases gk with
      | zero => exact absurd HA.out (by simp [lin_Holds.l0])
      | succ k1 =>
        have H := HA.out
        clear HA
        simp only [lin_Holds.l0] at H
        by_cases c12 : x19_1 < (l0_0.length : Int)
        · rw [if_pos c12] at H
          have c12b0 : decide (x19_1 < (l0_0.length : Int)) = true := decide_eq_true c12
          clear c12
          by_cases c13 : 0 ≤ x19_1
          · rw [if_pos c13] at H
            have c13b0 : decide (0 ≤ x19_1) = true := decide_eq_true c13
            clear c13
            by_cases c14 : x19_1 < (l0_0.length : Int)
            · rw [if_pos c14] at H
              have c14b0 : decide (x19_1 < (l0_0.length : Int)) = true := decide_eq_true c14
              clear c14
              replace H := Option.bind_eq_some_iff.mp H
              obtain ⟨⟨t180, t181⟩, A150, H⟩ := H
              replace H : (if x19_1 < (l1.length : Int) then ((lin_of.f (rd l1 x19_1)).bind fun bt183 => ((lin_sure_times.f k1 t180 t181 bt183.1 bt183.2).bind fun bt185 => ((lin_sure_plus.f x179000_1 x179001_1 bt185.1 bt185.2).bind fun bt187 => (lin_Holds.l0 k1 l1 l0_0 (l0_0.length : Int) (wrap64 (x19_1 + 1)) l0_0 a0_1 bt187.1 bt187.2)))) else (none)) = some (r1, r2) := H
              have A15 := Aside0.mk A150
              clear A150
              by_cases c16 : x19_1 < (l1.length : Int)
              · rw [if_pos c16] at H
                have c16b0 : decide (x19_1 < (l1.length : Int)) = true := decide_eq_true c16
                clear c16
                replace H := Option.bind_eq_some_iff.mp H
                obtain ⟨⟨t183, t184⟩, A170, H⟩ := H
                replace H : ((lin_sure_times.f k1 t180 t181 t183 t184).bind fun bt185 => ((lin_sure_plus.f x179000_1 x179001_1 bt185.1 bt185.2).bind fun bt187 => (lin_Holds.l0 k1 l1 l0_0 (l0_0.length : Int) (wrap64 (x19_1 + 1)) l0_0 a0_1 bt187.1 bt187.2))) = some (r1, r2) := H
                have A17 := Aside0.mk A170
                clear A170
                replace H := Option.bind_eq_some_iff.mp H
                obtain ⟨⟨t185, t186⟩, A180, H⟩ := H
                replace H : ((lin_sure_plus.f x179000_1 x179001_1 t185 t186).bind fun bt187 => (lin_Holds.l0 k1 l1 l0_0 (l0_0.length : Int) (wrap64 (x19_1 + 1)) l0_0 a0_1 bt187.1 bt187.2)) = some (r1, r2) := H
                have A18 := Aside0.mk A180
                clear A180
                replace H := Option.bind_eq_some_iff.mp H
                obtain ⟨⟨t187, t188⟩, A190, H⟩ := H
                replace H : (lin_Holds.l0 k1 l1 l0_0 (l0_0.length : Int) (wrap64 (x19_1 + 1)) l0_0 a0_1 t187 t188) = some (r1, r2) := H
                have A19 := Aside0.mk A190
                clear A190
                have H' := Aside0.mk H
                clear H
                have p179 : 0 ≤ (x19_1 : Int) := of_decide_eq_true (by first | (with_reducible assumption) | assumption)
                have q179 : x19_1 < (l0_0.length : Int) := of_decide_eq_true (by first | (with_reducible assumption) | assumption)
                obtain ⟨ad179, e179, hx179_0⟩ := Kd.at_int HR0_0.out x19_1 p179 q179
                cases e179
                replace hx179_0 := (HB.out.cell (World.block_lt_of_cell? w _ hx179_0)).trans hx179_0
                replace p179 := eq_true p179
                replace q179 := eq_true q179
                try go_wp2
                have n0_ := Aside0.mk (blk_drew BK175.out)
                have n1_ := Aside0.mk (blk_drew BK178.out)
                have n2_ := Aside0.mk (below_drew1 HB.out)
                clear BK175
                clear BK178
                clear HB
                have BK175 := n0_
                have BK178 := n1_
                have HB := n2_
                clear n0_ n1_ n2_
                have p182 : 0 ≤ (x19_1 : Int) := of_decide_eq_true (by first | (with_reducible assumption) | assumption)
                have q182 : x19_1 < (l1.length : Int) := of_decide_eq_true (by first | (with_reducible assumption) | assumption)
                obtain ⟨ad182, e182, hx182_0⟩ := Kd.at_int HR1.out x19_1 p182 q182
                have hw182_0 := hx182_0
                cases e182
                replace hx182_0 := (HB.out.cell (World.block_lt_of_cell? w _ hx182_0)).trans hx182_0
                replace p182 := eq_true p182
                replace q182 := eq_true q182
                refine start_ (n := 11) (S := fun w' => w'.cell? ⟨gb178, 0, none⟩ = some (.int .i64 x179000_1) ∧ w'.cell? ⟨gb178, 1, none⟩ = some (.bool x179001_1) ∧ w'.cell? (ad182.add (x19_1).toNat) = some (.int .i64 (rd l1 x19_1))) (ds := [10]) #[false, false, false, false, false, false, false, false, false, false, false] (by kernel_rfl) rfl rfl ⟨(blk_cell BK178.out 0).trans rfl, (blk_cell BK178.out 1).trans rfl, ((HB.out.cell (World.block_lt_of_cell? w _ hw182_0)).trans hw182_0)⟩ (fun hHeld => ?_); refine with_tabW lin_Holds.tab7 lin_Holds.bits7 (fun HT_ HW_ => ?_)
                generalize wr.drew = w20 at BK175 BK178 HB hx182_0 hHeld ⊢
                refine pure_ (i := 1) (N := some 25) (v := ?_) (a' := ?_) #[false, true, false, false, false, false, false, false, false, false, false] rfl rfl (any_of HT_.out (by kernel_rfl)) (fun _ _ _ h => h) (Or.inl ⟨by rfl, ?_⟩) ?_ ?_
                rotate_left
                · intro w'
                  go_simp
                  with_reducible rfl
                rotate_left
                · simp only [Act.put, List.setIfInBounds_toArray, List.set_cons_zero, List.set_cons_succ, i64_w, i32_w]
                  rfl
                refine pure_ (i := 3) (N := some 27) (v := ?_) (a' := ?_) #[false, true, false, true, false, false, false, false, false, false, false] rfl rfl (any_of HT_.out (by kernel_rfl)) (fun _ _ _ h => h) (Or.inl ⟨by rfl, ?_⟩) ?_ ?_
                rotate_left
                · intro w'
                  go_simp
                  with_reducible rfl
                rotate_left
                · simp only [Act.put, List.setIfInBounds_toArray, List.set_cons_zero, List.set_cons_succ, i64_w, i32_w]
                  rfl
                refine pure_ (i := 4) (N := some 28) (v := ?_) (a' := ?_) #[false, true, false, true, true, false, false, false, false, false, false] rfl rfl (any_of HT_.out (by kernel_rfl)) (fun _ _ _ h => h) (Or.inl ⟨by rfl, ?_⟩) ?_ ?_
                rotate_left
                · intro w'
                  go_simp
                  with_reducible rfl
                rotate_left
                · simp only [Act.put, List.setIfInBounds_toArray, List.set_cons_zero, List.set_cons_succ, i64_w, i32_w]
                  rfl
                refine pure_ (i := 5) (N := some 29) (v := ?_) (a' := ?_) #[false, true, false, true, true, true, false, false, false, false, false] rfl rfl (any_of HT_.out (by kernel_rfl)) (fun _ _ _ h => h) (Or.inl ⟨by rfl, ?_⟩) ?_ ?_
                rotate_left
                · intro w'
                  go_simp
                  with_reducible rfl
                rotate_left
                · simp only [Act.put, List.setIfInBounds_toArray, List.set_cons_zero, List.set_cons_succ, i64_w, i32_w]
                  rfl
                refine take_ (i := 0) (N := some 24) (v := ?_) (a' := ?_) #[true, true, false, true, true, true, false, false, false, false, false] rfl rfl (take_ofW HT_.out HW_.out (by kernel_rfl)) (fun _ _ _ h => h) (Or.inl ⟨by rfl, ?_⟩) hHeld ?_ ?_
                rotate_left
                · rintro w' ⟨s0, s1, s2⟩
                  go_simp
                  with_reducible rfl
                rotate_left
                · simp only [Act.put, List.setIfInBounds_toArray, List.set_cons_zero, List.set_cons_succ, i64_w, i32_w]
                  rfl
                refine take_ (i := 6) (N := some 30) (v := ?_) (a' := ?_) #[true, true, false, true, true, true, true, false, false, false, false] rfl rfl (take_ofW HT_.out HW_.out (by kernel_rfl)) (fun _ _ _ h => h) (Or.inl ⟨by rfl, ?_⟩) hHeld ?_ ?_
                rotate_left
                · rintro w' ⟨s0, s1, s2⟩
                  go_simp
                  with_reducible rfl
                rotate_left
                · simp only [Act.put, List.setIfInBounds_toArray, List.set_cons_zero, List.set_cons_succ, i64_w, i32_w]
                  rfl
                refine one_ (i := 2) (N := some 26) #[true, true, true, true, true, true, true, false, false, false, false] rfl rfl (one_of HT_.out (by kernel_rfl)) (by decide) (fun K hK => ?_)
                refine goes_ Try.func18 (by kernel_rfl) rfl #[.int .i64 (rd l0_0 x19_1)] (by rfl) rfl rfl (by (try simp only [List.map_toArray, List.map_cons, List.map_nil]); first | done | rfl | (simp only [List.length_drop, List.length_take]; rfl)) ?_
                with_reducible refine (lin_of.calls (rd l0_0 x19_1) t180 t181 _ A15.out).mono ?_
                rintro e w21 ⟨rfl, hb⟩
                refine ⟨_, rfl, ?_⟩
                have n0_ := Aside0.mk (blk_below (g := gb175) (o := .cells #[.slice (some ad179) l0_0.length c0_0, .int .i64 a0_1] 27 (0, 0)) (by (with_reducible repeat (first | refine blk_drewN ?_ _ | refine blk_drew ?_ | refine blk_alloc ?_ _)); exact BK175.out) hb)
                have n1_ := Aside0.mk (blk_below (g := gb178) (o := .cells #[.int .i64 x179000_1, .bool x179001_1] 49 (0, 0)) (by (with_reducible repeat (first | refine blk_drewN ?_ _ | refine blk_drew ?_ | refine blk_alloc ?_ _)); exact BK178.out) hb)
                have n2_ := Aside0.mk (below_step (by repeat (first | (with_reducible first | exact HB.out | apply below_alloc | apply pw_below_drewN | apply below_drew1 | refine below_set ?_ GE175.out | refine below_set ?_ GE178.out) | exact HB.out)) hb)
                clear BK175
                clear BK178
                clear HB
                have BK175 := n0_
                have BK178 := n1_
                have HB := n2_
                clear n0_ n1_ n2_
                (try clear hb)
                (try clear hb2)
                (try clear hk)
                (try clear hi)
                refine hK.out _ _ ⟨(blk_cell BK178.out 0).trans rfl, (blk_cell BK178.out 1).trans rfl, ((HB.out.cell (World.block_lt_of_cell? w _ hw182_0)).trans hw182_0)⟩ (fun hHeld => ?_)
                clear hK K
                refine norm_ (a' := ?_) ?_ ?_
                rotate_left
                · show Act.put _ (some 26) _ = _
                  simp only [Act.put, List.setIfInBounds_toArray, List.set_cons_zero, List.set_cons_succ, i64_w, i32_w]
                  rfl
                refine one_ (i := 7) (N := some 31) #[true, true, true, true, true, true, true, true, false, false, false] rfl rfl (one_of HT_.out (by kernel_rfl)) (by decide) (fun K hK => ?_)
                refine goes_ Try.func18 (by kernel_rfl) rfl #[.int .i64 (rd l1 x19_1)] (by rfl) rfl rfl (by (try simp only [List.map_toArray, List.map_cons, List.map_nil]); first | done | rfl | (simp only [List.length_drop, List.length_take]; rfl)) ?_
                with_reducible refine (lin_of.calls (rd l1 x19_1) t183 t184 _ A17.out).mono ?_
                rintro e w22 ⟨rfl, hb⟩
                refine ⟨_, rfl, ?_⟩
                have n0_ := Aside0.mk (blk_below (g := gb175) (o := .cells #[.slice (some ad179) l0_0.length c0_0, .int .i64 a0_1] 27 (0, 0)) (by (with_reducible repeat (first | refine blk_drewN ?_ _ | refine blk_drew ?_ | refine blk_alloc ?_ _)); exact BK175.out) hb)
                have n1_ := Aside0.mk (blk_below (g := gb178) (o := .cells #[.int .i64 x179000_1, .bool x179001_1] 49 (0, 0)) (by (with_reducible repeat (first | refine blk_drewN ?_ _ | refine blk_drew ?_ | refine blk_alloc ?_ _)); exact BK178.out) hb)
                have n2_ := Aside0.mk (below_step (by repeat (first | (with_reducible first | exact HB.out | apply below_alloc | apply pw_below_drewN | apply below_drew1 | refine below_set ?_ GE175.out | refine below_set ?_ GE178.out) | exact HB.out)) hb)
                clear BK175
                clear BK178
                clear HB
                have BK175 := n0_
                have BK178 := n1_
                have HB := n2_
                clear n0_ n1_ n2_
                (try clear hb)
                (try clear hb2)
                (try clear hk)
                (try clear hi)
                refine hK.out _ _ ⟨(blk_cell BK178.out 0).trans rfl, (blk_cell BK178.out 1).trans rfl, ((HB.out.cell (World.block_lt_of_cell? w _ hw182_0)).trans hw182_0)⟩ (fun hHeld => ?_)
                clear hK K
                refine norm_ (a' := ?_) ?_ ?_
                rotate_left
                · show Act.put _ (some 31) _ = _
                  simp only [Act.put, List.setIfInBounds_toArray, List.set_cons_zero, List.set_cons_succ, i64_w, i32_w]
                  rfl
                refine one_ (i := 8) (N := some 32) #[true, true, true, true, true, true, true, true, true, false, false] rfl rfl (one_of HT_.out (by kernel_rfl)) (by decide) (fun K hK => ?_)
                refine goes_ Try.func20 (by kernel_rfl) rfl #[.agg #[.int .i64 t180, .bool t181], .agg #[.int .i64 t183, .bool t184]] (by rfl) rfl rfl (by (try simp only [List.map_toArray, List.map_cons, List.map_nil]); first | done | rfl | (simp only [List.length_drop, List.length_take]; rfl)) ?_
                with_reducible refine (lin_sure_times.calls k1 t180 t181 t183 t184 t185 t186 _ A18.out).mono ?_
                rintro e w23 ⟨rfl, hb⟩
                refine ⟨_, rfl, ?_⟩
                have n0_ := Aside0.mk (blk_below (g := gb175) (o := .cells #[.slice (some ad179) l0_0.length c0_0, .int .i64 a0_1] 27 (0, 0)) (by (with_reducible repeat (first | refine blk_drewN ?_ _ | refine blk_drew ?_ | refine blk_alloc ?_ _)); exact BK175.out) hb)
                have n1_ := Aside0.mk (blk_below (g := gb178) (o := .cells #[.int .i64 x179000_1, .bool x179001_1] 49 (0, 0)) (by (with_reducible repeat (first | refine blk_drewN ?_ _ | refine blk_drew ?_ | refine blk_alloc ?_ _)); exact BK178.out) hb)
                have n2_ := Aside0.mk (below_step (by repeat (first | (with_reducible first | exact HB.out | apply below_alloc | apply pw_below_drewN | apply below_drew1 | refine below_set ?_ GE175.out | refine below_set ?_ GE178.out) | exact HB.out)) hb)
                clear BK175
                clear BK178
                clear HB
                have BK175 := n0_
                have BK178 := n1_
                have HB := n2_
                clear n0_ n1_ n2_
                (try clear hb)
                (try clear hb2)
                (try clear hk)
                (try clear hi)
                refine hK.out _ _ ⟨(blk_cell BK178.out 0).trans rfl, (blk_cell BK178.out 1).trans rfl, ((HB.out.cell (World.block_lt_of_cell? w _ hw182_0)).trans hw182_0)⟩ (fun hHeld => ?_)
                clear hK K
                refine norm_ (a' := ?_) ?_ ?_
                rotate_left
                · show Act.put _ (some 32) _ = _
                  simp only [Act.put, List.setIfInBounds_toArray, List.set_cons_zero, List.set_cons_succ, i64_w, i32_w]
                  rfl
                refine one_ (i := 9) (N := some 33) #[true, true, true, true, true, true, true, true, true, true, false] rfl rfl (one_of HT_.out (by kernel_rfl)) (by decide) (fun K hK => ?_)
                refine goes_ Try.func19 (by kernel_rfl) rfl #[.agg #[.int .i64 x179000_1, .bool x179001_1], .agg #[.int .i64 t185, .bool t186]] (by rfl) rfl rfl (by (try simp only [List.map_toArray, List.map_cons, List.map_nil]); first | done | rfl | (simp only [List.length_drop, List.length_take]; rfl)) ?_
                with_reducible refine (lin_sure_plus.calls x179000_1 x179001_1 t185 t186 t187 t188 _ A19.out).mono ?_
                rintro e w24 ⟨rfl, hb⟩
                refine ⟨_, rfl, ?_⟩
                have n0_ := Aside0.mk (blk_below (g := gb175) (o := .cells #[.slice (some ad179) l0_0.length c0_0, .int .i64 a0_1] 27 (0, 0)) (by (with_reducible repeat (first | refine blk_drewN ?_ _ | refine blk_drew ?_ | refine blk_alloc ?_ _)); exact BK175.out) hb)
                have n1_ := Aside0.mk (blk_below (g := gb178) (o := .cells #[.int .i64 x179000_1, .bool x179001_1] 49 (0, 0)) (by (with_reducible repeat (first | refine blk_drewN ?_ _ | refine blk_drew ?_ | refine blk_alloc ?_ _)); exact BK178.out) hb)
                have n2_ := Aside0.mk (below_step (by repeat (first | (with_reducible first | exact HB.out | apply below_alloc | apply pw_below_drewN | apply below_drew1 | refine below_set ?_ GE175.out | refine below_set ?_ GE178.out) | exact HB.out)) hb)
                clear BK175
                clear BK178
                clear HB
                have BK175 := n0_
                have BK178 := n1_
                have HB := n2_
                clear n0_ n1_ n2_
                (try clear hb)
                (try clear hb2)
                (try clear hk)
                (try clear hi)
                refine hK.out _ _ ⟨(blk_cell BK178.out 0).trans rfl, (blk_cell BK178.out 1).trans rfl, ((HB.out.cell (World.block_lt_of_cell? w _ hw182_0)).trans hw182_0)⟩ (fun hHeld => ?_)
                clear hK K
                refine norm_ (a' := ?_) ?_ ?_
                rotate_left
                · show Act.put _ (some 33) _ = _
                  simp only [Act.put, List.setIfInBounds_toArray, List.set_cons_zero, List.set_cons_succ, i64_w, i32_w]
                  rfl
                refine last_ (i := 10) (N := none) #[true, true, true, true, true, true, true, true, true, true, true] rfl rfl (one_of HT_.out (by kernel_rfl)) (by decide) (fun K hK => ?_)
                have hs25 : w24.cell? ⟨gb178, 0, none⟩ = some (.int .i64 x179000_1) := (blk_cell BK178.out 0).trans rfl
                have hfs25 := blk_frozen BK178.out 0
                have hns25_0 := NB175_178.out
                have hms25_0 := NB178_175.out
                have hs26 : w24.cell? ⟨gb178, 1, none⟩ = some (.bool x179001_1) := (blk_cell BK178.out 1).trans rfl
                have hfs26 := blk_frozen BK178.out 1
                have hns26_0 := NB175_178.out
                have hms26_0 := NB178_175.out
                refine skip_ (w1 := ?_) (by rfl) rfl ?_ ?_
                rotate_left
                · go_simp
                  rfl
                refine hK.out _ _ ?_
                clear hK K
                refine done_ (done_of HT_.out (by kernel_rfl)) ?_
                try go_wp2
                go_roundg k1
                case measure => have := HK1.out; omega
                case rel => exact ⟨(wrap64 (x19_1 + 1)), (t187), (t188), (by first | rfl | (simp; done) | (simp [*]; done)), H', ⟨by have := HK1.out; omega⟩, ⟨by (with_reducible repeat (first | refine blk_drewN ?_ _ | refine blk_drew ?_ | refine blk_alloc ?_ _)); refine blk_far ?_ NB175_178.out _; (with_reducible repeat (first | refine blk_drewN ?_ _ | refine blk_drew ?_ | refine blk_alloc ?_ _)); refine blk_far ?_ NB175_178.out _; (with_reducible repeat (first | refine blk_drewN ?_ _ | refine blk_drew ?_ | refine blk_alloc ?_ _)); exact BK175.out⟩, ⟨by (with_reducible repeat (first | refine blk_drewN ?_ _ | refine blk_drew ?_ | refine blk_alloc ?_ _)); refine blk_put (cs := #[.int .i64 t187, .bool x179001_1]) ?_ 1 _ rfl; (with_reducible repeat (first | refine blk_drewN ?_ _ | refine blk_drew ?_ | refine blk_alloc ?_ _)); refine blk_put (cs := #[.int .i64 x179000_1, .bool x179001_1]) ?_ 0 _ rfl; (with_reducible repeat (first | refine blk_drewN ?_ _ | refine blk_drew ?_ | refine blk_alloc ?_ _)); exact BK178.out⟩, ⟨by repeat (first | (with_reducible first | exact HB.out | apply below_alloc | apply pw_below_drewN | apply below_drew1 | refine below_set ?_ GE175.out | refine below_set ?_ GE178.out) | exact HB.out)⟩⟩
              · rw [if_neg c16] at H
                exact absurd H (by simp)
            · rw [if_neg c14] at H
              exact absurd H (by simp)
          · rw [if_neg c13] at H
            exact absurd H (by simp)
        · rw [if_neg c12] at H
          have c12b0 : decide (x19_1 < (l0_0.length : Int)) = false := decide_eq_false c12
          clear c12
          by_cases c27 : x179001_1 = true
          · subst c27
            have H1 : (some (decide (x179000_1 ≤ a0_1), 0)) = some (r1, r2) := by rw [if_pos rfl] at H; exact H
            clear H
            have H := H1
            clear H1
            simp only [Option.some.injEq, Prod.mk.injEq] at H
            obtain ⟨rfl, rfl⟩ := H
            have hnb28 := NB178_175.out
            have hnc28 := NB175_178.out
            have hcz29_0 : wr.cell? ⟨gb178, 0, none⟩ = some (.int .i64 x179000_1) := (blk_cell BK178.out 0).trans rfl
            have hcz29_1 : wr.cell? ⟨gb178, 1, none⟩ = some (.bool true) := (blk_cell BK178.out 1).trans rfl
            have hfz29_0 := blk_frozen BK178.out 0
            have hfz29_1 := blk_frozen BK178.out 1
            have hcz30_0 : wr.cell? ⟨gb175, 0, none⟩ = some (.slice A0_0 l0_0.length c0_0) := (blk_cell BK175.out 0).trans rfl
            have hcz30_1 : wr.cell? ⟨gb175, 1, none⟩ = some (.int .i64 a0_1) := (blk_cell BK175.out 1).trans rfl
            have hfz30_0 := blk_frozen BK175.out 0
            have hfz30_1 := blk_frozen BK175.out 1
            go_wp2
            go_ret2
            exact ⟨by first | rfl | (simp [errW_none, errW_some] <;> rfl) | (simp [*, errW_none, errW_some] <;> rfl), by repeat (first | (with_reducible first | exact HB.out | apply below_alloc | apply pw_below_drewN | apply below_drew1 | refine below_set ?_ GE175.out | refine below_set ?_ GE178.out) | exact HB.out)⟩
          · replace c27 := Bool.eq_false_iff.mpr c27
            subst c27
            have H1 : (some (false, 14)) = some (r1, r2) := by rw [if_neg (show ¬ (false = true) by decide)] at H; exact H
            clear H
            have H := H1
            clear H1
            simp only [Option.some.injEq, Prod.mk.injEq] at H
            obtain ⟨rfl, rfl⟩ := H
            have hnb31 := NB178_175.out
            have hnc31 := NB175_178.out
            have hcz32_0 : wr.cell? ⟨gb178, 0, none⟩ = some (.int .i64 x179000_1) := (blk_cell BK178.out 0).trans rfl
            have hcz32_1 : wr.cell? ⟨gb178, 1, none⟩ = some (.bool false) := (blk_cell BK178.out 1).trans rfl
            have hfz32_0 := blk_frozen BK178.out 0
            have hfz32_1 := blk_frozen BK178.out 1
            go_wp2
            go_ret2
            exact ⟨by first | rfl | (simp [errW_none, errW_some] <;> rfl) | (simp [*, errW_none, errW_some] <;> rfl), by repeat (first | (with_reducible first | exact HB.out | apply below_alloc | apply pw_below_drewN | apply below_drew1 | refine below_set ?_ GE175.out | refine below_set ?_ GE178.out) | exact HB.out)⟩
  · rw [if_neg c3] at H
    have c3b0 : ((l0_0.length : Int) == (l1.length : Int)) = false := beq_eq_false_iff_ne.mpr c3
    have c3b1 : ((l0_0.length : Int) != (l1.length : Int)) = true := bne_iff_ne.mpr c3
    have c3b2 : (l0_0.length == l1.length) = false := by first | simpa using c3 | (simp at c3 ⊢; omega)
    simp only [Option.some.injEq, Prod.mk.injEq] at H
    obtain ⟨rfl, rfl⟩ := H
    go_enter Try.func15, Try.ntmps15
    go_wp2_with (first | ((with_reducible refine gate_dst (N := 2) rfl ?_); refine box_event ?hg (N := 2) ?hd (cs := #[.slice A0_0 l0_0.length c0_0, .int .i64 a0_1]) (t := 27) ?hr ?_; (case hd => rfl); (case hg => rfl); (case hr => first | (go_simp; done) | (go_simp; rfl)); intro gb175 hg w33 hbox hb; have n0_ := Aside0.mk (below_step (by repeat (first | (with_reducible first | exact HB.out | apply below_alloc | apply pw_below_drewN | apply below_drew1) | exact HB.out)) hb); have n1_ := Aside0.mk (hbox); have n2_ := Aside0.mk ((by rw [hg]; exact (below_size (by repeat (first | (with_reducible first | exact HB.out | apply below_alloc | apply pw_below_drewN | apply below_drew1) | exact HB.out))) : w.heap.size ≤ gb175)); have n3_ := Aside0.mk ((by rw [hg]; exact (below_size (by repeat (first | (with_reducible first | exact HB.out | apply below_alloc | apply pw_below_drewN | apply below_drew1) | exact HB.out))) : w.heap.size ≤ gb175)); clear HB; have HB := n0_; have BK175 := n1_; have GW175 := n2_; have GE175 := n3_; clear n0_ n1_ n2_ n3_; clear hb hbox hg; have hcz34_0 : w33.cell? ⟨gb175, 0, none⟩ = some (.slice A0_0 l0_0.length c0_0) := (blk_cell BK175.out 0).trans rfl; have hcz34_1 : w33.cell? ⟨gb175, 1, none⟩ = some (.int .i64 a0_1) := (blk_cell BK175.out 1).trans rfl; have hfz34_0 := blk_frozen BK175.out 0; have hfz34_1 := blk_frozen BK175.out 1))
    go_ret2
    exact ⟨by first | rfl | (simp [errW_none, errW_some] <;> rfl) | (simp [*, errW_none, errW_some] <;> rfl), by repeat (first | (with_reducible first | exact HB.out | apply below_alloc | apply pw_below_drewN | apply below_drew1 | refine below_set ?_ GE175.out) | exact HB.out)⟩


/-! ### plimsolllaw14_awake: function 10 -/
/-- A block of cells reads as a row. -/
theorem C_blk {α : Type} {d : Kd α} {w : World} {b : Nat} {t : TypeId} {cs : List Value} {xs : List α} (h : w.heap[b]? = some (.cells cs.toArray t (0, 0))) (hn : xs.length ≤ 9223372036854775807) (hr : Reps (d.K w) d.sz xs cs) : Kd.C d w (some ⟨b, 0, none⟩) xs.length xs := by
  refine ⟨rfl, hn, fun _ => ⟨_, rfl, fun j p hj => ⟨_, ?_, hr.2 j p hj, fun i u hu => ?_⟩⟩⟩
  · exact d.K_len (hr.2 j p hj)
  · rw [List.getElem?_take] at hu
    split at hu
    · rw [List.getElem?_drop] at hu
      have e : (Addr.mk b 0 none).add (j * d.sz + i) = ⟨b, j * d.sz + i, none⟩ := by
        unfold Addr.add; split <;> simp_all
      rw [e, cell_of_row w b _ cs.toArray t (0, 0) h]
      simpa using hu
    · cases hu
theorem reps_two {α : Type} {R : α → List Value → Prop} {sz : Nat} {x y : α} {c0 c1 : List Value} (h0 : R x c0) (h1 : R y c1) (l0 : c0.length = sz) (l1 : c1.length = sz) : Reps R sz [x, y] (c0 ++ c1) := by
  refine ⟨by simp [l0, l1]; omega, fun j p hj => ?_⟩
  match j, hj with
  | 0, hj => simp at hj; subst hj; simpa [← l0] using h0
  | 1, hj => simp at hj; subst hj; rw [Nat.one_mul, List.drop_append_of_le_length (by omega), List.drop_of_length_le (by omega)]; simp [← l1]; exact h1
theorem C_ints2 {w : World} {b : Nat} {t : TypeId} {x y : Int} (h : w.heap[b]? = some (.cells #[.int .i64 x, .int .i64 y] t (0, 0))) : Kd.C (Kd.int .i64) w (some ⟨b, 0, none⟩) 2 [x, y] :=
  C_blk (d := Kd.int .i64) (cs := [.int .i64 x, .int .i64 y]) (xs := [x, y]) h (by show 2 ≤ 9223372036854775807; decide) (reps_two (c0 := [.int .i64 x]) (c1 := [.int .i64 y]) rfl rfl rfl rfl)
theorem blk_new {W : World} {o : Obj} {g : Nat} (h : g = W.heap.size) : (W.alloc o).heap[g]? = some o := by rw [h]; exact heap_alloc_new W o
def plimsolllaw14_awake.f (k : Nat) : Option Bool := if 40 ≤ k then some true else none
theorem plimsolllaw14_awake.mono : ∀ k, LeO (plimsolllaw14_awake.f k ) (plimsolllaw14_awake.f (k + 1) ) := by
  intro k r h
  unfold plimsolllaw14_awake.f at h ⊢
  split at h
  · rw [if_pos (by omega)]; exact h
  · cases h
set_option maxHeartbeats 8000000 in
set_option maxRecDepth 100000 in
theorem plimsolllaw14_awake.walk (w : World) : Calls Try.prog 10 #[] w fun e w' => e = .returned (.bool true) ∧ Below w.heap.size w w' := by
  have hS : lin_Sum.f 200 [⟨[1, -1], -3⟩, ⟨[0, 1], 5⟩] [1, 1] 2 = some ([1, 0], 2, 0) := by decide +kernel
  have hH1 : lin_Holds.f 200 [1, -1] (-3) [1, 4] = some (true, 0) := by decide +kernel
  have hH2 : lin_Holds.f 200 [1, -1] (-3) [4611686018427387904, 0] = some (false, 14) := by decide +kernel
  have hSa : plimsollref14_Same.f 200 [1, 0] 2 [1, 0] 2 = some true := by decide +kernel
  have hI : lin_Implies.f 200 [1, 0] 2 [1, 0] 9 = some true := by decide +kernel
  have hP : lin_Proves.f 200 [⟨[1, -1], -3⟩, ⟨[0, 1], 5⟩] [1, 1] [1, 0] 2 = some true := by decide +kernel
  have HS := Aside0.mk hS
  have HH1 := Aside0.mk hH1
  have HH2 := Aside0.mk hH2
  have HSa := Aside0.mk hSa
  have HI := Aside0.mk hI
  have HP := Aside0.mk hP
  clear hS hH1 hH2 hSa hI hP
  go_enter Try.func10, Try.ntmps10
  go_wp2_with fail
  refine (lin_Sum.calls 200 _ _ [⟨[1, -1], -3⟩, ⟨[0, 1], 5⟩] _ _ [1, 1] 2 [1, 0] 2 0 _ ?a1 (by decide) ?a2 (by decide) HS.out).mono ?_
  case a2 => exact C_ints2 (by repeat (first | exact blk_new (by simp; done) | exact blk_new rfl | refine blk_alloc ?_ _))
  case a1 =>
    refine C_blk (d := k27) (t := 27) (cs := [.slice (some ⟨w.heap.size, 0, none⟩) 2 2, .int .i64 (-3)] ++ [.slice (some ⟨w.heap.size + 1 + 1, 0, none⟩) 2 2, .int .i64 5]) (xs := [⟨[1, -1], -3⟩, ⟨[0, 1], 5⟩]) (by repeat (first | exact blk_new (by simp; done) | exact blk_new rfl | refine blk_alloc ?_ _)) (by decide) (reps_two ?_ ?_ rfl rfl)
    · exact k27_mk _ ⟨[1, -1], -3⟩ (by decide) (C_ints2 (by repeat (first | exact blk_new (by simp; done) | exact blk_new rfl | refine blk_alloc ?_ _)))
    · exact k27_mk _ ⟨[0, 1], 5⟩ (by decide) (C_ints2 (by repeat (first | exact blk_new (by simp; done) | exact blk_new rfl | refine blk_alloc ?_ _)))
  rintro e w1 ⟨v0, rfl, hR, hb⟩
  obtain ⟨As, cs, rfl, hls, hCs⟩ := Kd.R_reads hR
  clear hR
  have HLS := Aside0.mk hls
  have HCS := Aside0.mk hCs
  clear hls hCs
  have b0 : w1.heap[w.heap.size]? = some (.cells #[.int .i64 1, .int .i64 (-1)] 3 (0, 0)) := (hb.block _ (by first | (simp; done) | (simp; omega))).trans (by repeat (first | exact blk_new (by simp; done) | exact blk_new rfl | refine blk_alloc ?_ _))
  have b1 : w1.heap[w.heap.size + 1]? = some (.cells #[.slice (some ⟨w.heap.size, 0, none⟩) 2 2, .int .i64 (-3)] 27 (0, 0)) := (hb.block _ (by first | (simp; done) | (simp; omega))).trans (by repeat (first | exact blk_new (by simp; done) | exact blk_new rfl | refine blk_alloc ?_ _))
  have b2 : w1.heap[w.heap.size + 1 + 1]? = some (.cells #[.int .i64 0, .int .i64 1] 3 (0, 0)) := (hb.block _ (by first | (simp; done) | (simp; omega))).trans (by repeat (first | exact blk_new (by simp; done) | exact blk_new rfl | refine blk_alloc ?_ _))
  have b3 : w1.heap[w.heap.size + 1 + 1 + 1]? = some (.cells #[.slice (some ⟨w.heap.size + 1 + 1, 0, none⟩) 2 2, .int .i64 5] 27 (0, 0)) := (hb.block _ (by first | (simp; done) | (simp; omega))).trans (by repeat (first | exact blk_new (by simp; done) | exact blk_new rfl | refine blk_alloc ?_ _))
  have HBn := Aside0.mk (show Below w.heap.size w w1 from below_step (by repeat (first | exact Below.refl _ _ | refine below_alloc ?_ _)) hb)
  have zn : w.heap.size + 1 + 1 + 1 + 1 + 1 < w1.heap.size := by have := hb.size; simp at this; omega
  have z01 : w.heap.size < w1.heap.size := by omega
  have z11 : w.heap.size + 1 < w1.heap.size := by omega
  have z21 : w.heap.size + 1 + 1 < w1.heap.size := by omega
  have z31 : w.heap.size + 1 + 1 + 1 < w1.heap.size := by omega
  have HB := HBn
  clear HBn hb
  have c10 : w1.cell? ⟨w.heap.size + 1, 0, none⟩ = some (.slice (some ⟨w.heap.size, 0, none⟩) 2 2) := (blk_cell b1 0).trans rfl
  have c11 : w1.cell? ⟨w.heap.size + 1, 1, none⟩ = some (.int .i64 (-3)) := (blk_cell b1 1).trans rfl
  have c30 : w1.cell? ⟨w.heap.size + 1 + 1 + 1, 0, none⟩ = some (.slice (some ⟨w.heap.size + 1 + 1, 0, none⟩) 2 2) := (blk_cell b3 0).trans rfl
  have c31 : w1.cell? ⟨w.heap.size + 1 + 1 + 1, 1, none⟩ = some (.int .i64 5) := (blk_cell b3 1).trans rfl
  have B0 := Aside0.mk b0
  have B1 := Aside0.mk b1
  have B2 := Aside0.mk b2
  have B3 := Aside0.mk b3
  clear b0 b1 b2 b3
  go_wp2_with fail
  refine (lin_Holds.calls 200 _ _ [1, -1] (-3) _ _ [1, 4] true 0 _ ?h2a (by decide) ?h2b (by decide) HH1.out).mono ?_
  case h2a => exact C_ints2 (by repeat (first | exact B0.out | exact blk_new rfl | refine blk_alloc ?_ _))
  case h2b => exact C_ints2 (by repeat (first | exact blk_new (by simp; done) | exact blk_new rfl | refine blk_alloc ?_ _))
  rintro e w2 ⟨rfl, hb⟩
  have HCSn := Aside0.mk (Kd.C_below HCS.out (show Below w1.heap.size w1 w2 from below_step (by repeat (first | exact Below.refl _ _ | refine below_alloc ?_ _)) hb))
  clear HCS
  have HCS := HCSn
  clear HCSn
  have b0 : w2.heap[w.heap.size]? = some (.cells #[.int .i64 1, .int .i64 (-1)] 3 (0, 0)) := (hb.block _ (by first | (simp; done) | (simp; omega))).trans (by repeat (first | exact B0.out | exact blk_new rfl | refine blk_alloc ?_ _))
  have b1 : w2.heap[w.heap.size + 1]? = some (.cells #[.slice (some ⟨w.heap.size, 0, none⟩) 2 2, .int .i64 (-3)] 27 (0, 0)) := (hb.block _ (by first | (simp; done) | (simp; omega))).trans (by repeat (first | exact B1.out | exact blk_new rfl | refine blk_alloc ?_ _))
  have b2 : w2.heap[w.heap.size + 1 + 1]? = some (.cells #[.int .i64 0, .int .i64 1] 3 (0, 0)) := (hb.block _ (by first | (simp; done) | (simp; omega))).trans (by repeat (first | exact B2.out | exact blk_new rfl | refine blk_alloc ?_ _))
  have b3 : w2.heap[w.heap.size + 1 + 1 + 1]? = some (.cells #[.slice (some ⟨w.heap.size + 1 + 1, 0, none⟩) 2 2, .int .i64 5] 27 (0, 0)) := (hb.block _ (by first | (simp; done) | (simp; omega))).trans (by repeat (first | exact B3.out | exact blk_new rfl | refine blk_alloc ?_ _))
  have bS : w2.heap[w1.heap.size]? = some (.cells #[.slice As 2 cs, .int .i64 2] 27 (0, 0)) := (hb.block _ (by first | (simp; done) | (simp; omega))).trans (by repeat (first | exact blk_new (by simp; done) | exact blk_new rfl | refine blk_alloc ?_ _))
  have HBn := Aside0.mk (show Below w.heap.size w w2 from below_step (by repeat (first | exact HB.out | exact Below.refl _ _ | refine below_alloc ?_ _)) hb)
  have zn : w1.heap.size < w2.heap.size := by have := hb.size; simp at this; omega
  have z02 : w.heap.size < w2.heap.size := by omega
  have z12 : w.heap.size + 1 < w2.heap.size := by omega
  have z22 : w.heap.size + 1 + 1 < w2.heap.size := by omega
  have z32 : w.heap.size + 1 + 1 + 1 < w2.heap.size := by omega
  have zS2 : w1.heap.size < w2.heap.size := by omega
  clear B0 B1 B2 B3 HB c10 c11 c30 c31
  have HB := HBn
  clear HBn hb
  have c10 : w2.cell? ⟨w.heap.size + 1, 0, none⟩ = some (.slice (some ⟨w.heap.size, 0, none⟩) 2 2) := (blk_cell b1 0).trans rfl
  have c11 : w2.cell? ⟨w.heap.size + 1, 1, none⟩ = some (.int .i64 (-3)) := (blk_cell b1 1).trans rfl
  have c30 : w2.cell? ⟨w.heap.size + 1 + 1 + 1, 0, none⟩ = some (.slice (some ⟨w.heap.size + 1 + 1, 0, none⟩) 2 2) := (blk_cell b3 0).trans rfl
  have c31 : w2.cell? ⟨w.heap.size + 1 + 1 + 1, 1, none⟩ = some (.int .i64 5) := (blk_cell b3 1).trans rfl
  have cs0 : w2.cell? ⟨w1.heap.size, 0, none⟩ = some (.slice As 2 cs) := (blk_cell bS 0).trans rfl
  have cs1 : w2.cell? ⟨w1.heap.size, 1, none⟩ = some (.int .i64 2) := (blk_cell bS 1).trans rfl
  have B0 := Aside0.mk b0
  have B1 := Aside0.mk b1
  have B2 := Aside0.mk b2
  have B3 := Aside0.mk b3
  have BS := Aside0.mk bS
  clear b0 b1 b2 b3 bS
  go_wp2_with fail
  refine (lin_Holds.calls 200 _ _ [1, -1] (-3) _ _ [4611686018427387904, 0] false 14 _ ?h3a (by decide) ?h3b (by decide) HH2.out).mono ?_
  case h3a => exact C_ints2 (by repeat (first | exact B0.out | exact blk_new rfl | refine blk_alloc ?_ _))
  case h3b => exact C_ints2 (by repeat (first | exact blk_new (by simp; done) | exact blk_new rfl | refine blk_alloc ?_ _))
  rintro e w3 ⟨rfl, hb⟩
  have HCSn := Aside0.mk (Kd.C_below HCS.out (show Below w2.heap.size w2 w3 from below_step (by repeat (first | exact Below.refl _ _ | refine below_alloc ?_ _)) hb))
  clear HCS
  have HCS := HCSn
  clear HCSn
  have b0 : w3.heap[w.heap.size]? = some (.cells #[.int .i64 1, .int .i64 (-1)] 3 (0, 0)) := (hb.block _ (by first | (simp; done) | (simp; omega))).trans (by repeat (first | exact B0.out | exact blk_new rfl | refine blk_alloc ?_ _))
  have b1 : w3.heap[w.heap.size + 1]? = some (.cells #[.slice (some ⟨w.heap.size, 0, none⟩) 2 2, .int .i64 (-3)] 27 (0, 0)) := (hb.block _ (by first | (simp; done) | (simp; omega))).trans (by repeat (first | exact B1.out | exact blk_new rfl | refine blk_alloc ?_ _))
  have b2 : w3.heap[w.heap.size + 1 + 1]? = some (.cells #[.int .i64 0, .int .i64 1] 3 (0, 0)) := (hb.block _ (by first | (simp; done) | (simp; omega))).trans (by repeat (first | exact B2.out | exact blk_new rfl | refine blk_alloc ?_ _))
  have b3 : w3.heap[w.heap.size + 1 + 1 + 1]? = some (.cells #[.slice (some ⟨w.heap.size + 1 + 1, 0, none⟩) 2 2, .int .i64 5] 27 (0, 0)) := (hb.block _ (by first | (simp; done) | (simp; omega))).trans (by repeat (first | exact B3.out | exact blk_new rfl | refine blk_alloc ?_ _))
  have bS : w3.heap[w1.heap.size]? = some (.cells #[.slice As 2 cs, .int .i64 2] 27 (0, 0)) := (hb.block _ (by first | (simp; done) | (simp; omega))).trans (by repeat (first | exact BS.out | exact blk_new rfl | refine blk_alloc ?_ _))
  have HBn := Aside0.mk (show Below w.heap.size w w3 from below_step (by repeat (first | exact HB.out | exact Below.refl _ _ | refine below_alloc ?_ _)) hb)
  have zn : w2.heap.size < w3.heap.size := by have := hb.size; simp at this; omega
  have z03 : w.heap.size < w3.heap.size := by omega
  have z13 : w.heap.size + 1 < w3.heap.size := by omega
  have z23 : w.heap.size + 1 + 1 < w3.heap.size := by omega
  have z33 : w.heap.size + 1 + 1 + 1 < w3.heap.size := by omega
  have zS3 : w1.heap.size < w3.heap.size := by omega
  clear B0 B1 B2 B3 BS HB c10 c11 c30 c31 cs0 cs1
  have HB := HBn
  clear HBn hb
  have c10 : w3.cell? ⟨w.heap.size + 1, 0, none⟩ = some (.slice (some ⟨w.heap.size, 0, none⟩) 2 2) := (blk_cell b1 0).trans rfl
  have c11 : w3.cell? ⟨w.heap.size + 1, 1, none⟩ = some (.int .i64 (-3)) := (blk_cell b1 1).trans rfl
  have c30 : w3.cell? ⟨w.heap.size + 1 + 1 + 1, 0, none⟩ = some (.slice (some ⟨w.heap.size + 1 + 1, 0, none⟩) 2 2) := (blk_cell b3 0).trans rfl
  have c31 : w3.cell? ⟨w.heap.size + 1 + 1 + 1, 1, none⟩ = some (.int .i64 5) := (blk_cell b3 1).trans rfl
  have cs0 : w3.cell? ⟨w1.heap.size, 0, none⟩ = some (.slice As 2 cs) := (blk_cell bS 0).trans rfl
  have cs1 : w3.cell? ⟨w1.heap.size, 1, none⟩ = some (.int .i64 2) := (blk_cell bS 1).trans rfl
  have B0 := Aside0.mk b0
  have B1 := Aside0.mk b1
  have B2 := Aside0.mk b2
  have B3 := Aside0.mk b3
  have BS := Aside0.mk bS
  clear b0 b1 b2 b3 bS
  go_wp2_with fail
  refine (plimsollref14_Same.calls 200 _ _ [1, 0] 2 _ _ [1, 0] 2 true _ (Kd.C_below HCS.out (by repeat (first | exact Below.refl _ _ | refine below_alloc ?_ _))) HLS.out ?s4 (by decide) HSa.out).mono ?_
  case s4 => exact C_ints2 (by repeat (first | exact blk_new (by simp; done) | exact blk_new rfl | refine blk_alloc ?_ _))
  rintro e w4 ⟨rfl, hb⟩
  have HCSn := Aside0.mk (Kd.C_below HCS.out (show Below w3.heap.size w3 w4 from below_step (by repeat (first | exact Below.refl _ _ | refine below_alloc ?_ _)) hb))
  clear HCS
  have HCS := HCSn
  clear HCSn
  have b0 : w4.heap[w.heap.size]? = some (.cells #[.int .i64 1, .int .i64 (-1)] 3 (0, 0)) := (hb.block _ (by first | (simp; done) | (simp; omega))).trans (by repeat (first | exact B0.out | exact blk_new rfl | refine blk_alloc ?_ _))
  have b1 : w4.heap[w.heap.size + 1]? = some (.cells #[.slice (some ⟨w.heap.size, 0, none⟩) 2 2, .int .i64 (-3)] 27 (0, 0)) := (hb.block _ (by first | (simp; done) | (simp; omega))).trans (by repeat (first | exact B1.out | exact blk_new rfl | refine blk_alloc ?_ _))
  have b2 : w4.heap[w.heap.size + 1 + 1]? = some (.cells #[.int .i64 0, .int .i64 1] 3 (0, 0)) := (hb.block _ (by first | (simp; done) | (simp; omega))).trans (by repeat (first | exact B2.out | exact blk_new rfl | refine blk_alloc ?_ _))
  have b3 : w4.heap[w.heap.size + 1 + 1 + 1]? = some (.cells #[.slice (some ⟨w.heap.size + 1 + 1, 0, none⟩) 2 2, .int .i64 5] 27 (0, 0)) := (hb.block _ (by first | (simp; done) | (simp; omega))).trans (by repeat (first | exact B3.out | exact blk_new rfl | refine blk_alloc ?_ _))
  have bS : w4.heap[w1.heap.size]? = some (.cells #[.slice As 2 cs, .int .i64 2] 27 (0, 0)) := (hb.block _ (by first | (simp; done) | (simp; omega))).trans (by repeat (first | exact BS.out | exact blk_new rfl | refine blk_alloc ?_ _))
  have HBn := Aside0.mk (show Below w.heap.size w w4 from below_step (by repeat (first | exact HB.out | exact Below.refl _ _ | refine below_alloc ?_ _)) hb)
  have zn : w3.heap.size < w4.heap.size := by have := hb.size; simp at this; omega
  have z04 : w.heap.size < w4.heap.size := by omega
  have z14 : w.heap.size + 1 < w4.heap.size := by omega
  have z24 : w.heap.size + 1 + 1 < w4.heap.size := by omega
  have z34 : w.heap.size + 1 + 1 + 1 < w4.heap.size := by omega
  have zS4 : w1.heap.size < w4.heap.size := by omega
  clear B0 B1 B2 B3 BS HB c10 c11 c30 c31 cs0 cs1
  have HB := HBn
  clear HBn hb
  have c10 : w4.cell? ⟨w.heap.size + 1, 0, none⟩ = some (.slice (some ⟨w.heap.size, 0, none⟩) 2 2) := (blk_cell b1 0).trans rfl
  have c11 : w4.cell? ⟨w.heap.size + 1, 1, none⟩ = some (.int .i64 (-3)) := (blk_cell b1 1).trans rfl
  have c30 : w4.cell? ⟨w.heap.size + 1 + 1 + 1, 0, none⟩ = some (.slice (some ⟨w.heap.size + 1 + 1, 0, none⟩) 2 2) := (blk_cell b3 0).trans rfl
  have c31 : w4.cell? ⟨w.heap.size + 1 + 1 + 1, 1, none⟩ = some (.int .i64 5) := (blk_cell b3 1).trans rfl
  have cs0 : w4.cell? ⟨w1.heap.size, 0, none⟩ = some (.slice As 2 cs) := (blk_cell bS 0).trans rfl
  have cs1 : w4.cell? ⟨w1.heap.size, 1, none⟩ = some (.int .i64 2) := (blk_cell bS 1).trans rfl
  have B0 := Aside0.mk b0
  have B1 := Aside0.mk b1
  have B2 := Aside0.mk b2
  have B3 := Aside0.mk b3
  have BS := Aside0.mk bS
  clear b0 b1 b2 b3 bS
  go_wp2_with fail
  refine (lin_Implies.calls 200 _ _ [1, 0] 2 _ _ [1, 0] 9 true _ (Kd.C_below HCS.out (by repeat (first | exact Below.refl _ _ | refine below_alloc ?_ _))) HLS.out ?s5 (by decide) HI.out).mono ?_
  case s5 => exact C_ints2 (by repeat (first | exact blk_new (by simp; done) | exact blk_new rfl | refine blk_alloc ?_ _))
  rintro e w5 ⟨rfl, hb⟩
  have HCSn := Aside0.mk (Kd.C_below HCS.out (show Below w4.heap.size w4 w5 from below_step (by repeat (first | exact Below.refl _ _ | refine below_alloc ?_ _)) hb))
  clear HCS
  have HCS := HCSn
  clear HCSn
  have b0 : w5.heap[w.heap.size]? = some (.cells #[.int .i64 1, .int .i64 (-1)] 3 (0, 0)) := (hb.block _ (by first | (simp; done) | (simp; omega))).trans (by repeat (first | exact B0.out | exact blk_new rfl | refine blk_alloc ?_ _))
  have b1 : w5.heap[w.heap.size + 1]? = some (.cells #[.slice (some ⟨w.heap.size, 0, none⟩) 2 2, .int .i64 (-3)] 27 (0, 0)) := (hb.block _ (by first | (simp; done) | (simp; omega))).trans (by repeat (first | exact B1.out | exact blk_new rfl | refine blk_alloc ?_ _))
  have b2 : w5.heap[w.heap.size + 1 + 1]? = some (.cells #[.int .i64 0, .int .i64 1] 3 (0, 0)) := (hb.block _ (by first | (simp; done) | (simp; omega))).trans (by repeat (first | exact B2.out | exact blk_new rfl | refine blk_alloc ?_ _))
  have b3 : w5.heap[w.heap.size + 1 + 1 + 1]? = some (.cells #[.slice (some ⟨w.heap.size + 1 + 1, 0, none⟩) 2 2, .int .i64 5] 27 (0, 0)) := (hb.block _ (by first | (simp; done) | (simp; omega))).trans (by repeat (first | exact B3.out | exact blk_new rfl | refine blk_alloc ?_ _))
  have bS : w5.heap[w1.heap.size]? = some (.cells #[.slice As 2 cs, .int .i64 2] 27 (0, 0)) := (hb.block _ (by first | (simp; done) | (simp; omega))).trans (by repeat (first | exact BS.out | exact blk_new rfl | refine blk_alloc ?_ _))
  have HBn := Aside0.mk (show Below w.heap.size w w5 from below_step (by repeat (first | exact HB.out | exact Below.refl _ _ | refine below_alloc ?_ _)) hb)
  have zn : w4.heap.size < w5.heap.size := by have := hb.size; simp at this; omega
  have z05 : w.heap.size < w5.heap.size := by omega
  have z15 : w.heap.size + 1 < w5.heap.size := by omega
  have z25 : w.heap.size + 1 + 1 < w5.heap.size := by omega
  have z35 : w.heap.size + 1 + 1 + 1 < w5.heap.size := by omega
  have zS5 : w1.heap.size < w5.heap.size := by omega
  clear B0 B1 B2 B3 BS HB c10 c11 c30 c31 cs0 cs1
  have HB := HBn
  clear HBn hb
  have c10 : w5.cell? ⟨w.heap.size + 1, 0, none⟩ = some (.slice (some ⟨w.heap.size, 0, none⟩) 2 2) := (blk_cell b1 0).trans rfl
  have c11 : w5.cell? ⟨w.heap.size + 1, 1, none⟩ = some (.int .i64 (-3)) := (blk_cell b1 1).trans rfl
  have c30 : w5.cell? ⟨w.heap.size + 1 + 1 + 1, 0, none⟩ = some (.slice (some ⟨w.heap.size + 1 + 1, 0, none⟩) 2 2) := (blk_cell b3 0).trans rfl
  have c31 : w5.cell? ⟨w.heap.size + 1 + 1 + 1, 1, none⟩ = some (.int .i64 5) := (blk_cell b3 1).trans rfl
  have cs0 : w5.cell? ⟨w1.heap.size, 0, none⟩ = some (.slice As 2 cs) := (blk_cell bS 0).trans rfl
  have cs1 : w5.cell? ⟨w1.heap.size, 1, none⟩ = some (.int .i64 2) := (blk_cell bS 1).trans rfl
  have B0 := Aside0.mk b0
  have B1 := Aside0.mk b1
  have B2 := Aside0.mk b2
  have B3 := Aside0.mk b3
  have BS := Aside0.mk bS
  clear b0 b1 b2 b3 bS
  go_wp2_with fail
  refine (lin_Proves.calls 200 _ _ [⟨[1, -1], -3⟩, ⟨[0, 1], 5⟩] _ _ [1, 1] _ _ [1, 0] 2 true _ ?p1 (by decide) ?p2 (by decide) ?p3 (by decide) HP.out).mono ?_
  case p2 => exact C_ints2 (by repeat (first | exact blk_new (by simp; done) | exact blk_new rfl | refine blk_alloc ?_ _))
  case p3 => exact C_ints2 (by repeat (first | exact blk_new (by simp; done) | exact blk_new rfl | refine blk_alloc ?_ _))
  case p1 =>
    refine C_blk (d := k27) (t := 27) (cs := [.slice (some ⟨w.heap.size, 0, none⟩) 2 2, .int .i64 (-3)] ++ [.slice (some ⟨w.heap.size + 1 + 1, 0, none⟩) 2 2, .int .i64 5]) (xs := [⟨[1, -1], -3⟩, ⟨[0, 1], 5⟩]) (by repeat (first | exact blk_new (by simp; done) | exact blk_new rfl | refine blk_alloc ?_ _)) (by decide) (reps_two ?_ ?_ rfl rfl)
    · exact k27_mk _ ⟨[1, -1], -3⟩ (by decide) (C_ints2 (by repeat (first | exact B0.out | exact blk_new rfl | refine blk_alloc ?_ _)))
    · exact k27_mk _ ⟨[0, 1], 5⟩ (by decide) (C_ints2 (by repeat (first | exact B2.out | exact blk_new rfl | refine blk_alloc ?_ _)))
  rintro e w6 ⟨rfl, hb⟩
  have HBn := Aside0.mk (show Below w.heap.size w w6 from below_step (by repeat (first | exact HB.out | refine below_alloc ?_ _)) hb)
  clear hb
  go_wp2_with fail
  go_ret
  exact ⟨rfl, HBn.out⟩
theorem plimsolllaw14_awake.calls (k : Nat)  (r : Bool) (w : World) (h : plimsolllaw14_awake.f k  = some r) :
    Calls Try.prog 10 #[] w fun e w' => e = .returned (.bool r) ∧ Below w.heap.size w w' := by
  unfold plimsolllaw14_awake.f at h
  split at h
  · injection h with h; subst h; exact plimsolllaw14_awake.walk w
  · cases h

end Go.Proofs.Ythfkajolockcgaa.QLinAdds
