-- Written by a program of ours (tools/mkprint.py) over the kit's printing program, for the law LinAdds: some functions' texts are ours.
import Derived.Test.YthfkajolockcgaaQLinAddsx0
import Derived.Test.YthfkajolockcgaaQLinAddsx1
namespace Go.Proofs.Ythfkajolockcgaa.QLinAdds
open Go.RowKit Go.Proofs.YthfkajolockcgaaW.PrintWords Go.Proofs.YthfkajolockcgaaW.PrintLast Go.Proofs.YthfkajolockcgaaW.PrintMore
attribute [local go_sem] max2_int min2_int max_two min_two max_three min_three max_four min_four   -- for this text's walks alone
set_option linter.unusedVariables false
set_option linter.unusedSimpArgs false

/-! ### lin_Sum: function 11 -/
mutual
def lin_Sum.j0 : Nat → List (S27) → List Int → Int → Bool → Option (List Int × Int × Int)
  | 0, _, _, _, _ => none
  | k + 1, x0, x1, x2, x30 => if x30 = true then (some (([] : List Int), 0, 14)) else (if 0 ≤ x2 then (if (x2 : Int).toNat ≤ 17592186044416 then ((some (List.replicate (x2 : Int).toNat z49 : List (S49))).bind fun y118 => (lin_Sum.l0 k x0 x1 x2 y118 (y118.length : Int) 0)) else (none)) else (none))
def lin_Sum.l0 : Nat → List (S27) → List Int → Int → List (S49) → Int → Int → Option (List Int × Int × Int)
  | 0, _, _, _, _, _, _ => none
  | k + 1, x0, x1, x2, x8, x35, x36 => if x36 < x35 then ((lin_of.f 0).bind fun bt121 => (if 0 ≤ x36 then (if x36 < (x8.length : Int) then (lin_Sum.l0 k x0 x1 x2 (x8.set (x36 : Int).toNat (⟨bt121.1, bt121.2⟩ : S49)) x35 (wrap64 (x36 + 1))) else (none)) else (none))) else ((lin_of.f 0).bind fun bt124 => (lin_Sum.l1 k x1 x2 x8 x0 (x0.length : Int) 0 bt124.1 bt124.2))
def lin_Sum.l1 : Nat → List Int → Int → List (S49) → List (S27) → Int → Int → Int → Bool → Option (List Int × Int × Int)
  | 0, _, _, _, _, _, _, _, _ => none
  | k + 1, x1, x2, x8, x45, x46, x47, x127000, x127001 => if x47 < x46 then (if 0 ≤ x47 then (if x47 < (x45.length : Int) then (if x47 < (x1.length : Int) then (if (rd x1 x47) < 0 then (lin_Sum.j3 k x1 x2 x8 x47 x45 x46 x47 true x127000 x127001 ((rd_T27 x45 x47).f0) ((rd_T27 x45 x47).f1)) else (lin_Sum.j3 k x1 x2 x8 x47 x45 x46 x47 ((((rd_T27 x45 x47).f0).length : Int) != x2) x127000 x127001 ((rd_T27 x45 x47).f0) ((rd_T27 x45 x47).f1))) else (none)) else (none)) else (none)) else (if 0 ≤ x2 then (if (x2 : Int).toNat ≤ 35184372088832 then (lin_Sum.l3 k x8 (x8.length : Int) 0 x127000 x127001 (List.replicate (x2 : Int).toNat 0) x127000) else (none)) else (none))
def lin_Sum.j3 : Nat → List Int → Int → List (S49) → Int → List (S27) → Int → Int → Bool → Int → Bool → List Int → Int → Option (List Int × Int × Int)
  | 0, _, _, _, _, _, _, _, _, _, _, _, _ => none
  | k + 1, x1, x2, x8, x11, x45, x46, x47, x63, x127000, x127001, x129000, x129001 => if x63 = true then (some (([] : List Int), 0, 14)) else (lin_Sum.l2 k x1 x2 x8 x11 x45 x46 x47 x129000 (x129000.length : Int) 0 x127000 x127001 x129000 x129001)
def lin_Sum.l2 : Nat → List Int → Int → List (S49) → Int → List (S27) → Int → Int → List Int → Int → Int → Int → Bool → List Int → Int → Option (List Int × Int × Int)
  | 0, _, _, _, _, _, _, _, _, _, _, _, _, _, _ => none
  | k + 1, x1, x2, x8, x11, x45, x46, x47, x66, x67, x68, x127000, x127001, x129000, x129001 => if x68 < x67 then (if 0 ≤ x68 then (if x68 < (x66.length : Int) then (if x68 < (x8.length : Int) then ((lin_of.f (rd x66 x68)).bind fun bt132 => (if 0 ≤ x11 then (if x11 < (x1.length : Int) then ((lin_of.f (rd x1 x11)).bind fun bt135 => ((lin_sure_times.f k bt132.1 bt132.2 bt135.1 bt135.2).bind fun bt137 => ((lin_sure_plus.f ((rd_T49 x8 x68).f0) ((rd_T49 x8 x68).f1) bt137.1 bt137.2).bind fun bt139 => (lin_Sum.l2 k x1 x2 (x8.set (x68 : Int).toNat (⟨bt139.1, bt139.2⟩ : S49)) x11 x45 x46 x47 x66 x67 (wrap64 (x68 + 1)) x127000 x127001 x129000 x129001)))) else (none)) else (none))) else (none)) else (none)) else (none)) else ((lin_of.f x129001).bind fun bt142 => (if 0 ≤ x11 then (if x11 < (x1.length : Int) then ((lin_of.f (rd x1 x11)).bind fun bt145 => ((lin_sure_times.f k bt142.1 bt142.2 bt145.1 bt145.2).bind fun bt147 => ((lin_sure_plus.f x127000 x127001 bt147.1 bt147.2).bind fun bt149 => (lin_Sum.l1 k x1 x2 x8 x45 x46 (wrap64 (x47 + 1)) bt149.1 bt149.2)))) else (none)) else (none)))
def lin_Sum.l3 : Nat → List (S49) → Int → Int → Int → Bool → List Int → Int → Option (List Int × Int × Int)
  | 0, _, _, _, _, _, _, _ => none
  | k + 1, x107, x108, x109, x127000, x127001, x155000, x155001 => if x109 < x108 then (if 0 ≤ x109 then (if x109 < (x107.length : Int) then (if ((rd_T49 x107 x109).f1 = true) then (if x109 < (x155000.length : Int) then (lin_Sum.l3 k x107 x108 (wrap64 (x109 + 1)) x127000 x127001 (x155000.set (x109 : Int).toNat ((rd_T49 x107 x109).f0)) x155001) else (none)) else (some (([] : List Int), 0, 14))) else (none)) else (none)) else (if x127001 = true then (some (x155000, x155001, 0)) else (some (([] : List Int), 0, 14)))
end
def lin_Sum.f (k : Nat) (l0 : List (S27)) (l1 : List Int) (a2 : Int) : Option (List Int × Int × Int) := if (l0.length : Int) = (l1.length : Int) then (if a2 < 0 then (lin_Sum.j0 k l0 l1 a2 true) else (lin_Sum.j0 k l0 l1 a2 (decide (a2 > 64)))) else (lin_Sum.j0 k l0 l1 a2 true)
theorem lin_Sum.mono_l : ∀ k, (∀ y0 y1 y2 y3, LeO (lin_Sum.j0 k y0 y1 y2 y3) (lin_Sum.j0 (k + 1) y0 y1 y2 y3)) ∧ (∀ y0 y1 y2 y3 y4 y5, LeO (lin_Sum.l0 k y0 y1 y2 y3 y4 y5) (lin_Sum.l0 (k + 1) y0 y1 y2 y3 y4 y5)) ∧ (∀ y0 y1 y2 y3 y4 y5 y6 y7, LeO (lin_Sum.l1 k y0 y1 y2 y3 y4 y5 y6 y7) (lin_Sum.l1 (k + 1) y0 y1 y2 y3 y4 y5 y6 y7)) ∧ (∀ y0 y1 y2 y3 y4 y5 y6 y7 y8 y9 y10 y11, LeO (lin_Sum.j3 k y0 y1 y2 y3 y4 y5 y6 y7 y8 y9 y10 y11) (lin_Sum.j3 (k + 1) y0 y1 y2 y3 y4 y5 y6 y7 y8 y9 y10 y11)) ∧ (∀ y0 y1 y2 y3 y4 y5 y6 y7 y8 y9 y10 y11 y12 y13, LeO (lin_Sum.l2 k y0 y1 y2 y3 y4 y5 y6 y7 y8 y9 y10 y11 y12 y13) (lin_Sum.l2 (k + 1) y0 y1 y2 y3 y4 y5 y6 y7 y8 y9 y10 y11 y12 y13)) ∧ (∀ y0 y1 y2 y3 y4 y5 y6, LeO (lin_Sum.l3 k y0 y1 y2 y3 y4 y5 y6) (lin_Sum.l3 (k + 1) y0 y1 y2 y3 y4 y5 y6))
  | 0 => ⟨fun _ _ _ _ r h => by simp [lin_Sum.j0] at h, fun _ _ _ _ _ _ r h => by simp [lin_Sum.l0] at h, fun _ _ _ _ _ _ _ _ r h => by simp [lin_Sum.l1] at h, fun _ _ _ _ _ _ _ _ _ _ _ _ r h => by simp [lin_Sum.j3] at h, fun _ _ _ _ _ _ _ _ _ _ _ _ _ _ r h => by simp [lin_Sum.l2] at h, fun _ _ _ _ _ _ _ r h => by simp [lin_Sum.l3] at h⟩
  | k + 1 => by
    obtain ⟨ih0, ih1, ih2, ih3, ih4, ih5⟩ := lin_Sum.mono_l k
    refine ⟨?_, ?_, ?_, ?_, ?_, ?_⟩
    · intro y0 y1 y2 y3
      unfold lin_Sum.j0
      repeat' first
      | (with_reducible exact ih0 _ _ _ _)
      | (with_reducible exact ih1 _ _ _ _ _ _)
      | (with_reducible exact ih2 _ _ _ _ _ _ _ _)
      | (with_reducible exact ih3 _ _ _ _ _ _ _ _ _ _ _ _)
      | (with_reducible exact ih4 _ _ _ _ _ _ _ _ _ _ _ _ _ _)
      | (with_reducible exact ih5 _ _ _ _ _ _ _)
      | (with_reducible exact lin_sure_times.mono _ _ _ _ _)
      | (with_reducible exact LeO.refl _)
      | (with_reducible exact LeO.none _)
      | (with_reducible refine LeO.ite ?_ ?_)
      | (with_reducible refine LeO.bind ?_ (fun _ => ?_))
      | exact ih0 _ _ _ _
      | exact ih1 _ _ _ _ _ _
      | exact ih2 _ _ _ _ _ _ _ _
      | exact ih3 _ _ _ _ _ _ _ _ _ _ _ _
      | exact ih4 _ _ _ _ _ _ _ _ _ _ _ _ _ _
      | exact ih5 _ _ _ _ _ _ _
      | exact lin_sure_times.mono _ _ _ _ _
      | exact LeO.none _
      | refine LeO.ite ?_ ?_
      | refine LeO.bind ?_ (fun _ => ?_)
    · intro y0 y1 y2 y3 y4 y5
      unfold lin_Sum.l0
      repeat' first
      | (with_reducible exact ih0 _ _ _ _)
      | (with_reducible exact ih1 _ _ _ _ _ _)
      | (with_reducible exact ih2 _ _ _ _ _ _ _ _)
      | (with_reducible exact ih3 _ _ _ _ _ _ _ _ _ _ _ _)
      | (with_reducible exact ih4 _ _ _ _ _ _ _ _ _ _ _ _ _ _)
      | (with_reducible exact ih5 _ _ _ _ _ _ _)
      | (with_reducible exact lin_sure_times.mono _ _ _ _ _)
      | (with_reducible exact LeO.refl _)
      | (with_reducible exact LeO.none _)
      | (with_reducible refine LeO.ite ?_ ?_)
      | (with_reducible refine LeO.bind ?_ (fun _ => ?_))
      | exact ih0 _ _ _ _
      | exact ih1 _ _ _ _ _ _
      | exact ih2 _ _ _ _ _ _ _ _
      | exact ih3 _ _ _ _ _ _ _ _ _ _ _ _
      | exact ih4 _ _ _ _ _ _ _ _ _ _ _ _ _ _
      | exact ih5 _ _ _ _ _ _ _
      | exact lin_sure_times.mono _ _ _ _ _
      | exact LeO.none _
      | refine LeO.ite ?_ ?_
      | refine LeO.bind ?_ (fun _ => ?_)
    · intro y0 y1 y2 y3 y4 y5 y6 y7
      unfold lin_Sum.l1
      repeat' first
      | (with_reducible exact ih0 _ _ _ _)
      | (with_reducible exact ih1 _ _ _ _ _ _)
      | (with_reducible exact ih2 _ _ _ _ _ _ _ _)
      | (with_reducible exact ih3 _ _ _ _ _ _ _ _ _ _ _ _)
      | (with_reducible exact ih4 _ _ _ _ _ _ _ _ _ _ _ _ _ _)
      | (with_reducible exact ih5 _ _ _ _ _ _ _)
      | (with_reducible exact lin_sure_times.mono _ _ _ _ _)
      | (with_reducible exact LeO.refl _)
      | (with_reducible exact LeO.none _)
      | (with_reducible refine LeO.ite ?_ ?_)
      | (with_reducible refine LeO.bind ?_ (fun _ => ?_))
      | exact ih0 _ _ _ _
      | exact ih1 _ _ _ _ _ _
      | exact ih2 _ _ _ _ _ _ _ _
      | exact ih3 _ _ _ _ _ _ _ _ _ _ _ _
      | exact ih4 _ _ _ _ _ _ _ _ _ _ _ _ _ _
      | exact ih5 _ _ _ _ _ _ _
      | exact lin_sure_times.mono _ _ _ _ _
      | exact LeO.none _
      | refine LeO.ite ?_ ?_
      | refine LeO.bind ?_ (fun _ => ?_)
    · intro y0 y1 y2 y3 y4 y5 y6 y7 y8 y9 y10 y11
      unfold lin_Sum.j3
      repeat' first
      | (with_reducible exact ih0 _ _ _ _)
      | (with_reducible exact ih1 _ _ _ _ _ _)
      | (with_reducible exact ih2 _ _ _ _ _ _ _ _)
      | (with_reducible exact ih3 _ _ _ _ _ _ _ _ _ _ _ _)
      | (with_reducible exact ih4 _ _ _ _ _ _ _ _ _ _ _ _ _ _)
      | (with_reducible exact ih5 _ _ _ _ _ _ _)
      | (with_reducible exact lin_sure_times.mono _ _ _ _ _)
      | (with_reducible exact LeO.refl _)
      | (with_reducible exact LeO.none _)
      | (with_reducible refine LeO.ite ?_ ?_)
      | (with_reducible refine LeO.bind ?_ (fun _ => ?_))
      | exact ih0 _ _ _ _
      | exact ih1 _ _ _ _ _ _
      | exact ih2 _ _ _ _ _ _ _ _
      | exact ih3 _ _ _ _ _ _ _ _ _ _ _ _
      | exact ih4 _ _ _ _ _ _ _ _ _ _ _ _ _ _
      | exact ih5 _ _ _ _ _ _ _
      | exact lin_sure_times.mono _ _ _ _ _
      | exact LeO.none _
      | refine LeO.ite ?_ ?_
      | refine LeO.bind ?_ (fun _ => ?_)
    · intro y0 y1 y2 y3 y4 y5 y6 y7 y8 y9 y10 y11 y12 y13
      unfold lin_Sum.l2
      repeat' first
      | (with_reducible exact ih0 _ _ _ _)
      | (with_reducible exact ih1 _ _ _ _ _ _)
      | (with_reducible exact ih2 _ _ _ _ _ _ _ _)
      | (with_reducible exact ih3 _ _ _ _ _ _ _ _ _ _ _ _)
      | (with_reducible exact ih4 _ _ _ _ _ _ _ _ _ _ _ _ _ _)
      | (with_reducible exact ih5 _ _ _ _ _ _ _)
      | (with_reducible exact lin_sure_times.mono _ _ _ _ _)
      | (with_reducible exact LeO.refl _)
      | (with_reducible exact LeO.none _)
      | (with_reducible refine LeO.ite ?_ ?_)
      | (with_reducible refine LeO.bind ?_ (fun _ => ?_))
      | exact ih0 _ _ _ _
      | exact ih1 _ _ _ _ _ _
      | exact ih2 _ _ _ _ _ _ _ _
      | exact ih3 _ _ _ _ _ _ _ _ _ _ _ _
      | exact ih4 _ _ _ _ _ _ _ _ _ _ _ _ _ _
      | exact ih5 _ _ _ _ _ _ _
      | exact lin_sure_times.mono _ _ _ _ _
      | exact LeO.none _
      | refine LeO.ite ?_ ?_
      | refine LeO.bind ?_ (fun _ => ?_)
    · intro y0 y1 y2 y3 y4 y5 y6
      unfold lin_Sum.l3
      repeat' first
      | (with_reducible exact ih0 _ _ _ _)
      | (with_reducible exact ih1 _ _ _ _ _ _)
      | (with_reducible exact ih2 _ _ _ _ _ _ _ _)
      | (with_reducible exact ih3 _ _ _ _ _ _ _ _ _ _ _ _)
      | (with_reducible exact ih4 _ _ _ _ _ _ _ _ _ _ _ _ _ _)
      | (with_reducible exact ih5 _ _ _ _ _ _ _)
      | (with_reducible exact lin_sure_times.mono _ _ _ _ _)
      | (with_reducible exact LeO.refl _)
      | (with_reducible exact LeO.none _)
      | (with_reducible refine LeO.ite ?_ ?_)
      | (with_reducible refine LeO.bind ?_ (fun _ => ?_))
      | exact ih0 _ _ _ _
      | exact ih1 _ _ _ _ _ _
      | exact ih2 _ _ _ _ _ _ _ _
      | exact ih3 _ _ _ _ _ _ _ _ _ _ _ _
      | exact ih4 _ _ _ _ _ _ _ _ _ _ _ _ _ _
      | exact ih5 _ _ _ _ _ _ _
      | exact lin_sure_times.mono _ _ _ _ _
      | exact LeO.none _
      | refine LeO.ite ?_ ?_
      | refine LeO.bind ?_ (fun _ => ?_)
theorem lin_Sum.mono : ∀ a0 a1 a2 k, LeO (lin_Sum.f k a0 a1 a2) (lin_Sum.f (k + 1) a0 a1 a2) := by
  intro a0 a1 a2 k
  obtain ⟨ih0, ih1, ih2, ih3, ih4, ih5⟩ := lin_Sum.mono_l k
  unfold lin_Sum.f
  repeat' first
      | (with_reducible exact ih0 _ _ _ _)
      | (with_reducible exact ih1 _ _ _ _ _ _)
      | (with_reducible exact ih2 _ _ _ _ _ _ _ _)
      | (with_reducible exact ih3 _ _ _ _ _ _ _ _ _ _ _ _)
      | (with_reducible exact ih4 _ _ _ _ _ _ _ _ _ _ _ _ _ _)
      | (with_reducible exact ih5 _ _ _ _ _ _ _)
      | (with_reducible exact lin_sure_times.mono _ _ _ _ _)
      | (with_reducible exact LeO.refl _)
      | (with_reducible exact LeO.none _)
      | (with_reducible refine LeO.ite ?_ ?_)
      | (with_reducible refine LeO.bind ?_ (fun _ => ?_))
      | exact ih0 _ _ _ _
      | exact ih1 _ _ _ _ _ _
      | exact ih2 _ _ _ _ _ _ _ _
      | exact ih3 _ _ _ _ _ _ _ _ _ _ _ _
      | exact ih4 _ _ _ _ _ _ _ _ _ _ _ _ _ _
      | exact ih5 _ _ _ _ _ _ _
      | exact lin_sure_times.mono _ _ _ _ _
      | exact LeO.none _
      | refine LeO.ite ?_ ?_
      | refine LeO.bind ?_ (fun _ => ?_)
def lin_Sum.T18 : Bool × List (List Nat × List Nat) := (true, [([], []), ([], []), ([], []), ([], []), ([2, 3], [2, 3]), ([4], [4]), ([], []), ([6], [6]), ([], []), ([], []), ([8, 9], [8, 9]), ([10], [10]), ([11, 7], [11]), ([7, 12, 12], [7, 12]), ([5, 13, 13], [5, 13]), ([0, 1, 0, 1, 2, 3, 4, 5, 6, 7, 8, 9, 10, 11, 12, 13, 14], [0, 1]), ([15, 14, 14, 0, 1, 2, 3, 4, 5, 6, 7, 8, 9, 10, 11, 12, 13, 14], [14, 15])])
def lin_Sum.B18 : List Nat := [0, 0, 0, 0, 12, 28, 0, 64, 0, 0, 768, 1792, 4032, 8128, 16380, 32767, 65535]
theorem lin_Sum.tab18 : rtab .any (opsOf Try.f11 18) = lin_Sum.T18 := by kernel_rfl
theorem lin_Sum.bits18 : waitsOk lin_Sum.T18.2 lin_Sum.B18 = true := by kernel_rfl
def lin_Sum.T20 : Bool × List (List Nat × List Nat) := (true, [([], []), ([], []), ([1], [1]), ([2], [2]), ([], []), ([], []), ([4, 5], [4, 5]), ([6], [6]), ([7, 3], [7]), ([3, 8, 8], [3, 8]), ([0, 9, 9], [0, 9]), ([10, 10, 0, 1, 2, 3, 4, 5, 6, 7, 8, 9, 10], [10])])
def lin_Sum.B20 : List Nat := [0, 0, 2, 6, 0, 0, 48, 112, 254, 510, 1023, 2047]
theorem lin_Sum.tab20 : rtab .any (opsOf Try.f11 20) = lin_Sum.T20 := by kernel_rfl
theorem lin_Sum.bits20 : waitsOk lin_Sum.T20.2 lin_Sum.B20 = true := by kernel_rfl
set_option maxHeartbeats 8000000 in
set_option maxRecDepth 100000 in
theorem lin_Sum.calls (k : Nat) (A0 : Option Addr) (c0 : Nat) (l0 : List (S27)) (A1 : Option Addr) (c1 : Nat) (l1 : List Int) (a2 : Int) (r1 : List Int) (r2 : Int) (r3 : Int) (w : World) (hr0 : Kd.C k27 w A0 l0.length l0) (hc0 : l0.length ≤ c0) (hr1 : Kd.C (Kd.int .i64) w A1 l1.length l1) (hc1 : l1.length ≤ c1) (h : lin_Sum.f k l0 l1 a2 = some (r1, r2, r3)) :
    Calls Try.prog 11 #[.slice A0 l0.length c0, .slice A1 l1.length c1, .int .i64 a2] w fun e w' => ∃ v0_ : Value, e = .returned (.tuple #[.agg #[v0_, .int .i64 r2], .int .i64 r3]) ∧ Kd.R (Kd.int .i64) 3 w' w.heap.size (fun _ => True) v0_ r1 ∧ Below w.heap.size w w' := by
  have hu27 := Try.underlying27
  have hu49 := Try.underlying49
  have HR0 := Aside0.mk hr0
  have HC0 := Aside0.mk hc0
  clear hr0 hc0
  have HR1 := Aside0.mk hr1
  have HC1 := Aside0.mk hc1
  clear hr1 hc1
  have HB := Aside0.mk (Below.refl w.heap.size w)
  have H : (if (l0.length : Int) = (l1.length : Int) then (if a2 < 0 then (lin_Sum.j0 k l0 l1 a2 true) else (lin_Sum.j0 k l0 l1 a2 (decide (a2 > 64)))) else (lin_Sum.j0 k l0 l1 a2 true)) = some (r1, r2, r3) := h
  clear h
  have HC4 := Aside0.mk H
  clear H
  go_enter Try.func11, Try.ntmps11
  go_upto_region 1 with (first | ((with_reducible refine gate_dst (N := 6) rfl ?_); (try (refine gate_guard (by rfl) ?_; dsimp only)); refine box_event ?hg (N := 6) ?hd (cs := #[.slice none 0 0, .int .i64 0]) (t := 27) ?hr ?_; (case hd => rfl); (case hg => rfl); (case hr => first | (go_simp; done) | (go_simp; rfl)); intro gb117 hg w5 hbox hb; have n0_ := Aside0.mk (below_step (by repeat (first | (with_reducible first | exact HB.out | apply below_alloc | apply pw_below_drewN | apply below_drew1) | exact HB.out)) hb); have n1_ := Aside0.mk (hbox); have n2_ := Aside0.mk ((by rw [hg]; exact (below_size (by repeat (first | (with_reducible first | exact HB.out | apply below_alloc | apply pw_below_drewN | apply below_drew1) | exact HB.out))) : w.heap.size ≤ gb117)); have n3_ := Aside0.mk ((by rw [hg]; exact (below_size (by repeat (first | (with_reducible first | exact HB.out | apply below_alloc | apply pw_below_drewN | apply below_drew1) | exact HB.out))) : w.heap.size ≤ gb117)); clear HB; have HB := n0_; have BK117 := n1_; have GW117 := n2_; have GE117 := n3_; clear n0_ n1_ n2_ n3_; clear hb hbox hg))
  (try simp only [Act.put, List.setIfInBounds_toArray, List.set_cons_zero, List.set_cons_succ])
  go_cut [30] (fun v30 wc => ∃ (kq : Nat) (x30_3 : Bool), v30 = .bool x30_3 ∧ Aside0 (lin_Sum.j0 kq l0 l1 a2 x30_3 = some (r1, r2, r3)) ∧ Aside0 (kq ≤ k) ∧ Aside0 (wc.heap[gb117]? = some (.cells #[(.slice none 0 0), .int .i64 0] 27 (0, 0))) ∧ Aside0 (Below w.heap.size w wc))
  case first =>
    have H := HC4.out
    clear HC4
    by_cases c6 : (l0.length : Int) = (l1.length : Int)
    · rw [if_pos c6] at H
      have c6b0 : ((l0.length : Int) == (l1.length : Int)) = true := beq_iff_eq.mpr c6
      have c6b1 : ((l0.length : Int) != (l1.length : Int)) = false := bne_eq_false_iff_eq.mpr c6
      have c6b2 : (l0.length == l1.length) = true := by first | simpa using c6 | (simp at c6 ⊢; omega)
      clear c6
      (first | rw [c6b0] | (simp only [i64_w, i32_w]; rw [c6b0]) | skip)
      by_cases c7 : a2 < 0
      · rw [if_pos c7] at H
        have c7b0 : decide (a2 < 0) = true := decide_eq_true c7
        clear c7
        have H' := Aside0.mk H
        clear H
        go_wp2
        go_meet
        case rel => exact ⟨_, (true), (by first | rfl | (simp; done) | (simp [*]; done)), H', ⟨by first | omega | exact Nat.le_refl _⟩, ⟨by (with_reducible repeat (first | refine blk_drewN ?_ _ | refine blk_drew ?_ | refine blk_alloc ?_ _)); exact BK117.out⟩, ⟨by repeat (first | (with_reducible first | exact HB.out | apply below_alloc | apply pw_below_drewN | apply below_drew1 | refine below_set ?_ GE117.out) | exact HB.out)⟩⟩
      · rw [if_neg c7] at H
        have c7b0 : decide (a2 < 0) = false := decide_eq_false c7
        clear c7
        have H' := Aside0.mk H
        clear H
        go_wp2
        go_meet
        case rel => exact ⟨_, (decide (a2 > 64)), (by first | rfl | (simp; done) | (simp [*]; done)), H', ⟨by first | omega | exact Nat.le_refl _⟩, ⟨by (with_reducible repeat (first | refine blk_drewN ?_ _ | refine blk_drew ?_ | refine blk_alloc ?_ _)); exact BK117.out⟩, ⟨by repeat (first | (with_reducible first | exact HB.out | apply below_alloc | apply pw_below_drewN | apply below_drew1 | refine below_set ?_ GE117.out) | exact HB.out)⟩⟩
    · rw [if_neg c6] at H
      have c6b0 : ((l0.length : Int) == (l1.length : Int)) = false := beq_eq_false_iff_ne.mpr c6
      have c6b1 : ((l0.length : Int) != (l1.length : Int)) = true := bne_iff_ne.mpr c6
      have c6b2 : (l0.length == l1.length) = false := by first | simpa using c6 | (simp at c6 ⊢; omega)
      (first | rw [c6b0] | (simp only [i64_w, i32_w]; rw [c6b0]) | skip)
      have H' := Aside0.mk H
      clear H
      go_wp2
      go_meet
      case rel => exact ⟨_, (true), (by first | rfl | (simp; done) | (simp [*]; done)), H', ⟨by first | omega | exact Nat.le_refl _⟩, ⟨by (with_reducible repeat (first | refine blk_drewN ?_ _ | refine blk_drew ?_ | refine blk_alloc ?_ _)); exact BK117.out⟩, ⟨by repeat (first | (with_reducible first | exact HB.out | apply below_alloc | apply pw_below_drewN | apply below_drew1 | refine below_set ?_ GE117.out) | exact HB.out)⟩⟩
  case rest =>
    clear HC4
    try clear c1
    try clear p2
    try clear c6
    try clear c6b0
    try clear c6b1
    try clear c6b2
    try clear c7
    try clear c7b0
    obtain ⟨kq, x30_3, rfl, HA, HJ3, BK117, HB⟩ := hcut
    cases kq with
    | zero => exact absurd HA.out (by simp [lin_Sum.j0])
    | succ kj3 =>
      have H := HA.out
      clear HA
      simp only [lin_Sum.j0] at H
      by_cases c8 : x30_3 = true
      · subst c8
        have H1 : (some (([] : List Int), 0, 14)) = some (r1, r2, r3) := by rw [if_pos rfl] at H; exact H
        clear H
        have H := H1
        clear H1
        simp only [Option.some.injEq, Prod.mk.injEq] at H
        obtain ⟨rfl, rfl, rfl⟩ := H
        have hcz9_0 : wc.cell? ⟨gb117, 0, none⟩ = some (.slice none 0 0) := (blk_cell BK117.out 0).trans rfl
        have hcz9_1 : wc.cell? ⟨gb117, 1, none⟩ = some (.int .i64 0) := (blk_cell BK117.out 1).trans rfl
        have hfz9_0 := blk_frozen BK117.out 0
        have hfz9_1 := blk_frozen BK117.out 1
        go_wp2
        refine bodyPost_ret (results_ct rfl _ _ gb117 27 #[.slice none 0 0, .int .i64 0] (0, 0) _ rfl (by (with_reducible repeat (first | refine blk_drewN ?_ _ | refine blk_drew ?_ | refine blk_alloc ?_ _)); refine blk_put (cs := #[.slice none 0 0, .int .i64 0]) ?_ 1 _ rfl; (with_reducible repeat (first | refine blk_drewN ?_ _ | refine blk_drew ?_ | refine blk_alloc ?_ _)); refine blk_put (cs := #[.slice none 0 0, .int .i64 0]) ?_ 0 _ rfl; (with_reducible repeat (first | refine blk_drewN ?_ _ | refine blk_drew ?_ | refine blk_alloc ?_ _)); exact BK117.out) Try.underlying27 rfl (by kernel_rfl)) rfl ?_
        exact ⟨_, by first | rfl | (simp [errW_none, errW_some] <;> rfl) | (simp [*, errW_none, errW_some] <;> rfl), by first | exact Kd.R_nil _ _ _ _ _ | exact Kd.N_nil _ _ _ _ _ | exact Kd.V_nil _ _ _ _ _ | exact Kd.Q_nil _ _ _ _ _ | exact Kd.S_nil _ _ _ _ _, by repeat (first | (with_reducible first | exact HB.out | apply below_alloc | apply pw_below_drewN | apply below_drew1 | refine below_set ?_ GE117.out) | exact HB.out)⟩
      · replace c8 := Bool.eq_false_iff.mpr c8
        subst c8
        have H1 : (if 0 ≤ a2 then (if (a2 : Int).toNat ≤ 17592186044416 then ((some (List.replicate (a2 : Int).toNat z49 : List (S49))).bind fun y118 => (lin_Sum.l0 kj3 l0 l1 a2 y118 (y118.length : Int) 0)) else (none)) else (none)) = some (r1, r2, r3) := by rw [if_neg (show ¬ (false = true) by decide)] at H; exact H
        clear H
        have H := H1
        clear H1
        by_cases c10 : 0 ≤ a2
        · rw [if_pos c10] at H
          have c10b0 := eq_true c10
          have c10b1 : decide (0 ≤ a2) = true := decide_eq_true c10
          clear c10
          by_cases c11 : (a2 : Int).toNat ≤ 17592186044416
          · rw [if_pos c11] at H
            have c11b0 := eq_true c11
            have c11b1 : decide ((a2 : Int).toNat ≤ 17592186044416) = true := decide_eq_true c11
            clear c11
            obtain ⟨y118, hy118⟩ : ∃ y_ : List (S49), y_ = (List.replicate (a2 : Int).toNat z49) := ⟨_, rfl⟩
            replace H : (lin_Sum.l0 kj3 l0 l1 a2 y118 (y118.length : Int) 0) = some (r1, r2, r3) := by first | (rw [hy118]; with_reducible exact H) | (have H2_ := (Option.bind_some _ _).symm.trans H; rw [hy118]; with_reducible exact H2_) | (have H2_ := (Option.bind_some _ _).symm.trans H; with_reducible exact H2_) | with_reducible exact H | (rw [hy118]; exact H) | exact H
            have Ny118 := Aside0.mk hy118
            clear hy118
            have H' := Aside0.mk H
            clear H
            go_wp2_with (first | ((with_reducible refine gate_dst (N := 33) rfl ?_); (try (refine gate_guard (by rfl) ?_; dsimp only)); refine Kd.R_make k49 _ 49 rfl (N := 33) rfl 47 _ _ rfl a2 rfl rfl Try.underlying47 (.agg #[(.int .i64 0), (.bool false)]) 16 info49 rfl (by decide) (by omega) z49 (ok := fun _ => True) (okp := fun _ => True) (k49_mkM _ _ _ z49 ) (fun _ hk => hk) trivial (of_decide_eq_true (by first | (with_reducible assumption) | assumption)) (Nat.le_trans (Nat.mul_le_mul_right _ (of_decide_eq_true (by first | (with_reducible assumption) | assumption) : a2.toNat ≤ 17592186044416)) (by omega)) (Below.refl _ _) (Nat.le_refl _) ?_; intro v119 w12 ho13 hb hg_ hnew_; clear hg_ hnew_; (first | rw [← Ny118.out] at ho13 | (simp only [Int.reduceToNat] at ho13; rw [← Ny118.out] at ho13)); have n0_ := Aside0.mk (Kd.R_lower ho13 (below_size (by repeat (first | (with_reducible first | exact HB.out | apply below_alloc | apply pw_below_drewN | apply below_drew1 | refine below_set ?_ GE117.out) | exact HB.out)))); have n1_ := Aside0.mk (blk_below (g := gb117) (o := .cells #[.slice none 0 0, .int .i64 0] 27 (0, 0)) (by (with_reducible repeat (first | refine blk_drewN ?_ _ | refine blk_drew ?_ | refine blk_alloc ?_ _)); exact BK117.out) hb); have n2_ := Aside0.mk (below_step (by repeat (first | (with_reducible first | exact HB.out | apply below_alloc | apply pw_below_drewN | apply below_drew1 | refine below_set ?_ GE117.out) | exact HB.out)) hb); clear BK117; clear HB; have HO120 := n0_; have BK117 := n1_; have HB := n2_; clear n0_ n1_ n2_; clear hb ho13; obtain ⟨Ao14, co14, eo14⟩ := Kd.R_slice HO120.out; subst eo14))
            go_loopg [36] kj3 (fun kq v36 w' => ∃ (x8_2 : List (S49)) (x36_2 : Int), v36 = .int .i64 x36_2 ∧ Aside0 (lin_Sum.l0 kq l0 l1 a2 x8_2 (y118.length : Int) x36_2 = some (r1, r2, r3)) ∧ Aside0 (kq ≤ kj3) ∧ Aside0 (Kd.R k49 49 w' w.heap.size (fun _ => True) (.slice Ao14 y118.length co14) x8_2) ∧ Aside0 (w'.heap[gb117]? = some (.cells #[(.slice none 0 0), .int .i64 0] 27 (0, 0))) ∧ Aside0 (Below w.heap.size w w'))
            case atStart => exact ⟨(y118), (0), (by first | rfl | (simp; done) | (simp [*]; done)), H', ⟨Nat.le_refl _⟩, ⟨by (with_reducible repeat (first | apply Kd.R_alloc | apply Kd.R_drewN | apply Kd.R_drew)); exact HO120.out⟩, ⟨by (with_reducible repeat (first | refine blk_drewN ?_ _ | refine blk_drew ?_ | refine blk_alloc ?_ _)); exact BK117.out⟩, ⟨by repeat (first | (with_reducible first | exact HB.out | apply below_alloc | apply pw_below_drewN | apply below_drew1 | refine below_set ?_ GE117.out) | exact HB.out)⟩⟩
            case round =>
              clear H'
              try clear c1
              try clear p2
              try clear c6
              try clear c6b0
              try clear c6b1
              try clear c6b2
              try clear c7
              try clear c7b0
              try clear c8
              try clear c10
              try clear c10b0
              try clear c10b1
              try clear c11
              try clear c11b0
              try clear c11b1
              try clear hcz9_0
              try clear hcz9_1
              try clear hfz9_0
              try clear hfz9_1
              try clear p2
              obtain ⟨x8_2, x36_2, rfl, HA, HK2, HO_8, BK117, HB⟩ := hrel
              have hl8_2 := (Kd.R_reads' HO_8.out).1
              rw [hl8_2] at HO_8
              (try simp only [hl8_2])
              (try simp only [hl8_2] at BK117)
              cases gk with
              | zero => exact absurd HA.out (by simp [lin_Sum.l0])
              | succ k2 =>
                have H := HA.out
                clear HA
                simp only [lin_Sum.l0] at H
                by_cases c15 : x36_2 < (y118.length : Int)
                · rw [if_pos c15] at H
                  have c15b0 : decide (x36_2 < (y118.length : Int)) = true := decide_eq_true c15
                  clear c15
                  replace H := Option.bind_eq_some_iff.mp H
                  obtain ⟨⟨t121, t122⟩, A160, H⟩ := H
                  replace H : (if 0 ≤ x36_2 then (if x36_2 < (x8_2.length : Int) then (lin_Sum.l0 k2 l0 l1 a2 (x8_2.set (x36_2 : Int).toNat (⟨t121, t122⟩ : S49)) (y118.length : Int) (wrap64 (x36_2 + 1))) else (none)) else (none)) = some (r1, r2, r3) := H
                  have A16 := Aside0.mk A160
                  clear A160
                  by_cases c17 : 0 ≤ x36_2
                  · rw [if_pos c17] at H
                    have c17b0 : decide (0 ≤ x36_2) = true := decide_eq_true c17
                    clear c17
                    by_cases c18 : x36_2 < (x8_2.length : Int)
                    · rw [if_pos c18] at H
                      have c18b0 : decide (x36_2 < (x8_2.length : Int)) = true := decide_eq_true c18
                      clear c18
                      obtain ⟨y123, hy123⟩ : ∃ y_ : List (S49), y_ = (x8_2.set (x36_2 : Int).toNat (⟨t121, t122⟩ : S49)) := ⟨_, rfl⟩
                      replace H : (lin_Sum.l0 k2 l0 l1 a2 y123 (y118.length : Int) (wrap64 (x36_2 + 1))) = some (r1, r2, r3) := by first | (rw [hy123]; with_reducible exact H) | (have H2_ := (Option.bind_some _ _).symm.trans H; rw [hy123]; with_reducible exact H2_) | (have H2_ := (Option.bind_some _ _).symm.trans H; with_reducible exact H2_) | with_reducible exact H | (rw [hy123]; exact H) | exact H
                      have Ny123 := Aside0.mk hy123
                      clear hy123
                      have H' := Aside0.mk H
                      clear H
                      go_wp2_with (first | ((with_reducible refine gate_callee (f := 18) rfl ?_); refine goesL_ (some 41) rfl rfl Try.func18 (by kernel_rfl) rfl #[.int .i64 0] rfl (by (try simp only [List.map_toArray, List.map_cons, List.map_nil]); first | done | rfl | (simp only [List.length_drop, List.length_take]; rfl)) ?_; (with_reducible refine (lin_of.calls 0 t121 t122 _ A16.out).mono ?_); rintro e w20 ⟨rfl, hb⟩; refine ⟨_, rfl, ?_⟩; have n0_ := Aside0.mk (Kd.R_below (by (with_reducible repeat (first | apply Kd.R_alloc | apply Kd.R_drewN | apply Kd.R_drew)); exact HO_8.out) hb); have n1_ := Aside0.mk (blk_below (g := gb117) (o := .cells #[.slice none 0 0, .int .i64 0] 27 (0, 0)) (by (with_reducible repeat (first | refine blk_drewN ?_ _ | refine blk_drew ?_ | refine blk_alloc ?_ _)); exact BK117.out) hb); have n2_ := Aside0.mk (below_step (by repeat (first | (with_reducible first | exact HB.out | apply below_alloc | apply pw_below_drewN | apply below_drew1 | refine below_set ?_ GE117.out) | exact HB.out)) hb); clear HO_8; clear BK117; clear HB; have HO_8 := n0_; have BK117 := n1_; have HB := n2_; clear n0_ n1_ n2_; (try clear hb); (try clear hb2); (try clear hk); (try clear hi); have p19 : 0 ≤ (x36_2 : Int) := of_decide_eq_true (by first | (with_reducible assumption) | assumption); have q19 : (x36_2 : Int) < ((x8_2.length : Int) : Int) := of_decide_eq_true (by first | (with_reducible assumption) | assumption); obtain ⟨go19, co19, eo19, gb19, gl19, cl19, HG19⟩ := Kd.R_form HO_8.out (by omega); (first | cases eo19 | (injection eo19 with ea_ en_ ec_; (first | subst ea_ | (injection ea_ with ea_; subst ea_)); subst ec_; clear en_)); have GB19 := Aside0.mk gb19; have GG19 := Aside0.mk HG19; clear gb19 gl19 HG19; obtain ⟨ce19, hcl19, hM19, hcc19, hfr19⟩ := Kd.R_elem HO_8.out z49 (x36_2 : Int) p19 q19; obtain rfl := k49_openM hM19; have hx19_0 : w20.cell? ⟨go19, (x36_2 : Int).toNat * 2, none⟩ = some (.int .i64 ((rd_T49 x8_2 x36_2).f0)) := hcc19 0 _ rfl; have hx19_1 : w20.cell? ⟨go19, (x36_2 : Int).toNat * 2 + 1, none⟩ = some (.bool ((rd_T49 x8_2 x36_2).f1)) := hcc19 1 _ rfl; have hf19_0 : w20.frozen? ⟨go19, (x36_2 : Int).toNat * 2, none⟩ = false := hfr19 0; have hf19_1 : w20.frozen? ⟨go19, (x36_2 : Int).toNat * 2 + 1, none⟩ = false := hfr19 1; clear hcl19 hcc19 hfr19 hM19; replace p19 := eq_true p19; replace q19 := eq_true q19; have HX21 := Aside0.mk (show Kd.R k49 49 w20 w.heap.size (fun _ => True) (.slice (some ⟨go19, 0, none⟩) x8_2.length co14) x8_2 from (by (with_reducible repeat (first | apply Kd.R_alloc | apply Kd.R_drewN | apply Kd.R_drew)); exact HO_8.out)); obtain ⟨ce21, hcl21, hM21, hcc21, hfr21⟩ := Kd.R_elem HX21.out z49 (x36_2 : Int) (of_decide_eq_true (by first | (with_reducible assumption) | assumption)) (by have h_ : (x36_2 : Int) < ((x8_2.length : Int) : Int) := of_decide_eq_true (by first | (with_reducible assumption) | assumption); first | exact h_ | (have e_ := (Kd.R_reads' HO_8.out).1; omega) | simpa using h_); obtain rfl := k49_openM hM21; have HP21 := Kd.R_seg HX21.out (x36_2 : Int) (of_decide_eq_true (by first | (with_reducible assumption) | assumption)) (by have h_ : (x36_2 : Int) < ((x8_2.length : Int) : Int) := of_decide_eq_true (by first | (with_reducible assumption) | assumption); first | exact h_ | (have e_ := (Kd.R_reads' HO_8.out).1; omega) | simpa using h_) (seg := [.int .i64 t121, .bool t122]) (j := 0) hcl21 hcc21 (show 2 ≤ 2 from by decide) (x' := (⟨t121, t122⟩ : S49)) (k49_mkM _ _ _ (⟨t121, t122⟩ : S49) ) (fun _ hk => hk); have hx21_0 := hcc21 0 _ rfl; (try simp only [show (k49).sz = 2 from rfl, Nat.mul_one, Nat.add_zero] at hx21_0); have hf21_0 := hfr21 0; (try simp only [show (k49).sz = 2 from rfl, Nat.mul_one, Nat.add_zero] at hf21_0); have hx21_1 := hcc21 1 _ rfl; (try simp only [show (k49).sz = 2 from rfl, Nat.mul_one, Nat.add_zero] at hx21_1); have hf21_1 := hfr21 1; (try simp only [show (k49).sz = 2 from rfl, Nat.mul_one, Nat.add_zero] at hf21_1); clear hcl21 hcc21 hfr21 hM21) | ((with_reducible refine gate_store (t := 49) (p := 42) rfl ?_); refine store_event (t := 49) (p := 42) (v := ?vo_w22) (w1 := ((w20.setCell ⟨go19, (x36_2 : Int).toNat * 2, none⟩ (.int .i64 t121)).setCell ⟨go19, (x36_2 : Int).toNat * 2 + 1, none⟩ (.bool t122))) ?hg ?ho ?hn ?hr ?_; (case ho => rfl); (case hg => rfl); (case hn => rfl); (case hr => first | (go_simp; done) | (go_simp; rfl)); intro w22 hw; have hg : w20.grownBy w22 (some go19) := (by rw [hw]; exact HP21.2); have hp_ : Kd.R k49 49 w22 w.heap.size (fun _ => True) (.slice (some ⟨go19, 0, none⟩) x8_2.length co14) y123 := (by rw [hw, Ny123.out]; exact HP21.1); clear HP21; have n0_ := Aside0.mk (hp_); have n1_ := Aside0.mk (blk_grown (g := gb117) (o := .cells #[.slice none 0 0, .int .i64 0] 27 (0, 0)) (by (with_reducible repeat (first | refine blk_drewN ?_ _ | refine blk_drew ?_ | refine blk_alloc ?_ _)); exact BK117.out) hg (Kd.R_ne HO_8.out BK117.out (by decide))); have n2_ := Aside0.mk ((by rw [hw]; exact below_set (below_set (HB.out) GB19.out) GB19.out : Below w.heap.size w w22)); clear HO_8; clear BK117; clear HB; have HO_8 := n0_; have BK117 := n1_; have HB := n2_; clear n0_ n1_ n2_; clear hg hw hp_))
                      (try simp only [← hl8_2])
                      go_roundg k2
                      case measure => have := HJ3.out; have := HK2.out; omega
                      case rel => exact ⟨(y123), (wrap64 (x36_2 + 1)), (by first | rfl | (simp; done) | (simp [*]; done)), H', ⟨by have := HJ3.out; have := HK2.out; omega⟩, ⟨by (try simp only [hl8_2]); (with_reducible repeat (first | apply Kd.R_alloc | apply Kd.R_drewN | apply Kd.R_drew)); exact HO_8.out⟩, ⟨by (try simp only [hl8_2]); (with_reducible repeat (first | refine blk_drewN ?_ _ | refine blk_drew ?_ | refine blk_alloc ?_ _)); exact BK117.out⟩, ⟨by repeat (first | (with_reducible first | exact HB.out | apply below_alloc | apply pw_below_drewN | apply below_drew1 | refine below_set ?_ GE117.out) | exact HB.out)⟩⟩
                    · rw [if_neg c18] at H
                      exact absurd H (by simp)
                  · rw [if_neg c17] at H
                    exact absurd H (by simp)
                · rw [if_neg c15] at H
                  have c15b0 : decide (x36_2 < (y118.length : Int)) = false := decide_eq_false c15
                  (try (have c15b0z : decide (x36_2 < (x8_2.length : Int)) = false := by first | (rw [hl8_2]; exact c15b0) | (rw [← hl8_2]; exact c15b0)))
                  clear c15
                  replace H := Option.bind_eq_some_iff.mp H
                  obtain ⟨⟨t124, t125⟩, A230, H⟩ := H
                  replace H : (lin_Sum.l1 k2 l1 a2 x8_2 l0 (l0.length : Int) 0 t124 t125) = some (r1, r2, r3) := H
                  have A23 := Aside0.mk A230
                  clear A230
                  have H' := Aside0.mk H
                  clear H
                  go_wp2_with (first | ((with_reducible refine gate_callee (f := 18) rfl ?_); refine goesL_ (some 44) rfl rfl Try.func18 (by kernel_rfl) rfl #[.int .i64 0] rfl (by (try simp only [List.map_toArray, List.map_cons, List.map_nil]); first | done | rfl | (simp only [List.length_drop, List.length_take]; rfl)) ?_; (with_reducible refine (lin_of.calls 0 t124 t125 _ A23.out).mono ?_); rintro e w24 ⟨rfl, hb⟩; refine ⟨_, rfl, ?_⟩; have n0_ := Aside0.mk (Kd.R_below (by (with_reducible repeat (first | apply Kd.R_alloc | apply Kd.R_drewN | apply Kd.R_drew)); exact HO_8.out) hb); have n1_ := Aside0.mk (blk_below (g := gb117) (o := .cells #[.slice none 0 0, .int .i64 0] 27 (0, 0)) (by (with_reducible repeat (first | refine blk_drewN ?_ _ | refine blk_drew ?_ | refine blk_alloc ?_ _)); exact BK117.out) hb); have n2_ := Aside0.mk (below_step (by repeat (first | (with_reducible first | exact HB.out | apply below_alloc | apply pw_below_drewN | apply below_drew1 | refine below_set ?_ GE117.out) | exact HB.out)) hb); clear HO_8; clear BK117; clear HB; have HO_8 := n0_; have BK117 := n1_; have HB := n2_; clear n0_ n1_ n2_; (try clear hb); (try clear hb2); (try clear hk); (try clear hi)) | ((with_reducible refine gate_dst (N := 10) rfl ?_); (try (refine gate_guard (by rfl) ?_; dsimp only)); refine box_event ?hg (N := 10) ?hd (cs := #[.int .i64 0, .bool false]) (t := 49) ?hr ?_; (case hd => rfl); (case hg => rfl); (case hr => first | (go_simp; done) | (go_simp; rfl)); intro gb126 hg w25 hbox hb; have n0_ := Aside0.mk (Kd.R_below (Kd.R_elderB (by (with_reducible repeat (first | apply Kd.R_alloc | apply Kd.R_drewN | apply Kd.R_drew)); exact HO_8.out) gb126 (Nat.le_of_eq hg.symm)) hb); have n1_ := Aside0.mk (blk_below (g := gb117) (o := .cells #[.slice none 0 0, .int .i64 0] 27 (0, 0)) (by (with_reducible repeat (first | refine blk_drewN ?_ _ | refine blk_drew ?_ | refine blk_alloc ?_ _)); exact BK117.out) hb); have n2_ := Aside0.mk (below_step (by repeat (first | (with_reducible first | exact HB.out | apply below_alloc | apply pw_below_drewN | apply below_drew1 | refine below_set ?_ GE117.out) | exact HB.out)) hb); have n3_ := Aside0.mk (hbox); have n4_ := Aside0.mk ((by rw [hg]; exact (below_size (by repeat (first | (with_reducible first | exact HB.out | apply below_alloc | apply pw_below_drewN | apply below_drew1 | refine below_set ?_ GE117.out) | exact HB.out))) : w.heap.size ≤ gb126)); have n5_ := Aside0.mk ((by rw [hg]; exact (below_size (by repeat (first | (with_reducible first | exact HB.out | apply below_alloc | apply pw_below_drewN | apply below_drew1 | refine below_set ?_ GE117.out) | exact HB.out))) : w.heap.size ≤ gb126)); have n6_ := Aside0.mk ((by rw [hg]; exact Nat.ne_of_lt (blk_lt (g := gb117) (o := .cells #[.slice none 0 0, .int .i64 0] 27 (0, 0)) (by (with_reducible repeat (first | refine blk_drewN ?_ _ | refine blk_drew ?_ | refine blk_alloc ?_ _)); exact BK117.out)) : gb117 ≠ gb126)); have n7_ := Aside0.mk ((by rw [hg]; exact Nat.ne_of_gt (blk_lt (g := gb117) (o := .cells #[.slice none 0 0, .int .i64 0] 27 (0, 0)) (by (with_reducible repeat (first | refine blk_drewN ?_ _ | refine blk_drew ?_ | refine blk_alloc ?_ _)); exact BK117.out)) : gb126 ≠ gb117)); clear HO_8; clear BK117; clear HB; have HO_8 := n0_; have BK117 := n1_; have HB := n2_; have BK126 := n3_; have GW126 := n4_; have GE126 := n5_; have NB117_126 := n6_; have NB126_117 := n7_; clear n0_ n1_ n2_ n3_ n4_ n5_ n6_ n7_; clear hb hbox hg; have hnb26 := NB126_117.out; have hnc26 := NB117_126.out; have hcz27_0 : w25.cell? ⟨gb126, 0, none⟩ = some (.int .i64 0) := (blk_cell BK126.out 0).trans rfl; have hcz27_1 : w25.cell? ⟨gb126, 1, none⟩ = some (.bool false) := (blk_cell BK126.out 1).trans rfl; have hfz27_0 := blk_frozen BK126.out 0; have hfz27_1 := blk_frozen BK126.out 1))
                  go_loopg [47] k2 (fun kq v47 w' => ∃ (x8_3 : List (S49)) (x47_3 : Int) (x118001_3 : Int) (x127000_3 : Int) (x127001_3 : Bool), v47 = .int .i64 x47_3 ∧ Aside0 (lin_Sum.l1 kq l1 a2 x8_3 l0 (l0.length : Int) x47_3 x127000_3 x127001_3 = some (r1, r2, r3)) ∧ Aside0 (kq ≤ k2) ∧ Aside0 (Kd.R k49 49 w' w.heap.size (fun k_ => k_ ≠ gb126) (.slice Ao14 x8_2.length co14) x8_3) ∧ Aside0 (w'.heap[gb117]? = some (.cells #[(.slice none 0 0), .int .i64 x118001_3] 27 (0, 0))) ∧ Aside0 (w'.heap[gb126]? = some (.cells #[.int .i64 x127000_3, .bool x127001_3] 49 (0, 0))) ∧ Aside0 (Below w.heap.size w w'))
                  case atStart => exact ⟨(x8_2), (0), (0), (t124), (t125), (by first | rfl | (simp; done) | (simp [*]; done)), H', ⟨Nat.le_refl _⟩, ⟨by (try simp only [hl8_2]); (with_reducible repeat (first | apply Kd.R_alloc | apply Kd.R_drewN | apply Kd.R_drew)); exact Kd.R_mono (Kd.R_far (p := ⟨gb126, 1, none⟩) (Kd.R_far (p := ⟨gb126, 0, none⟩) (Kd.R_mono HO_8.out (fun k_ hk => (⟨hk, hk.2⟩ : _ ∧ k_ ≠ gb126))) (fun _ hk => hk.2) (.int .i64 t124)) (fun _ hk => hk.2) (.bool t125)) (fun _ hk => hk.1.2)⟩, ⟨by (try simp only [hl8_2]); (with_reducible repeat (first | refine blk_drewN ?_ _ | refine blk_drew ?_ | refine blk_alloc ?_ _)); refine blk_far ?_ NB117_126.out _; (with_reducible repeat (first | refine blk_drewN ?_ _ | refine blk_drew ?_ | refine blk_alloc ?_ _)); refine blk_far ?_ NB117_126.out _; (with_reducible repeat (first | refine blk_drewN ?_ _ | refine blk_drew ?_ | refine blk_alloc ?_ _)); exact BK117.out⟩, ⟨by (try simp only [hl8_2]); (with_reducible repeat (first | refine blk_drewN ?_ _ | refine blk_drew ?_ | refine blk_alloc ?_ _)); refine blk_put (cs := #[.int .i64 t124, .bool false]) ?_ 1 _ rfl; (with_reducible repeat (first | refine blk_drewN ?_ _ | refine blk_drew ?_ | refine blk_alloc ?_ _)); refine blk_put (cs := #[.int .i64 0, .bool false]) ?_ 0 _ rfl; (with_reducible repeat (first | refine blk_drewN ?_ _ | refine blk_drew ?_ | refine blk_alloc ?_ _)); exact BK126.out⟩, ⟨by repeat (first | (with_reducible first | exact HB.out | apply below_alloc | apply pw_below_drewN | apply below_drew1 | refine below_set ?_ GE117.out | refine below_set ?_ GE126.out) | exact HB.out)⟩⟩
                  case round =>
                    clear H'
                    try clear c1
                    try clear p1
                    try clear q1
                    try clear hx1
                    try clear c2
                    try clear p2
                    try clear hx2
                    try clear c6
                    try clear c6b0
                    try clear c6b1
                    try clear c6b2
                    try clear p6
                    try clear c7
                    try clear c7b0
                    try clear c8
                    try clear c10
                    try clear c10b0
                    try clear c10b1
                    try clear c11
                    try clear c11b0
                    try clear c11b1
                    try clear c15
                    try clear c15b0
                    try clear c17
                    try clear c17b0
                    try clear c18
                    try clear c18b0
                    try clear c19
                    try clear p19
                    try clear q19
                    try clear hx19
                    try clear hf19
                    try clear c21
                    try clear hx21
                    try clear hf21
                    try clear c26
                    try clear hcz27_0
                    try clear hcz27_1
                    try clear hcz9_0
                    try clear hcz9_1
                    try clear hfz27_0
                    try clear hfz27_1
                    try clear hfz9_0
                    try clear hfz9_1
                    try clear hx19_0
                    try clear hx19_1
                    try clear hx21_0
                    try clear hx21_1
                    try clear p19
                    try clear p2
                    try clear q19
                    obtain ⟨x8_3, x47_3, x118001_3, x127000_3, x127001_3, rfl, HA, HK3, HO_8, BK117, BK126, HB⟩ := hrel
                    have hl8_3 := (Kd.R_reads' HO_8.out).1
                    rw [hl8_3] at HO_8
                    (try simp only [hl8_3])
                    (try simp only [hl8_3] at BK117)
                    (try simp only [hl8_3] at BK126)
                    cases gk with
                    | zero => exact absurd HA.out (by simp [lin_Sum.l1])
                    | succ k3 =>
                      have H := HA.out
                      clear HA
                      simp only [lin_Sum.l1] at H
                      by_cases c28 : x47_3 < (l0.length : Int)
                      · rw [if_pos c28] at H
                        have c28b0 : decide (x47_3 < (l0.length : Int)) = true := decide_eq_true c28
                        clear c28
                        by_cases c29 : 0 ≤ x47_3
                        · rw [if_pos c29] at H
                          have c29b0 : decide (0 ≤ x47_3) = true := decide_eq_true c29
                          clear c29
                          by_cases c30 : x47_3 < (l0.length : Int)
                          · rw [if_pos c30] at H
                            have c30b0 : decide (x47_3 < (l0.length : Int)) = true := decide_eq_true c30
                            clear c30
                            have HC31 := Aside0.mk H
                            clear H
                            have p127 : 0 ≤ (x47_3 : Int) := of_decide_eq_true (by first | (with_reducible assumption) | assumption)
                            have q127 : x47_3 < (l0.length : Int) := of_decide_eq_true (by first | (with_reducible assumption) | assumption)
                            obtain ⟨ad127, A127_0, c127_0, e127, hx127_0, hx127_1, hl127_0, hi127_0⟩ := at_T27 HR0.out x47_3 p127 q127
                            cases e127
                            replace hx127_0 := (HB.out.cell (World.block_lt_of_cell? w _ hx127_0)).trans hx127_0
                            replace hx127_1 := (HB.out.cell (World.block_lt_of_cell? w _ hx127_1)).trans hx127_1
                            have HR127_0 := Aside0.mk hi127_0
                            have HC127_0 := Aside0.mk hl127_0
                            clear hi127_0 hl127_0
                            replace p127 := eq_true p127
                            replace q127 := eq_true q127
                            go_upto_region 13 with (first | ((with_reducible refine gate_dst (N := 12) rfl ?_); (try (refine gate_guard (by rfl) ?_; dsimp only)); refine box_event ?hg (N := 12) ?hd (cs := #[.slice none 0 0, .int .i64 0]) (t := 27) ?hr ?_; (case hd => rfl); (case hg => rfl); (case hr => first | (go_simp; done) | (go_simp; rfl)); intro gb128 hg w32 hbox hb; have n0_ := Aside0.mk (Kd.R_below (by (with_reducible repeat (first | apply Kd.R_alloc | apply Kd.R_drewN | apply Kd.R_drew)); exact HO_8.out) hb); have n1_ := Aside0.mk (blk_below (g := gb117) (o := .cells #[.slice none 0 0, .int .i64 x118001_3] 27 (0, 0)) (by (with_reducible repeat (first | refine blk_drewN ?_ _ | refine blk_drew ?_ | refine blk_alloc ?_ _)); exact BK117.out) hb); have n2_ := Aside0.mk (blk_below (g := gb126) (o := .cells #[.int .i64 x127000_3, .bool x127001_3] 49 (0, 0)) (by (with_reducible repeat (first | refine blk_drewN ?_ _ | refine blk_drew ?_ | refine blk_alloc ?_ _)); exact BK126.out) hb); have n3_ := Aside0.mk (below_step (by repeat (first | (with_reducible first | exact HB.out | apply below_alloc | apply pw_below_drewN | apply below_drew1 | refine below_set ?_ GE117.out | refine below_set ?_ GE126.out) | exact HB.out)) hb); have n4_ := Aside0.mk (hbox); have n5_ := Aside0.mk ((by rw [hg]; exact (below_size (by repeat (first | (with_reducible first | exact HB.out | apply below_alloc | apply pw_below_drewN | apply below_drew1 | refine below_set ?_ GE117.out | refine below_set ?_ GE126.out) | exact HB.out))) : w.heap.size ≤ gb128)); have n6_ := Aside0.mk ((by rw [hg]; exact (below_size (by repeat (first | (with_reducible first | exact HB.out | apply below_alloc | apply pw_below_drewN | apply below_drew1 | refine below_set ?_ GE117.out | refine below_set ?_ GE126.out) | exact HB.out))) : w.heap.size ≤ gb128)); have n7_ := Aside0.mk ((by rw [hg]; exact Nat.ne_of_lt (blk_lt (g := gb117) (o := .cells #[.slice none 0 0, .int .i64 x118001_3] 27 (0, 0)) (by (with_reducible repeat (first | refine blk_drewN ?_ _ | refine blk_drew ?_ | refine blk_alloc ?_ _)); exact BK117.out)) : gb117 ≠ gb128)); have n8_ := Aside0.mk ((by rw [hg]; exact Nat.ne_of_gt (blk_lt (g := gb117) (o := .cells #[.slice none 0 0, .int .i64 x118001_3] 27 (0, 0)) (by (with_reducible repeat (first | refine blk_drewN ?_ _ | refine blk_drew ?_ | refine blk_alloc ?_ _)); exact BK117.out)) : gb128 ≠ gb117)); have n9_ := Aside0.mk ((by rw [hg]; exact Nat.ne_of_lt (blk_lt (g := gb126) (o := .cells #[.int .i64 x127000_3, .bool x127001_3] 49 (0, 0)) (by (with_reducible repeat (first | refine blk_drewN ?_ _ | refine blk_drew ?_ | refine blk_alloc ?_ _)); exact BK126.out)) : gb126 ≠ gb128)); have n10_ := Aside0.mk ((by rw [hg]; exact Nat.ne_of_gt (blk_lt (g := gb126) (o := .cells #[.int .i64 x127000_3, .bool x127001_3] 49 (0, 0)) (by (with_reducible repeat (first | refine blk_drewN ?_ _ | refine blk_drew ?_ | refine blk_alloc ?_ _)); exact BK126.out)) : gb128 ≠ gb126)); clear HO_8; clear BK117; clear BK126; clear HB; have HO_8 := n0_; have BK117 := n1_; have BK126 := n2_; have HB := n3_; have BK128 := n4_; have GW128 := n5_; have GE128 := n6_; have NB117_128 := n7_; have NB128_117 := n8_; have NB126_128 := n9_; have NB128_126 := n10_; clear n0_ n1_ n2_ n3_ n4_ n5_ n6_ n7_ n8_ n9_ n10_; clear hb hbox hg; have hnb33 := NB128_117.out; have hnc33 := NB117_128.out; have hnb34 := NB128_126.out; have hnc34 := NB126_128.out; have hcz35_0 : w32.cell? ⟨gb128, 0, none⟩ = some (.slice none 0 0) := (blk_cell BK128.out 0).trans rfl; have hcz35_1 : w32.cell? ⟨gb128, 1, none⟩ = some (.int .i64 0) := (blk_cell BK128.out 1).trans rfl; have hfz35_0 := blk_frozen BK128.out 0; have hfz35_1 := blk_frozen BK128.out 1))
                            (try simp only [Act.put, List.setIfInBounds_toArray, List.set_cons_zero, List.set_cons_succ])
                            go_cut [63] (fun v63 wc => ∃ (kq : Nat) (x63_30 : Bool), v63 = .bool x63_30 ∧ Aside0 (lin_Sum.j3 kq l1 a2 x8_3 x47_3 l0 (l0.length : Int) x47_3 x63_30 x127000_3 x127001_3 ((rd_T27 l0 x47_3).f0) ((rd_T27 l0 x47_3).f1) = some (r1, r2, r3)) ∧ Aside0 (kq ≤ k3) ∧ Aside0 (Kd.R k49 49 wc w.heap.size (fun k_ => k_ ≠ gb126) (.slice Ao14 x8_3.length co14) x8_3) ∧ Aside0 (wc.heap[gb117]? = some (.cells #[(.slice none 0 0), .int .i64 x118001_3] 27 (0, 0))) ∧ Aside0 (wc.heap[gb126]? = some (.cells #[.int .i64 x127000_3, .bool x127001_3] 49 (0, 0))) ∧ Aside0 (wc.heap[gb128]? = some (.cells #[(.slice A127_0 ((rd_T27 l0 x47_3).f0).length c127_0), .int .i64 ((rd_T27 l0 x47_3).f1)] 27 (0, 0))) ∧ Aside0 (Below w.heap.size w wc))
                            case first =>
                              have H := HC31.out
                              clear HC31
                              by_cases c36 : x47_3 < (l1.length : Int)
                              · rw [if_pos c36] at H
                                have c36b0 : decide (x47_3 < (l1.length : Int)) = true := decide_eq_true c36
                                clear c36
                                (first | rw [c36b0] | (simp only [i64_w, i32_w]; rw [c36b0]) | skip)
                                by_cases c37 : (rd l1 x47_3) < 0
                                · rw [if_pos c37] at H
                                  have c37b0 : decide ((rd l1 x47_3) < 0) = true := decide_eq_true c37
                                  clear c37
                                  have H' := Aside0.mk H
                                  clear H
                                  have p129 : 0 ≤ (x47_3 : Int) := of_decide_eq_true (by first | (with_reducible assumption) | assumption)
                                  have q129 : x47_3 < (l1.length : Int) := of_decide_eq_true (by first | (with_reducible assumption) | assumption)
                                  obtain ⟨ad129, e129, hx129_0⟩ := Kd.at_int HR1.out x47_3 p129 q129
                                  cases e129
                                  have hn129_0 : ad129.block ≠ gb128 := Nat.ne_of_lt (Nat.lt_of_lt_of_le (by have := World.block_lt_of_cell? _ _ hx129_0; first | rwa [add_block] at this | exact this) GW128.out)
                                  have hn129_1 : ad129.block ≠ gb128 := Nat.ne_of_lt (Nat.lt_of_lt_of_le (by have := World.block_lt_of_cell? _ _ hx129_0; first | rwa [add_block] at this | exact this) GW128.out)
                                  replace hx129_0 := (HB.out.cell (World.block_lt_of_cell? w _ hx129_0)).trans hx129_0
                                  replace hx129_0 := (cell_far (p := ⟨gb128, 0, none⟩) (by first | (rw [add_block]; exact hn129_0) | (show (Addr.add _ _).block ≠ _; rw [add_block]; exact hn129_0) | exact hn129_0) (.slice A127_0 ((rd_T27 l0 x47_3).f0).length c127_0)).trans hx129_0
                                  replace hx129_0 := (cell_far (p := ⟨gb128, 1, none⟩) (by first | (rw [add_block]; exact hn129_1) | (show (Addr.add _ _).block ≠ _; rw [add_block]; exact hn129_1) | exact hn129_1) (.int .i64 ((rd_T27 l0 x47_3).f1))).trans hx129_0
                                  clear hn129_0
                                  clear hn129_1
                                  replace p129 := eq_true p129
                                  replace q129 := eq_true q129
                                  go_wp2
                                  go_meet
                                  case rel => exact ⟨_, (true), (by first | rfl | (simp; done) | (simp [*]; done)), H', ⟨by have := HJ3.out; have := HK2.out; have := HK3.out; first | omega | exact Nat.le_refl _⟩, ⟨by (try simp only [hl8_2]); (try simp only [hl8_3]); (with_reducible repeat (first | apply Kd.R_alloc | apply Kd.R_drewN | apply Kd.R_drew)); exact Kd.R_mono (Kd.R_far (p := ⟨gb128, 1, none⟩) (Kd.R_far (p := ⟨gb128, 0, none⟩) (Kd.R_types HO_8.out BK128.out (by decide)) (fun _ hk => hk.2) (.slice A127_0 ((rd_T27 l0 x47_3).f0).length c127_0)) (fun _ hk => hk.2) (.int .i64 ((rd_T27 l0 x47_3).f1))) (fun _ hk => hk.1)⟩, ⟨by (try simp only [hl8_2]); (try simp only [hl8_3]); (with_reducible repeat (first | refine blk_drewN ?_ _ | refine blk_drew ?_ | refine blk_alloc ?_ _)); refine blk_far ?_ NB117_128.out _; (with_reducible repeat (first | refine blk_drewN ?_ _ | refine blk_drew ?_ | refine blk_alloc ?_ _)); refine blk_far ?_ NB117_128.out _; (with_reducible repeat (first | refine blk_drewN ?_ _ | refine blk_drew ?_ | refine blk_alloc ?_ _)); exact BK117.out⟩, ⟨by (try simp only [hl8_2]); (try simp only [hl8_3]); (with_reducible repeat (first | refine blk_drewN ?_ _ | refine blk_drew ?_ | refine blk_alloc ?_ _)); refine blk_far ?_ NB126_128.out _; (with_reducible repeat (first | refine blk_drewN ?_ _ | refine blk_drew ?_ | refine blk_alloc ?_ _)); refine blk_far ?_ NB126_128.out _; (with_reducible repeat (first | refine blk_drewN ?_ _ | refine blk_drew ?_ | refine blk_alloc ?_ _)); exact BK126.out⟩, ⟨by (try simp only [hl8_2]); (try simp only [hl8_3]); (with_reducible repeat (first | refine blk_drewN ?_ _ | refine blk_drew ?_ | refine blk_alloc ?_ _)); refine blk_put (cs := #[.slice A127_0 ((rd_T27 l0 x47_3).f0).length c127_0, .int .i64 0]) ?_ 1 _ rfl; (with_reducible repeat (first | refine blk_drewN ?_ _ | refine blk_drew ?_ | refine blk_alloc ?_ _)); refine blk_put (cs := #[.slice none 0 0, .int .i64 0]) ?_ 0 _ rfl; (with_reducible repeat (first | refine blk_drewN ?_ _ | refine blk_drew ?_ | refine blk_alloc ?_ _)); exact BK128.out⟩, ⟨by repeat (first | (with_reducible first | exact HB.out | apply below_alloc | apply pw_below_drewN | apply below_drew1 | refine below_set ?_ GE117.out | refine below_set ?_ GE126.out | refine below_set ?_ GE128.out) | exact HB.out)⟩⟩
                                · rw [if_neg c37] at H
                                  have c37b0 : decide ((rd l1 x47_3) < 0) = false := decide_eq_false c37
                                  clear c37
                                  have H' := Aside0.mk H
                                  clear H
                                  have p129 : 0 ≤ (x47_3 : Int) := of_decide_eq_true (by first | (with_reducible assumption) | assumption)
                                  have q129 : x47_3 < (l1.length : Int) := of_decide_eq_true (by first | (with_reducible assumption) | assumption)
                                  obtain ⟨ad129, e129, hx129_0⟩ := Kd.at_int HR1.out x47_3 p129 q129
                                  cases e129
                                  have hn129_0 : ad129.block ≠ gb128 := Nat.ne_of_lt (Nat.lt_of_lt_of_le (by have := World.block_lt_of_cell? _ _ hx129_0; first | rwa [add_block] at this | exact this) GW128.out)
                                  have hn129_1 : ad129.block ≠ gb128 := Nat.ne_of_lt (Nat.lt_of_lt_of_le (by have := World.block_lt_of_cell? _ _ hx129_0; first | rwa [add_block] at this | exact this) GW128.out)
                                  replace hx129_0 := (HB.out.cell (World.block_lt_of_cell? w _ hx129_0)).trans hx129_0
                                  replace hx129_0 := (cell_far (p := ⟨gb128, 0, none⟩) (by first | (rw [add_block]; exact hn129_0) | (show (Addr.add _ _).block ≠ _; rw [add_block]; exact hn129_0) | exact hn129_0) (.slice A127_0 ((rd_T27 l0 x47_3).f0).length c127_0)).trans hx129_0
                                  replace hx129_0 := (cell_far (p := ⟨gb128, 1, none⟩) (by first | (rw [add_block]; exact hn129_1) | (show (Addr.add _ _).block ≠ _; rw [add_block]; exact hn129_1) | exact hn129_1) (.int .i64 ((rd_T27 l0 x47_3).f1))).trans hx129_0
                                  clear hn129_0
                                  clear hn129_1
                                  replace p129 := eq_true p129
                                  replace q129 := eq_true q129
                                  have hnb38 := NB128_117.out
                                  have hnc38 := NB117_128.out
                                  have hnb39 := NB128_126.out
                                  have hnc39 := NB126_128.out
                                  have hcz40_0 : w32.cell? ⟨gb128, 0, none⟩ = some (.slice none 0 0) := (blk_cell BK128.out 0).trans rfl
                                  have hcz40_1 : w32.cell? ⟨gb128, 1, none⟩ = some (.int .i64 0) := (blk_cell BK128.out 1).trans rfl
                                  have hfz40_0 := blk_frozen BK128.out 0
                                  have hfz40_1 := blk_frozen BK128.out 1
                                  go_wp2
                                  go_meet
                                  case rel => exact ⟨_, (((((rd_T27 l0 x47_3).f0).length : Int) != a2)), (by first | rfl | (simp; done) | (simp [*]; done)), H', ⟨by have := HJ3.out; have := HK2.out; have := HK3.out; first | omega | exact Nat.le_refl _⟩, ⟨by (try simp only [hl8_2]); (try simp only [hl8_3]); (with_reducible repeat (first | apply Kd.R_alloc | apply Kd.R_drewN | apply Kd.R_drew)); exact Kd.R_mono (Kd.R_far (p := ⟨gb128, 1, none⟩) (Kd.R_far (p := ⟨gb128, 0, none⟩) (Kd.R_types HO_8.out BK128.out (by decide)) (fun _ hk => hk.2) (.slice A127_0 ((rd_T27 l0 x47_3).f0).length c127_0)) (fun _ hk => hk.2) (.int .i64 ((rd_T27 l0 x47_3).f1))) (fun _ hk => hk.1)⟩, ⟨by (try simp only [hl8_2]); (try simp only [hl8_3]); (with_reducible repeat (first | refine blk_drewN ?_ _ | refine blk_drew ?_ | refine blk_alloc ?_ _)); refine blk_far ?_ NB117_128.out _; (with_reducible repeat (first | refine blk_drewN ?_ _ | refine blk_drew ?_ | refine blk_alloc ?_ _)); refine blk_far ?_ NB117_128.out _; (with_reducible repeat (first | refine blk_drewN ?_ _ | refine blk_drew ?_ | refine blk_alloc ?_ _)); exact BK117.out⟩, ⟨by (try simp only [hl8_2]); (try simp only [hl8_3]); (with_reducible repeat (first | refine blk_drewN ?_ _ | refine blk_drew ?_ | refine blk_alloc ?_ _)); refine blk_far ?_ NB126_128.out _; (with_reducible repeat (first | refine blk_drewN ?_ _ | refine blk_drew ?_ | refine blk_alloc ?_ _)); refine blk_far ?_ NB126_128.out _; (with_reducible repeat (first | refine blk_drewN ?_ _ | refine blk_drew ?_ | refine blk_alloc ?_ _)); exact BK126.out⟩, ⟨by (try simp only [hl8_2]); (try simp only [hl8_3]); (with_reducible repeat (first | refine blk_drewN ?_ _ | refine blk_drew ?_ | refine blk_alloc ?_ _)); refine blk_put (cs := #[.slice A127_0 ((rd_T27 l0 x47_3).f0).length c127_0, .int .i64 0]) ?_ 1 _ rfl; (with_reducible repeat (first | refine blk_drewN ?_ _ | refine blk_drew ?_ | refine blk_alloc ?_ _)); refine blk_put (cs := #[.slice none 0 0, .int .i64 0]) ?_ 0 _ rfl; (with_reducible repeat (first | refine blk_drewN ?_ _ | refine blk_drew ?_ | refine blk_alloc ?_ _)); exact BK128.out⟩, ⟨by repeat (first | (with_reducible first | exact HB.out | apply below_alloc | apply pw_below_drewN | apply below_drew1 | refine below_set ?_ GE117.out | refine below_set ?_ GE126.out | refine below_set ?_ GE128.out) | exact HB.out)⟩⟩
                              · rw [if_neg c36] at H
                                exact absurd H (by simp)
                            case rest =>
                              clear HC31
                              try clear c1
                              try clear p1
                              try clear q1
                              try clear hx1
                              try clear c2
                              try clear p2
                              try clear hx2
                              try clear c3
                              try clear c6
                              try clear c6b0
                              try clear c6b1
                              try clear c6b2
                              try clear p6
                              try clear c7
                              try clear c7b0
                              try clear c8
                              try clear c10
                              try clear c10b0
                              try clear c10b1
                              try clear c11
                              try clear c11b0
                              try clear c11b1
                              try clear c12
                              try clear p12
                              try clear q12
                              try clear hx12
                              try clear c15
                              try clear c15b0
                              try clear c17
                              try clear c17b0
                              try clear c18
                              try clear c18b0
                              try clear c19
                              try clear p19
                              try clear q19
                              try clear hx19
                              try clear hf19
                              try clear c21
                              try clear hx21
                              try clear hf21
                              try clear c26
                              try clear c28
                              try clear c28b0
                              try clear c29
                              try clear c29b0
                              try clear c30
                              try clear c30b0
                              try clear c33
                              try clear c34
                              try clear c36
                              try clear c36b0
                              try clear c37
                              try clear c37b0
                              try clear c38
                              try clear c39
                              try clear hcz27_0
                              try clear hcz27_1
                              try clear hcz35_0
                              try clear hcz35_1
                              try clear hcz40_0
                              try clear hcz40_1
                              try clear hcz9_0
                              try clear hcz9_1
                              try clear hfz27_0
                              try clear hfz27_1
                              try clear hfz35_0
                              try clear hfz35_1
                              try clear hfz40_0
                              try clear hfz40_1
                              try clear hfz9_0
                              try clear hfz9_1
                              try clear hx127_0
                              try clear hx127_1
                              try clear hx129_0
                              try clear hx19_0
                              try clear hx19_1
                              try clear hx21_0
                              try clear hx21_1
                              try clear p1
                              try clear p127
                              try clear p129
                              try clear p19
                              try clear p2
                              try clear p6
                              try clear q1
                              try clear q127
                              try clear q129
                              try clear q19
                              obtain ⟨kq, x63_30, rfl, HA, HJ30, HO_8, BK117, BK126, BK128, HB⟩ := hcut
                              cases kq with
                              | zero => exact absurd HA.out (by simp [lin_Sum.j3])
                              | succ kj30 =>
                                have H := HA.out
                                clear HA
                                simp only [lin_Sum.j3] at H
                                by_cases c41 : x63_30 = true
                                · subst c41
                                  have H1 : (some (([] : List Int), 0, 14)) = some (r1, r2, r3) := by rw [if_pos rfl] at H; exact H
                                  clear H
                                  have H := H1
                                  clear H1
                                  simp only [Option.some.injEq, Prod.mk.injEq] at H
                                  obtain ⟨rfl, rfl, rfl⟩ := H
                                  have hnb42 := NB117_126.out
                                  have hnc42 := NB126_117.out
                                  have hnb43 := NB117_128.out
                                  have hnc43 := NB128_117.out
                                  have hcz44_0 : wc.cell? ⟨gb117, 0, none⟩ = some (.slice none 0 0) := (blk_cell BK117.out 0).trans rfl
                                  have hcz44_1 : wc.cell? ⟨gb117, 1, none⟩ = some (.int .i64 x118001_3) := (blk_cell BK117.out 1).trans rfl
                                  have hfz44_0 := blk_frozen BK117.out 0
                                  have hfz44_1 := blk_frozen BK117.out 1
                                  go_wp2
                                  refine bodyPost_ret (results_ct rfl _ _ gb117 27 #[.slice none 0 0, .int .i64 0] (0, 0) _ rfl (by (with_reducible repeat (first | refine blk_drewN ?_ _ | refine blk_drew ?_ | refine blk_alloc ?_ _)); refine blk_put (cs := #[.slice none 0 0, .int .i64 x118001_3]) ?_ 1 _ rfl; (with_reducible repeat (first | refine blk_drewN ?_ _ | refine blk_drew ?_ | refine blk_alloc ?_ _)); refine blk_put (cs := #[.slice none 0 0, .int .i64 x118001_3]) ?_ 0 _ rfl; (with_reducible repeat (first | refine blk_drewN ?_ _ | refine blk_drew ?_ | refine blk_alloc ?_ _)); exact BK117.out) Try.underlying27 rfl (by kernel_rfl)) rfl ?_
                                  exact ⟨_, by first | rfl | (simp [errW_none, errW_some] <;> rfl) | (simp [*, errW_none, errW_some] <;> rfl), by first | exact Kd.R_nil _ _ _ _ _ | exact Kd.N_nil _ _ _ _ _ | exact Kd.V_nil _ _ _ _ _ | exact Kd.Q_nil _ _ _ _ _ | exact Kd.S_nil _ _ _ _ _, by repeat (first | (with_reducible first | exact HB.out | apply below_alloc | apply pw_below_drewN | apply below_drew1 | refine below_set ?_ GE117.out | refine below_set ?_ GE126.out | refine below_set ?_ GE128.out) | exact HB.out)⟩
                                · replace c41 := Bool.eq_false_iff.mpr c41
                                  subst c41
                                  have H1 : (lin_Sum.l2 kj30 l1 a2 x8_3 x47_3 l0 (l0.length : Int) x47_3 ((rd_T27 l0 x47_3).f0) (((rd_T27 l0 x47_3).f0).length : Int) 0 x127000_3 x127001_3 ((rd_T27 l0 x47_3).f0) ((rd_T27 l0 x47_3).f1)) = some (r1, r2, r3) := by rw [if_neg (show ¬ (false = true) by decide)] at H; exact H
                                  clear H
                                  have H := H1
                                  clear H1
                                  have H' := Aside0.mk H
                                  clear H
                                  have hnb45 := NB128_117.out
                                  have hnc45 := NB117_128.out
                                  have hnb46 := NB128_126.out
                                  have hnc46 := NB126_128.out
                                  have hcz47_0 : wc.cell? ⟨gb128, 0, none⟩ = some (.slice A127_0 ((rd_T27 l0 x47_3).f0).length c127_0) := (blk_cell BK128.out 0).trans rfl
                                  have hcz47_1 : wc.cell? ⟨gb128, 1, none⟩ = some (.int .i64 ((rd_T27 l0 x47_3).f1)) := (blk_cell BK128.out 1).trans rfl
                                  have hfz47_0 := blk_frozen BK128.out 0
                                  have hfz47_1 := blk_frozen BK128.out 1
                                  go_wp2
                                  go_loopg [68] kj30 (fun kq v68 w' => ∃ (x8_5 : List (S49)) (x68_5 : Int) (x127000_5 : Int) (x127001_5 : Bool), v68 = .int .i64 x68_5 ∧ Aside0 (lin_Sum.l2 kq l1 a2 x8_5 x47_3 l0 (l0.length : Int) x47_3 ((rd_T27 l0 x47_3).f0) (((rd_T27 l0 x47_3).f0).length : Int) x68_5 x127000_5 x127001_5 ((rd_T27 l0 x47_3).f0) ((rd_T27 l0 x47_3).f1) = some (r1, r2, r3)) ∧ Aside0 (kq ≤ kj30) ∧ Aside0 (Kd.R k49 49 w' w.heap.size (fun k_ => k_ ≠ gb126) (.slice Ao14 x8_3.length co14) x8_5) ∧ Aside0 (w'.heap[gb117]? = some (.cells #[(.slice none 0 0), .int .i64 x118001_3] 27 (0, 0))) ∧ Aside0 (w'.heap[gb126]? = some (.cells #[.int .i64 x127000_5, .bool x127001_5] 49 (0, 0))) ∧ Aside0 (w'.heap[gb128]? = some (.cells #[(.slice A127_0 ((rd_T27 l0 x47_3).f0).length c127_0), .int .i64 ((rd_T27 l0 x47_3).f1)] 27 (0, 0))) ∧ Aside0 (Below w.heap.size w w'))
                                  case atStart => exact ⟨(x8_3), (0), (x127000_3), (x127001_3), (by first | rfl | (simp; done) | (simp [*]; done)), H', ⟨Nat.le_refl _⟩, ⟨by (try simp only [hl8_2]); (try simp only [hl8_3]); (with_reducible repeat (first | apply Kd.R_alloc | apply Kd.R_drewN | apply Kd.R_drew)); exact HO_8.out⟩, ⟨by (try simp only [hl8_2]); (try simp only [hl8_3]); (with_reducible repeat (first | refine blk_drewN ?_ _ | refine blk_drew ?_ | refine blk_alloc ?_ _)); exact BK117.out⟩, ⟨by (try simp only [hl8_2]); (try simp only [hl8_3]); (with_reducible repeat (first | refine blk_drewN ?_ _ | refine blk_drew ?_ | refine blk_alloc ?_ _)); exact BK126.out⟩, ⟨by (try simp only [hl8_2]); (try simp only [hl8_3]); (with_reducible repeat (first | refine blk_drewN ?_ _ | refine blk_drew ?_ | refine blk_alloc ?_ _)); exact BK128.out⟩, ⟨by repeat (first | (with_reducible first | exact HB.out | apply below_alloc | apply pw_below_drewN | apply below_drew1 | refine below_set ?_ GE117.out | refine below_set ?_ GE126.out | refine below_set ?_ GE128.out) | exact HB.out)⟩⟩
                                  case round =>
                                    clear H'
                                    try clear c1
                                    try clear p1
                                    try clear q1
                                    try clear hx1
                                    try clear c2
                                    try clear p2
                                    try clear hx2
                                    try clear c3
                                    try clear c4
                                    try clear c6
                                    try clear c6b0
                                    try clear c6b1
                                    try clear c6b2
                                    try clear p6
                                    try clear c7
                                    try clear c7b0
                                    try clear c8
                                    try clear c10
                                    try clear c10b0
                                    try clear c10b1
                                    try clear c11
                                    try clear c11b0
                                    try clear c11b1
                                    try clear c12
                                    try clear p12
                                    try clear q12
                                    try clear hx12
                                    try clear c15
                                    try clear c15b0
                                    try clear c17
                                    try clear c17b0
                                    try clear c18
                                    try clear c18b0
                                    try clear c19
                                    try clear p19
                                    try clear q19
                                    try clear hx19
                                    try clear hf19
                                    try clear c21
                                    try clear hx21
                                    try clear hf21
                                    try clear c26
                                    try clear c28
                                    try clear c28b0
                                    try clear c29
                                    try clear c29b0
                                    try clear c30
                                    try clear c30b0
                                    try clear c33
                                    try clear c34
                                    try clear c36
                                    try clear c36b0
                                    try clear c37
                                    try clear c37b0
                                    try clear c38
                                    try clear c39
                                    try clear c41
                                    try clear c42
                                    try clear c43
                                    try clear c45
                                    try clear c46
                                    try clear hcz27_0
                                    try clear hcz27_1
                                    try clear hcz35_0
                                    try clear hcz35_1
                                    try clear hcz40_0
                                    try clear hcz40_1
                                    try clear hcz44_0
                                    try clear hcz44_1
                                    try clear hcz47_0
                                    try clear hcz47_1
                                    try clear hcz9_0
                                    try clear hcz9_1
                                    try clear hfz27_0
                                    try clear hfz27_1
                                    try clear hfz35_0
                                    try clear hfz35_1
                                    try clear hfz40_0
                                    try clear hfz40_1
                                    try clear hfz44_0
                                    try clear hfz44_1
                                    try clear hfz47_0
                                    try clear hfz47_1
                                    try clear hfz9_0
                                    try clear hfz9_1
                                    try clear hx127_0
                                    try clear hx127_1
                                    try clear hx129_0
                                    try clear hx19_0
                                    try clear hx19_1
                                    try clear hx21_0
                                    try clear hx21_1
                                    try clear p1
                                    try clear p12
                                    try clear p127
                                    try clear p129
                                    try clear p19
                                    try clear p2
                                    try clear p6
                                    try clear q1
                                    try clear q12
                                    try clear q127
                                    try clear q129
                                    try clear q19
                                    obtain ⟨x8_5, x68_5, x127000_5, x127001_5, rfl, HA, HK5, HO_8, BK117, BK126, BK128, HB⟩ := hrel
                                    have hl8_5 := (Kd.R_reads' HO_8.out).1
                                    rw [hl8_5] at HO_8
                                    (try simp only [hl8_5])
                                    (try simp only [hl8_5] at BK117)
                                    (try simp only [hl8_5] at BK126)
                                    (try simp only [hl8_5] at BK128)
                                    cases gk with
                                    | zero => exact absurd HA.out (by simp [lin_Sum.l2])
                                    | succ k5 =>
                                      have H := HA.out
                                      clear HA
                                      simp only [lin_Sum.l2] at H
                                      by_cases c48 : x68_5 < (((rd_T27 l0 x47_3).f0).length : Int)
                                      · rw [if_pos c48] at H
                                        have c48b0 : decide (x68_5 < (((rd_T27 l0 x47_3).f0).length : Int)) = true := decide_eq_true c48
                                        clear c48
                                        by_cases c49 : 0 ≤ x68_5
                                        · rw [if_pos c49] at H
                                          have c49b0 : decide (0 ≤ x68_5) = true := decide_eq_true c49
                                          clear c49
                                          by_cases c50 : x68_5 < (((rd_T27 l0 x47_3).f0).length : Int)
                                          · rw [if_pos c50] at H
                                            have c50b0 : decide (x68_5 < (((rd_T27 l0 x47_3).f0).length : Int)) = true := decide_eq_true c50
                                            clear c50
                                            by_cases c51 : x68_5 < (x8_5.length : Int)
                                            · rw [if_pos c51] at H
                                              have c51b0 : decide (x68_5 < (x8_5.length : Int)) = true := decide_eq_true c51
                                              clear c51
                                              replace H := Option.bind_eq_some_iff.mp H
                                              obtain ⟨⟨t132, t133⟩, A520, H⟩ := H
                                              replace H : (if 0 ≤ x47_3 then (if x47_3 < (l1.length : Int) then ((lin_of.f (rd l1 x47_3)).bind fun bt135 => ((lin_sure_times.f k5 t132 t133 bt135.1 bt135.2).bind fun bt137 => ((lin_sure_plus.f ((rd_T49 x8_5 x68_5).f0) ((rd_T49 x8_5 x68_5).f1) bt137.1 bt137.2).bind fun bt139 => (lin_Sum.l2 k5 l1 a2 (x8_5.set (x68_5 : Int).toNat (⟨bt139.1, bt139.2⟩ : S49)) x47_3 l0 (l0.length : Int) x47_3 ((rd_T27 l0 x47_3).f0) (((rd_T27 l0 x47_3).f0).length : Int) (wrap64 (x68_5 + 1)) x127000_5 x127001_5 ((rd_T27 l0 x47_3).f0) ((rd_T27 l0 x47_3).f1))))) else (none)) else (none)) = some (r1, r2, r3) := H
                                              have A52 := Aside0.mk A520
                                              clear A520
                                              by_cases c53 : 0 ≤ x47_3
                                              · rw [if_pos c53] at H
                                                have c53b0 : decide (0 ≤ x47_3) = true := decide_eq_true c53
                                                clear c53
                                                by_cases c54 : x47_3 < (l1.length : Int)
                                                · rw [if_pos c54] at H
                                                  have c54b0 : decide (x47_3 < (l1.length : Int)) = true := decide_eq_true c54
                                                  clear c54
                                                  replace H := Option.bind_eq_some_iff.mp H
                                                  obtain ⟨⟨t135, t136⟩, A550, H⟩ := H
                                                  replace H : ((lin_sure_times.f k5 t132 t133 t135 t136).bind fun bt137 => ((lin_sure_plus.f ((rd_T49 x8_5 x68_5).f0) ((rd_T49 x8_5 x68_5).f1) bt137.1 bt137.2).bind fun bt139 => (lin_Sum.l2 k5 l1 a2 (x8_5.set (x68_5 : Int).toNat (⟨bt139.1, bt139.2⟩ : S49)) x47_3 l0 (l0.length : Int) x47_3 ((rd_T27 l0 x47_3).f0) (((rd_T27 l0 x47_3).f0).length : Int) (wrap64 (x68_5 + 1)) x127000_5 x127001_5 ((rd_T27 l0 x47_3).f0) ((rd_T27 l0 x47_3).f1)))) = some (r1, r2, r3) := H
                                                  have A55 := Aside0.mk A550
                                                  clear A550
                                                  replace H := Option.bind_eq_some_iff.mp H
                                                  obtain ⟨⟨t137, t138⟩, A560, H⟩ := H
                                                  replace H : ((lin_sure_plus.f ((rd_T49 x8_5 x68_5).f0) ((rd_T49 x8_5 x68_5).f1) t137 t138).bind fun bt139 => (lin_Sum.l2 k5 l1 a2 (x8_5.set (x68_5 : Int).toNat (⟨bt139.1, bt139.2⟩ : S49)) x47_3 l0 (l0.length : Int) x47_3 ((rd_T27 l0 x47_3).f0) (((rd_T27 l0 x47_3).f0).length : Int) (wrap64 (x68_5 + 1)) x127000_5 x127001_5 ((rd_T27 l0 x47_3).f0) ((rd_T27 l0 x47_3).f1))) = some (r1, r2, r3) := H
                                                  have A56 := Aside0.mk A560
                                                  clear A560
                                                  replace H := Option.bind_eq_some_iff.mp H
                                                  obtain ⟨⟨t139, t140⟩, A570, H⟩ := H
                                                  replace H : (lin_Sum.l2 k5 l1 a2 (x8_5.set (x68_5 : Int).toNat (⟨t139, t140⟩ : S49)) x47_3 l0 (l0.length : Int) x47_3 ((rd_T27 l0 x47_3).f0) (((rd_T27 l0 x47_3).f0).length : Int) (wrap64 (x68_5 + 1)) x127000_5 x127001_5 ((rd_T27 l0 x47_3).f0) ((rd_T27 l0 x47_3).f1)) = some (r1, r2, r3) := H
                                                  have A57 := Aside0.mk A570
                                                  clear A570
                                                  obtain ⟨y141, hy141⟩ : ∃ y_ : List (S49), y_ = (x8_5.set (x68_5 : Int).toNat (⟨t139, t140⟩ : S49)) := ⟨_, rfl⟩
                                                  replace H : (lin_Sum.l2 k5 l1 a2 y141 x47_3 l0 (l0.length : Int) x47_3 ((rd_T27 l0 x47_3).f0) (((rd_T27 l0 x47_3).f0).length : Int) (wrap64 (x68_5 + 1)) x127000_5 x127001_5 ((rd_T27 l0 x47_3).f0) ((rd_T27 l0 x47_3).f1)) = some (r1, r2, r3) := by first | (rw [hy141]; with_reducible exact H) | (have H2_ := (Option.bind_some _ _).symm.trans H; rw [hy141]; with_reducible exact H2_) | (have H2_ := (Option.bind_some _ _).symm.trans H; with_reducible exact H2_) | with_reducible exact H | (rw [hy141]; exact H) | exact H
                                                  have Ny141 := Aside0.mk hy141
                                                  clear hy141
                                                  have H' := Aside0.mk H
                                                  clear H
                                                  have p130 : 0 ≤ (x68_5 : Int) := of_decide_eq_true (by first | (with_reducible assumption) | assumption)
                                                  have q130 : x68_5 < (((rd_T27 l0 x47_3).f0).length : Int) := of_decide_eq_true (by first | (with_reducible assumption) | assumption)
                                                  obtain ⟨ad130, e130, hx130_0⟩ := Kd.at_int HR127_0.out x68_5 p130 q130
                                                  cases e130
                                                  replace hx130_0 := (HB.out.cell (World.block_lt_of_cell? w _ hx130_0)).trans hx130_0
                                                  replace p130 := eq_true p130
                                                  replace q130 := eq_true q130
                                                  try go_wp2
                                                  have n0_ := Aside0.mk (Kd.R_drew HO_8.out)
                                                  have n1_ := Aside0.mk (blk_drew BK117.out)
                                                  have n2_ := Aside0.mk (blk_drew BK126.out)
                                                  have n3_ := Aside0.mk (blk_drew BK128.out)
                                                  have n4_ := Aside0.mk (below_drew1 HB.out)
                                                  clear HO_8
                                                  clear BK117
                                                  clear BK126
                                                  clear BK128
                                                  clear HB
                                                  have HO_8 := n0_
                                                  have BK117 := n1_
                                                  have BK126 := n2_
                                                  have BK128 := n3_
                                                  have HB := n4_
                                                  clear n0_ n1_ n2_ n3_ n4_
                                                  have p131 : 0 ≤ (x68_5 : Int) := of_decide_eq_true (by first | (with_reducible assumption) | assumption)
                                                  have q131 : x68_5 < (x8_5.length : Int) := of_decide_eq_true (by first | (with_reducible assumption) | assumption)
                                                  obtain ⟨ad131, e131, hx131_0, hx131_1⟩ := at_T49 (Kd.R_reads' HO_8.out).2.2 x68_5 p131 q131
                                                  cases e131
                                                  replace p131 := eq_true p131
                                                  replace q131 := eq_true q131
                                                  have p134 : 0 ≤ (x47_3 : Int) := of_decide_eq_true (by first | (with_reducible assumption) | assumption)
                                                  have q134 : x47_3 < (l1.length : Int) := of_decide_eq_true (by first | (with_reducible assumption) | assumption)
                                                  obtain ⟨ad134, e134, hx134_0⟩ := Kd.at_int HR1.out x47_3 p134 q134
                                                  have hw134_0 := hx134_0
                                                  cases e134
                                                  replace hx134_0 := (HB.out.cell (World.block_lt_of_cell? w _ hx134_0)).trans hx134_0
                                                  replace p134 := eq_true p134
                                                  replace q134 := eq_true q134
                                                  refine start_ (n := 17) (S := fun w' => w'.cell? (ad131.add ((x68_5).toNat * 2)) = some (.int .i64 ((rd_T49 x8_5 x68_5).f0)) ∧ w'.cell? ⟨(ad131.add ((x68_5).toNat * 2)).block, (ad131.add ((x68_5).toNat * 2)).off + 1, none⟩ = some (.bool ((rd_T49 x8_5 x68_5).f1)) ∧ w'.cell? (ad134.add (x47_3).toNat) = some (.int .i64 (rd l1 x47_3))) (ds := [16]) #[false, false, false, false, false, false, false, false, false, false, false, false, false, false, false, false, false] (by kernel_rfl) rfl rfl ⟨hx131_0, hx131_1, ((HB.out.cell (World.block_lt_of_cell? w _ hw134_0)).trans hw134_0)⟩ (fun hHeld => ?_); refine with_tabW lin_Sum.tab18 lin_Sum.bits18 (fun HT_ HW_ => ?_)
                                                  generalize wr.drew = w59 at HO_8 BK117 BK126 BK128 HB hx131_0 hx131_1 hx134_0 hHeld ⊢
                                                  refine pure_ (i := 0) (N := some 73) (v := ?_) (a' := ?_) #[true, false, false, false, false, false, false, false, false, false, false, false, false, false, false, false, false] rfl rfl (any_of HT_.out (by kernel_rfl)) (fun _ _ _ h => h) (Or.inl ⟨by rfl, ?_⟩) ?_ ?_
                                                  rotate_left
                                                  · intro w'
                                                    go_simp
                                                    with_reducible rfl
                                                  rotate_left
                                                  · simp only [Act.put, List.setIfInBounds_toArray, List.set_cons_zero, List.set_cons_succ, i64_w, i32_w]
                                                    rfl
                                                  refine pure_ (i := 1) (N := some 74) (v := ?_) (a' := ?_) #[true, true, false, false, false, false, false, false, false, false, false, false, false, false, false, false, false] rfl rfl (any_of HT_.out (by kernel_rfl)) (fun _ _ _ h => h) (Or.inl ⟨by rfl, ?_⟩) ?_ ?_
                                                  rotate_left
                                                  · intro w'
                                                    go_simp
                                                    with_reducible rfl
                                                  rotate_left
                                                  · simp only [Act.put, List.setIfInBounds_toArray, List.set_cons_zero, List.set_cons_succ, i64_w, i32_w]
                                                    rfl
                                                  refine pure_ (i := 2) (N := some 75) (v := ?_) (a' := ?_) #[true, true, true, false, false, false, false, false, false, false, false, false, false, false, false, false, false] rfl rfl (any_of HT_.out (by kernel_rfl)) (fun _ _ _ h => h) (Or.inl ⟨by rfl, ?_⟩) ?_ ?_
                                                  rotate_left
                                                  · intro w'
                                                    go_simp
                                                    with_reducible rfl
                                                  rotate_left
                                                  · simp only [Act.put, List.setIfInBounds_toArray, List.set_cons_zero, List.set_cons_succ, i64_w, i32_w]
                                                    rfl
                                                  refine pure_ (i := 3) (N := some 76) (v := ?_) (a' := ?_) #[true, true, true, true, false, false, false, false, false, false, false, false, false, false, false, false, false] rfl rfl (any_of HT_.out (by kernel_rfl)) (fun _ _ _ h => h) (Or.inl ⟨by rfl, ?_⟩) ?_ ?_
                                                  rotate_left
                                                  · intro w'
                                                    go_simp
                                                    with_reducible rfl
                                                  rotate_left
                                                  · simp only [Act.put, List.setIfInBounds_toArray, List.set_cons_zero, List.set_cons_succ, i64_w, i32_w]
                                                    rfl
                                                  refine pure_ (i := 4) (N := some 77) (v := ?_) (a' := ?_) #[true, true, true, true, true, false, false, false, false, false, false, false, false, false, false, false, false] rfl rfl (any_of HT_.out (by kernel_rfl)) (fun _ _ _ h => h) (Or.inl ⟨by rfl, ?_⟩) ?_ ?_
                                                  rotate_left
                                                  · intro w'
                                                    go_simp
                                                    with_reducible rfl
                                                  rotate_left
                                                  · simp only [Act.put, List.setIfInBounds_toArray, List.set_cons_zero, List.set_cons_succ, i64_w, i32_w]
                                                    rfl
                                                  refine pure_ (i := 6) (N := some 79) (v := ?_) (a' := ?_) #[true, true, true, true, true, false, true, false, false, false, false, false, false, false, false, false, false] rfl rfl (any_of HT_.out (by kernel_rfl)) (fun _ _ _ h => h) (Or.inl ⟨by rfl, ?_⟩) ?_ ?_
                                                  rotate_left
                                                  · intro w'
                                                    go_simp
                                                    with_reducible rfl
                                                  rotate_left
                                                  · simp only [Act.put, List.setIfInBounds_toArray, List.set_cons_zero, List.set_cons_succ, i64_w, i32_w]
                                                    rfl
                                                  refine pure_ (i := 8) (N := some 81) (v := ?_) (a' := ?_) #[true, true, true, true, true, false, true, false, true, false, false, false, false, false, false, false, false] rfl rfl (any_of HT_.out (by kernel_rfl)) (fun _ _ _ h => h) (Or.inl ⟨by rfl, ?_⟩) ?_ ?_
                                                  rotate_left
                                                  · intro w'
                                                    go_simp
                                                    with_reducible rfl
                                                  rotate_left
                                                  · simp only [Act.put, List.setIfInBounds_toArray, List.set_cons_zero, List.set_cons_succ, i64_w, i32_w]
                                                    rfl
                                                  refine pure_ (i := 9) (N := some 82) (v := ?_) (a' := ?_) #[true, true, true, true, true, false, true, false, true, true, false, false, false, false, false, false, false] rfl rfl (any_of HT_.out (by kernel_rfl)) (fun _ _ _ h => h) (Or.inl ⟨by rfl, ?_⟩) ?_ ?_
                                                  rotate_left
                                                  · intro w'
                                                    go_simp
                                                    with_reducible rfl
                                                  rotate_left
                                                  · simp only [Act.put, List.setIfInBounds_toArray, List.set_cons_zero, List.set_cons_succ, i64_w, i32_w]
                                                    rfl
                                                  refine pure_ (i := 10) (N := some 83) (v := ?_) (a' := ?_) #[true, true, true, true, true, false, true, false, true, true, true, false, false, false, false, false, false] rfl rfl (any_of HT_.out (by kernel_rfl)) (fun _ _ _ h => h) (Or.inl ⟨by rfl, ?_⟩) ?_ ?_
                                                  rotate_left
                                                  · intro w'
                                                    go_simp
                                                    with_reducible rfl
                                                  rotate_left
                                                  · simp only [Act.put, List.setIfInBounds_toArray, List.set_cons_zero, List.set_cons_succ, i64_w, i32_w]
                                                    rfl
                                                  refine take_ (i := 5) (N := some 78) (v := ?_) (a' := ?_) #[true, true, true, true, true, true, true, false, true, true, true, false, false, false, false, false, false] rfl rfl (take_ofW HT_.out HW_.out (by kernel_rfl)) (fun _ _ _ h => h) (Or.inl ⟨by rfl, ?_⟩) hHeld ?_ ?_
                                                  rotate_left
                                                  · rintro w' ⟨s0, s1, s2⟩
                                                    go_simp
                                                    with_reducible rfl
                                                  rotate_left
                                                  · simp only [Act.put, List.setIfInBounds_toArray, List.set_cons_zero, List.set_cons_succ, i64_w, i32_w]
                                                    rfl
                                                  refine take_ (i := 11) (N := some 84) (v := ?_) (a' := ?_) #[true, true, true, true, true, true, true, false, true, true, true, true, false, false, false, false, false] rfl rfl (take_ofW HT_.out HW_.out (by kernel_rfl)) (fun _ _ _ h => h) (Or.inl ⟨by rfl, ?_⟩) hHeld ?_ ?_
                                                  rotate_left
                                                  · rintro w' ⟨s0, s1, s2⟩
                                                    go_simp
                                                    with_reducible rfl
                                                  rotate_left
                                                  · simp only [Act.put, List.setIfInBounds_toArray, List.set_cons_zero, List.set_cons_succ, i64_w, i32_w]
                                                    rfl
                                                  refine one_ (i := 7) (N := some 80) #[true, true, true, true, true, true, true, true, true, true, true, true, false, false, false, false, false] rfl rfl (one_of HT_.out (by kernel_rfl)) (by decide) (fun K hK => ?_)
                                                  refine goes_ Try.func18 (by kernel_rfl) rfl #[.int .i64 (rd ((rd_T27 l0 x47_3).f0) x68_5)] (by rfl) rfl rfl (by (try simp only [List.map_toArray, List.map_cons, List.map_nil]); first | done | rfl | (simp only [List.length_drop, List.length_take]; rfl)) ?_
                                                  with_reducible refine (lin_of.calls (rd ((rd_T27 l0 x47_3).f0) x68_5) t132 t133 _ A52.out).mono ?_
                                                  rintro e w60 ⟨rfl, hb⟩
                                                  have HS0_ := (hb.cell (World.block_lt_of_cell? _ _ (hHeld.1))).trans (hHeld.1)
                                                  have HS1_ := (hb.cell (World.block_lt_of_cell? _ _ (hHeld.2.1))).trans (hHeld.2.1)
                                                  refine ⟨_, rfl, ?_⟩
                                                  have n0_ := Aside0.mk (Kd.R_below (by (with_reducible repeat (first | apply Kd.R_alloc | apply Kd.R_drewN | apply Kd.R_drew)); exact HO_8.out) hb)
                                                  have n1_ := Aside0.mk (blk_below (g := gb117) (o := .cells #[.slice none 0 0, .int .i64 x118001_3] 27 (0, 0)) (by (with_reducible repeat (first | refine blk_drewN ?_ _ | refine blk_drew ?_ | refine blk_alloc ?_ _)); exact BK117.out) hb)
                                                  have n2_ := Aside0.mk (blk_below (g := gb126) (o := .cells #[.int .i64 x127000_5, .bool x127001_5] 49 (0, 0)) (by (with_reducible repeat (first | refine blk_drewN ?_ _ | refine blk_drew ?_ | refine blk_alloc ?_ _)); exact BK126.out) hb)
                                                  have n3_ := Aside0.mk (blk_below (g := gb128) (o := .cells #[.slice (some ad130) ((rd_T27 l0 x47_3).f0).length c127_0, .int .i64 ((rd_T27 l0 x47_3).f1)] 27 (0, 0)) (by (with_reducible repeat (first | refine blk_drewN ?_ _ | refine blk_drew ?_ | refine blk_alloc ?_ _)); exact BK128.out) hb)
                                                  have n4_ := Aside0.mk (below_step (by repeat (first | (with_reducible first | exact HB.out | apply below_alloc | apply pw_below_drewN | apply below_drew1 | refine below_set ?_ GE117.out | refine below_set ?_ GE126.out | refine below_set ?_ GE128.out) | exact HB.out)) hb)
                                                  clear HO_8
                                                  clear BK117
                                                  clear BK126
                                                  clear BK128
                                                  clear HB
                                                  have HO_8 := n0_
                                                  have BK117 := n1_
                                                  have BK126 := n2_
                                                  have BK128 := n3_
                                                  have HB := n4_
                                                  clear n0_ n1_ n2_ n3_ n4_
                                                  (try clear hb)
                                                  (try clear hb2)
                                                  (try clear hk)
                                                  (try clear hi)
                                                  refine hK.out _ _ ⟨HS0_, HS1_, ((HB.out.cell (World.block_lt_of_cell? w _ hw134_0)).trans hw134_0)⟩ (fun hHeld => ?_)
                                                  clear hK K
                                                  refine norm_ (a' := ?_) ?_ ?_
                                                  rotate_left
                                                  · show Act.put _ (some 80) _ = _
                                                    simp only [Act.put, List.setIfInBounds_toArray, List.set_cons_zero, List.set_cons_succ, i64_w, i32_w]
                                                    rfl
                                                  refine one_ (i := 12) (N := some 85) #[true, true, true, true, true, true, true, true, true, true, true, true, true, false, false, false, false] rfl rfl (one_of HT_.out (by kernel_rfl)) (by decide) (fun K hK => ?_)
                                                  refine goes_ Try.func18 (by kernel_rfl) rfl #[.int .i64 (rd l1 x47_3)] (by rfl) rfl rfl (by (try simp only [List.map_toArray, List.map_cons, List.map_nil]); first | done | rfl | (simp only [List.length_drop, List.length_take]; rfl)) ?_
                                                  with_reducible refine (lin_of.calls (rd l1 x47_3) t135 t136 _ A55.out).mono ?_
                                                  rintro e w61 ⟨rfl, hb⟩
                                                  have HS0_ := (hb.cell (World.block_lt_of_cell? _ _ (hHeld.1))).trans (hHeld.1)
                                                  have HS1_ := (hb.cell (World.block_lt_of_cell? _ _ (hHeld.2.1))).trans (hHeld.2.1)
                                                  refine ⟨_, rfl, ?_⟩
                                                  have n0_ := Aside0.mk (Kd.R_below (by (with_reducible repeat (first | apply Kd.R_alloc | apply Kd.R_drewN | apply Kd.R_drew)); exact HO_8.out) hb)
                                                  have n1_ := Aside0.mk (blk_below (g := gb117) (o := .cells #[.slice none 0 0, .int .i64 x118001_3] 27 (0, 0)) (by (with_reducible repeat (first | refine blk_drewN ?_ _ | refine blk_drew ?_ | refine blk_alloc ?_ _)); exact BK117.out) hb)
                                                  have n2_ := Aside0.mk (blk_below (g := gb126) (o := .cells #[.int .i64 x127000_5, .bool x127001_5] 49 (0, 0)) (by (with_reducible repeat (first | refine blk_drewN ?_ _ | refine blk_drew ?_ | refine blk_alloc ?_ _)); exact BK126.out) hb)
                                                  have n3_ := Aside0.mk (blk_below (g := gb128) (o := .cells #[.slice (some ad130) ((rd_T27 l0 x47_3).f0).length c127_0, .int .i64 ((rd_T27 l0 x47_3).f1)] 27 (0, 0)) (by (with_reducible repeat (first | refine blk_drewN ?_ _ | refine blk_drew ?_ | refine blk_alloc ?_ _)); exact BK128.out) hb)
                                                  have n4_ := Aside0.mk (below_step (by repeat (first | (with_reducible first | exact HB.out | apply below_alloc | apply pw_below_drewN | apply below_drew1 | refine below_set ?_ GE117.out | refine below_set ?_ GE126.out | refine below_set ?_ GE128.out) | exact HB.out)) hb)
                                                  clear HO_8
                                                  clear BK117
                                                  clear BK126
                                                  clear BK128
                                                  clear HB
                                                  have HO_8 := n0_
                                                  have BK117 := n1_
                                                  have BK126 := n2_
                                                  have BK128 := n3_
                                                  have HB := n4_
                                                  clear n0_ n1_ n2_ n3_ n4_
                                                  (try clear hb)
                                                  (try clear hb2)
                                                  (try clear hk)
                                                  (try clear hi)
                                                  refine hK.out _ _ ⟨HS0_, HS1_, ((HB.out.cell (World.block_lt_of_cell? w _ hw134_0)).trans hw134_0)⟩ (fun hHeld => ?_)
                                                  clear hK K
                                                  refine norm_ (a' := ?_) ?_ ?_
                                                  rotate_left
                                                  · show Act.put _ (some 85) _ = _
                                                    simp only [Act.put, List.setIfInBounds_toArray, List.set_cons_zero, List.set_cons_succ, i64_w, i32_w]
                                                    rfl
                                                  refine one_ (i := 13) (N := some 86) #[true, true, true, true, true, true, true, true, true, true, true, true, true, true, false, false, false] rfl rfl (one_of HT_.out (by kernel_rfl)) (by decide) (fun K hK => ?_)
                                                  refine goes_ Try.func20 (by kernel_rfl) rfl #[.agg #[.int .i64 t132, .bool t133], .agg #[.int .i64 t135, .bool t136]] (by rfl) rfl rfl (by (try simp only [List.map_toArray, List.map_cons, List.map_nil]); first | done | rfl | (simp only [List.length_drop, List.length_take]; rfl)) ?_
                                                  with_reducible refine (lin_sure_times.calls k5 t132 t133 t135 t136 t137 t138 _ A56.out).mono ?_
                                                  rintro e w62 ⟨rfl, hb⟩
                                                  have HS0_ := (hb.cell (World.block_lt_of_cell? _ _ (hHeld.1))).trans (hHeld.1)
                                                  have HS1_ := (hb.cell (World.block_lt_of_cell? _ _ (hHeld.2.1))).trans (hHeld.2.1)
                                                  refine ⟨_, rfl, ?_⟩
                                                  have n0_ := Aside0.mk (Kd.R_below (by (with_reducible repeat (first | apply Kd.R_alloc | apply Kd.R_drewN | apply Kd.R_drew)); exact HO_8.out) hb)
                                                  have n1_ := Aside0.mk (blk_below (g := gb117) (o := .cells #[.slice none 0 0, .int .i64 x118001_3] 27 (0, 0)) (by (with_reducible repeat (first | refine blk_drewN ?_ _ | refine blk_drew ?_ | refine blk_alloc ?_ _)); exact BK117.out) hb)
                                                  have n2_ := Aside0.mk (blk_below (g := gb126) (o := .cells #[.int .i64 x127000_5, .bool x127001_5] 49 (0, 0)) (by (with_reducible repeat (first | refine blk_drewN ?_ _ | refine blk_drew ?_ | refine blk_alloc ?_ _)); exact BK126.out) hb)
                                                  have n3_ := Aside0.mk (blk_below (g := gb128) (o := .cells #[.slice (some ad130) ((rd_T27 l0 x47_3).f0).length c127_0, .int .i64 ((rd_T27 l0 x47_3).f1)] 27 (0, 0)) (by (with_reducible repeat (first | refine blk_drewN ?_ _ | refine blk_drew ?_ | refine blk_alloc ?_ _)); exact BK128.out) hb)
                                                  have n4_ := Aside0.mk (below_step (by repeat (first | (with_reducible first | exact HB.out | apply below_alloc | apply pw_below_drewN | apply below_drew1 | refine below_set ?_ GE117.out | refine below_set ?_ GE126.out | refine below_set ?_ GE128.out) | exact HB.out)) hb)
                                                  clear HO_8
                                                  clear BK117
                                                  clear BK126
                                                  clear BK128
                                                  clear HB
                                                  have HO_8 := n0_
                                                  have BK117 := n1_
                                                  have BK126 := n2_
                                                  have BK128 := n3_
                                                  have HB := n4_
                                                  clear n0_ n1_ n2_ n3_ n4_
                                                  (try clear hb)
                                                  (try clear hb2)
                                                  (try clear hk)
                                                  (try clear hi)
                                                  refine hK.out _ _ ⟨HS0_, HS1_, ((HB.out.cell (World.block_lt_of_cell? w _ hw134_0)).trans hw134_0)⟩ (fun hHeld => ?_)
                                                  clear hK K
                                                  refine norm_ (a' := ?_) ?_ ?_
                                                  rotate_left
                                                  · show Act.put _ (some 86) _ = _
                                                    simp only [Act.put, List.setIfInBounds_toArray, List.set_cons_zero, List.set_cons_succ, i64_w, i32_w]
                                                    rfl
                                                  refine one_ (i := 14) (N := some 87) #[true, true, true, true, true, true, true, true, true, true, true, true, true, true, true, false, false] rfl rfl (one_of HT_.out (by kernel_rfl)) (by decide) (fun K hK => ?_)
                                                  refine goes_ Try.func19 (by kernel_rfl) rfl #[.agg #[.int .i64 ((rd_T49 x8_5 x68_5).f0), .bool ((rd_T49 x8_5 x68_5).f1)], .agg #[.int .i64 t137, .bool t138]] (by rfl) rfl rfl (by (try simp only [List.map_toArray, List.map_cons, List.map_nil]); first | done | rfl | (simp only [List.length_drop, List.length_take]; rfl)) ?_
                                                  with_reducible refine (lin_sure_plus.calls ((rd_T49 x8_5 x68_5).f0) ((rd_T49 x8_5 x68_5).f1) t137 t138 t139 t140 _ A57.out).mono ?_
                                                  rintro e w63 ⟨rfl, hb⟩
                                                  have HS0_ := (hb.cell (World.block_lt_of_cell? _ _ (hHeld.1))).trans (hHeld.1)
                                                  have HS1_ := (hb.cell (World.block_lt_of_cell? _ _ (hHeld.2.1))).trans (hHeld.2.1)
                                                  refine ⟨_, rfl, ?_⟩
                                                  have n0_ := Aside0.mk (Kd.R_below (by (with_reducible repeat (first | apply Kd.R_alloc | apply Kd.R_drewN | apply Kd.R_drew)); exact HO_8.out) hb)
                                                  have n1_ := Aside0.mk (blk_below (g := gb117) (o := .cells #[.slice none 0 0, .int .i64 x118001_3] 27 (0, 0)) (by (with_reducible repeat (first | refine blk_drewN ?_ _ | refine blk_drew ?_ | refine blk_alloc ?_ _)); exact BK117.out) hb)
                                                  have n2_ := Aside0.mk (blk_below (g := gb126) (o := .cells #[.int .i64 x127000_5, .bool x127001_5] 49 (0, 0)) (by (with_reducible repeat (first | refine blk_drewN ?_ _ | refine blk_drew ?_ | refine blk_alloc ?_ _)); exact BK126.out) hb)
                                                  have n3_ := Aside0.mk (blk_below (g := gb128) (o := .cells #[.slice (some ad130) ((rd_T27 l0 x47_3).f0).length c127_0, .int .i64 ((rd_T27 l0 x47_3).f1)] 27 (0, 0)) (by (with_reducible repeat (first | refine blk_drewN ?_ _ | refine blk_drew ?_ | refine blk_alloc ?_ _)); exact BK128.out) hb)
                                                  have n4_ := Aside0.mk (below_step (by repeat (first | (with_reducible first | exact HB.out | apply below_alloc | apply pw_below_drewN | apply below_drew1 | refine below_set ?_ GE117.out | refine below_set ?_ GE126.out | refine below_set ?_ GE128.out) | exact HB.out)) hb)
                                                  clear HO_8
                                                  clear BK117
                                                  clear BK126
                                                  clear BK128
                                                  clear HB
                                                  have HO_8 := n0_
                                                  have BK117 := n1_
                                                  have BK126 := n2_
                                                  have BK128 := n3_
                                                  have HB := n4_
                                                  clear n0_ n1_ n2_ n3_ n4_
                                                  (try clear hb)
                                                  (try clear hb2)
                                                  (try clear hk)
                                                  (try clear hi)
                                                  have p58 : 0 ≤ (x68_5 : Int) := of_decide_eq_true (by first | (with_reducible assumption) | assumption)
                                                  have q58 : (x68_5 : Int) < ((x8_5.length : Int) : Int) := of_decide_eq_true (by first | (with_reducible assumption) | assumption)
                                                  obtain ⟨go58, co58, eo58, gb58, gl58, cl58, HG58⟩ := Kd.R_form HO_8.out (by omega)
                                                  (first | cases eo58 | (injection eo58 with ea_ en_ ec_; (first | subst ea_ | (injection ea_ with ea_; subst ea_)); subst ec_; clear en_))
                                                  have GB58 := Aside0.mk gb58
                                                  have GG58 := Aside0.mk HG58
                                                  clear gb58 gl58 HG58
                                                  (first | simp only [add_plain] at hx131_0 | skip)
                                                  (first | simp only [add_plain] at hx131_1 | skip)
                                                  obtain ⟨ce58, hcl58, hM58, hcc58, hfr58⟩ := Kd.R_elem HO_8.out z49 (x68_5 : Int) p58 q58
                                                  obtain rfl := k49_openM hM58
                                                  have hx58_0 : World.cell? _ ⟨go58, (x68_5 : Int).toNat * 2, none⟩ = some (.int .i64 ((rd_T49 x8_5 x68_5).f0)) := hcc58 0 _ rfl
                                                  have hx58_1 : World.cell? _ ⟨go58, (x68_5 : Int).toNat * 2 + 1, none⟩ = some (.bool ((rd_T49 x8_5 x68_5).f1)) := hcc58 1 _ rfl
                                                  have hf58_0 : World.frozen? _ ⟨go58, (x68_5 : Int).toNat * 2, none⟩ = false := hfr58 0
                                                  have hf58_1 : World.frozen? _ ⟨go58, (x68_5 : Int).toNat * 2 + 1, none⟩ = false := hfr58 1
                                                  clear hcl58 hcc58 hfr58 hM58
                                                  replace p58 := eq_true p58
                                                  replace q58 := eq_true q58
                                                  obtain ⟨ce64, hcl64, hM64, hcc64, hfr64⟩ := Kd.R_elem HO_8.out z49 (x68_5 : Int) (of_decide_eq_true (by first | (with_reducible assumption) | assumption)) (by have h_ : (x68_5 : Int) < ((x8_5.length : Int) : Int) := of_decide_eq_true (by first | (with_reducible assumption) | assumption); first | exact h_ | (have e_ := (Kd.R_reads' HO_8.out).1; omega) | simpa using h_)
                                                  obtain rfl := k49_openM hM64
                                                  have HP64 := (Kd.R_seg HO_8.out (x68_5 : Int) (of_decide_eq_true (by first | (with_reducible assumption) | assumption)) (by have h_ : (x68_5 : Int) < ((x8_5.length : Int) : Int) := of_decide_eq_true (by first | (with_reducible assumption) | assumption); first | exact h_ | (have e_ := (Kd.R_reads' HO_8.out).1; omega) | simpa using h_) (seg := [.int .i64 t139, .bool t140]) (j := 0) hcl64 hcc64 (show 2 ≤ 2 from by decide) (x' := (⟨t139, t140⟩ : S49)) (k49_mkM _ _ _ (⟨t139, t140⟩ : S49) ) (fun _ hk => hk)).1
                                                  rw [← Ny141.out] at HP64
                                                  have HQ64 := Aside0.mk HP64
                                                  clear hcl64 hcc64 hfr64 hM64 HP64
                                                  refine hK.out _ _ ⟨HS0_, HS1_, ((HB.out.cell (World.block_lt_of_cell? w _ hw134_0)).trans hw134_0)⟩ (fun hHeld => ?_)
                                                  clear hK K
                                                  refine norm_ (a' := ?_) ?_ ?_
                                                  rotate_left
                                                  · show Act.put _ (some 87) _ = _
                                                    simp only [Act.put, List.setIfInBounds_toArray, List.set_cons_zero, List.set_cons_succ, i64_w, i32_w]
                                                    rfl
                                                  refine pure_ (i := 15) (N := some 88) (v := ?_) (a' := ?_) #[true, true, true, true, true, true, true, true, true, true, true, true, true, true, true, true, false] rfl rfl (any_of HT_.out (by kernel_rfl)) (fun _ _ _ h => h) (Or.inl ⟨by rfl, ?_⟩) ?_ ?_
                                                  rotate_left
                                                  · intro w'
                                                    go_simp
                                                    with_reducible rfl
                                                  rotate_left
                                                  · simp only [Act.put, List.setIfInBounds_toArray, List.set_cons_zero, List.set_cons_succ, i64_w, i32_w]
                                                    rfl
                                                  refine last_ (i := 16) (N := none) #[true, true, true, true, true, true, true, true, true, true, true, true, true, true, true, true, true] rfl rfl (one_of HT_.out (by kernel_rfl)) (by decide) (fun K hK => ?_)
                                                  refine skip_ (w1 := ?_) (by rfl) rfl ?_ ?_
                                                  rotate_left
                                                  · go_simp
                                                    rfl
                                                  refine hK.out _ _ ?_
                                                  clear hK K
                                                  refine done_ (done_of HT_.out (by kernel_rfl)) ?_
                                                  try go_wp2
                                                  (try simp only [← hl8_5])
                                                  go_roundg k5
                                                  case measure => have := HJ3.out; have := HK2.out; have := HK3.out; have := HJ30.out; have := HK5.out; omega
                                                  case rel => exact ⟨(y141), (wrap64 (x68_5 + 1)), (x127000_5), (x127001_5), (by first | rfl | (simp; done) | (simp [*]; done)), H', ⟨by have := HJ3.out; have := HK2.out; have := HK3.out; have := HJ30.out; have := HK5.out; omega⟩, ⟨by (try simp only [hl8_2]); (try simp only [hl8_3]); (try simp only [hl8_5]); (with_reducible repeat (first | apply Kd.R_alloc | apply Kd.R_drewN | apply Kd.R_drew)); exact HQ64.out⟩, ⟨by (try simp only [hl8_2]); (try simp only [hl8_3]); (try simp only [hl8_5]); (with_reducible repeat (first | refine blk_drewN ?_ _ | refine blk_drew ?_ | refine blk_alloc ?_ _)); refine blk_far ?_ (by have h_ := Kd.R_ne HO_8.out BK117.out (by decide); intro e_; exact h_ (by rw [e_]; rfl)) _; (with_reducible repeat (first | refine blk_drewN ?_ _ | refine blk_drew ?_ | refine blk_alloc ?_ _)); refine blk_far ?_ (by have h_ := Kd.R_ne HO_8.out BK117.out (by decide); intro e_; exact h_ (by rw [e_]; rfl)) _; (with_reducible repeat (first | refine blk_drewN ?_ _ | refine blk_drew ?_ | refine blk_alloc ?_ _)); exact BK117.out⟩, ⟨by (try simp only [hl8_2]); (try simp only [hl8_3]); (try simp only [hl8_5]); (with_reducible repeat (first | refine blk_drewN ?_ _ | refine blk_drew ?_ | refine blk_alloc ?_ _)); refine blk_far ?_ (by have h_ := Kd.R_away HO_8.out (fun _ hk => hk); intro e_; exact h_ (by rw [e_]; rfl)) _; (with_reducible repeat (first | refine blk_drewN ?_ _ | refine blk_drew ?_ | refine blk_alloc ?_ _)); refine blk_far ?_ (by have h_ := Kd.R_away HO_8.out (fun _ hk => hk); intro e_; exact h_ (by rw [e_]; rfl)) _; (with_reducible repeat (first | refine blk_drewN ?_ _ | refine blk_drew ?_ | refine blk_alloc ?_ _)); exact BK126.out⟩, ⟨by (try simp only [hl8_2]); (try simp only [hl8_3]); (try simp only [hl8_5]); (with_reducible repeat (first | refine blk_drewN ?_ _ | refine blk_drew ?_ | refine blk_alloc ?_ _)); refine blk_far ?_ (by have h_ := Kd.R_ne HO_8.out BK128.out (by decide); intro e_; exact h_ (by rw [e_]; rfl)) _; (with_reducible repeat (first | refine blk_drewN ?_ _ | refine blk_drew ?_ | refine blk_alloc ?_ _)); refine blk_far ?_ (by have h_ := Kd.R_ne HO_8.out BK128.out (by decide); intro e_; exact h_ (by rw [e_]; rfl)) _; (with_reducible repeat (first | refine blk_drewN ?_ _ | refine blk_drew ?_ | refine blk_alloc ?_ _)); exact BK128.out⟩, ⟨by repeat (first | (with_reducible first | exact HB.out | apply below_alloc | apply pw_below_drewN | apply below_drew1 | refine below_set ?_ GB58.out | refine below_set ?_ GB58.out | refine below_set ?_ GE117.out | refine below_set ?_ GE126.out | refine below_set ?_ GE128.out) | exact HB.out)⟩⟩
                                                · rw [if_neg c54] at H
                                                  exact absurd H (by simp)
                                              · rw [if_neg c53] at H
                                                exact absurd H (by simp)
                                            · rw [if_neg c51] at H
                                              exact absurd H (by simp)
                                          · rw [if_neg c50] at H
                                            exact absurd H (by simp)
                                        · rw [if_neg c49] at H
                                          exact absurd H (by simp)
                                      · rw [if_neg c48] at H
                                        have c48b0 : decide (x68_5 < (((rd_T27 l0 x47_3).f0).length : Int)) = false := decide_eq_false c48
                                        clear c48
                                        replace H := Option.bind_eq_some_iff.mp H
                                        obtain ⟨⟨t142, t143⟩, A650, H⟩ := H
                                        replace H : (if 0 ≤ x47_3 then (if x47_3 < (l1.length : Int) then ((lin_of.f (rd l1 x47_3)).bind fun bt145 => ((lin_sure_times.f k5 t142 t143 bt145.1 bt145.2).bind fun bt147 => ((lin_sure_plus.f x127000_5 x127001_5 bt147.1 bt147.2).bind fun bt149 => (lin_Sum.l1 k5 l1 a2 x8_5 l0 (l0.length : Int) (wrap64 (x47_3 + 1)) bt149.1 bt149.2)))) else (none)) else (none)) = some (r1, r2, r3) := H
                                        have A65 := Aside0.mk A650
                                        clear A650
                                        by_cases c66 : 0 ≤ x47_3
                                        · rw [if_pos c66] at H
                                          have c66b0 : decide (0 ≤ x47_3) = true := decide_eq_true c66
                                          clear c66
                                          by_cases c67 : x47_3 < (l1.length : Int)
                                          · rw [if_pos c67] at H
                                            have c67b0 : decide (x47_3 < (l1.length : Int)) = true := decide_eq_true c67
                                            clear c67
                                            replace H := Option.bind_eq_some_iff.mp H
                                            obtain ⟨⟨t145, t146⟩, A680, H⟩ := H
                                            replace H : ((lin_sure_times.f k5 t142 t143 t145 t146).bind fun bt147 => ((lin_sure_plus.f x127000_5 x127001_5 bt147.1 bt147.2).bind fun bt149 => (lin_Sum.l1 k5 l1 a2 x8_5 l0 (l0.length : Int) (wrap64 (x47_3 + 1)) bt149.1 bt149.2))) = some (r1, r2, r3) := H
                                            have A68 := Aside0.mk A680
                                            clear A680
                                            replace H := Option.bind_eq_some_iff.mp H
                                            obtain ⟨⟨t147, t148⟩, A690, H⟩ := H
                                            replace H : ((lin_sure_plus.f x127000_5 x127001_5 t147 t148).bind fun bt149 => (lin_Sum.l1 k5 l1 a2 x8_5 l0 (l0.length : Int) (wrap64 (x47_3 + 1)) bt149.1 bt149.2)) = some (r1, r2, r3) := H
                                            have A69 := Aside0.mk A690
                                            clear A690
                                            replace H := Option.bind_eq_some_iff.mp H
                                            obtain ⟨⟨t149, t150⟩, A700, H⟩ := H
                                            replace H : (lin_Sum.l1 k5 l1 a2 x8_5 l0 (l0.length : Int) (wrap64 (x47_3 + 1)) t149 t150) = some (r1, r2, r3) := H
                                            have A70 := Aside0.mk A700
                                            clear A700
                                            have H' := Aside0.mk H
                                            clear H
                                            try go_wp2
                                            have n0_ := Aside0.mk (Kd.R_drew HO_8.out)
                                            have n1_ := Aside0.mk (blk_drew BK117.out)
                                            have n2_ := Aside0.mk (blk_drew BK126.out)
                                            have n3_ := Aside0.mk (blk_drew BK128.out)
                                            have n4_ := Aside0.mk (below_drew1 HB.out)
                                            clear HO_8
                                            clear BK117
                                            clear BK126
                                            clear BK128
                                            clear HB
                                            have HO_8 := n0_
                                            have BK117 := n1_
                                            have BK126 := n2_
                                            have BK128 := n3_
                                            have HB := n4_
                                            clear n0_ n1_ n2_ n3_ n4_
                                            have p144 : 0 ≤ (x47_3 : Int) := of_decide_eq_true (by first | (with_reducible assumption) | assumption)
                                            have q144 : x47_3 < (l1.length : Int) := of_decide_eq_true (by first | (with_reducible assumption) | assumption)
                                            obtain ⟨ad144, e144, hx144_0⟩ := Kd.at_int HR1.out x47_3 p144 q144
                                            have hw144_0 := hx144_0
                                            cases e144
                                            replace hx144_0 := (HB.out.cell (World.block_lt_of_cell? w _ hx144_0)).trans hx144_0
                                            replace p144 := eq_true p144
                                            replace q144 := eq_true q144
                                            refine start_ (n := 12) (S := fun w' => w'.cell? ⟨gb126, 0, none⟩ = some (.int .i64 x127000_5) ∧ w'.cell? ⟨gb126, 1, none⟩ = some (.bool x127001_5) ∧ w'.cell? ⟨gb128, 0, none⟩ = some (.slice A127_0 ((rd_T27 l0 x47_3).f0).length c127_0) ∧ w'.cell? ⟨gb128, 1, none⟩ = some (.int .i64 ((rd_T27 l0 x47_3).f1)) ∧ w'.cell? (ad144.add (x47_3).toNat) = some (.int .i64 (rd l1 x47_3))) (ds := [11]) #[false, false, false, false, false, false, false, false, false, false, false, false] (by kernel_rfl) rfl rfl ⟨(blk_cell BK126.out 0).trans rfl, (blk_cell BK126.out 1).trans rfl, (blk_cell BK128.out 0).trans rfl, (blk_cell BK128.out 1).trans rfl, ((HB.out.cell (World.block_lt_of_cell? w _ hw144_0)).trans hw144_0)⟩ (fun hHeld => ?_); refine with_tabW lin_Sum.tab20 lin_Sum.bits20 (fun HT_ HW_ => ?_)
                                            generalize wr.drew = w71 at HO_8 BK117 BK126 BK128 HB hx144_0 hHeld ⊢
                                            refine pure_ (i := 1) (N := some 91) (v := ?_) (a' := ?_) #[false, true, false, false, false, false, false, false, false, false, false, false] rfl rfl (any_of HT_.out (by kernel_rfl)) (fun _ _ _ h => h) (Or.inl ⟨by rfl, ?_⟩) ?_ ?_
                                            rotate_left
                                            · intro w'
                                              go_simp
                                              with_reducible rfl
                                            rotate_left
                                            · simp only [Act.put, List.setIfInBounds_toArray, List.set_cons_zero, List.set_cons_succ, i64_w, i32_w]
                                              rfl
                                            refine pure_ (i := 4) (N := some 94) (v := ?_) (a' := ?_) #[false, true, false, false, true, false, false, false, false, false, false, false] rfl rfl (any_of HT_.out (by kernel_rfl)) (fun _ _ _ h => h) (Or.inl ⟨by rfl, ?_⟩) ?_ ?_
                                            rotate_left
                                            · intro w'
                                              go_simp
                                              with_reducible rfl
                                            rotate_left
                                            · simp only [Act.put, List.setIfInBounds_toArray, List.set_cons_zero, List.set_cons_succ, i64_w, i32_w]
                                              rfl
                                            refine pure_ (i := 5) (N := some 95) (v := ?_) (a' := ?_) #[false, true, false, false, true, true, false, false, false, false, false, false] rfl rfl (any_of HT_.out (by kernel_rfl)) (fun _ _ _ h => h) (Or.inl ⟨by rfl, ?_⟩) ?_ ?_
                                            rotate_left
                                            · intro w'
                                              go_simp
                                              with_reducible rfl
                                            rotate_left
                                            · simp only [Act.put, List.setIfInBounds_toArray, List.set_cons_zero, List.set_cons_succ, i64_w, i32_w]
                                              rfl
                                            refine pure_ (i := 6) (N := some 96) (v := ?_) (a' := ?_) #[false, true, false, false, true, true, true, false, false, false, false, false] rfl rfl (any_of HT_.out (by kernel_rfl)) (fun _ _ _ h => h) (Or.inl ⟨by rfl, ?_⟩) ?_ ?_
                                            rotate_left
                                            · intro w'
                                              go_simp
                                              with_reducible rfl
                                            rotate_left
                                            · simp only [Act.put, List.setIfInBounds_toArray, List.set_cons_zero, List.set_cons_succ, i64_w, i32_w]
                                              rfl
                                            refine take_ (i := 0) (N := some 90) (v := ?_) (a' := ?_) #[true, true, false, false, true, true, true, false, false, false, false, false] rfl rfl (take_ofW HT_.out HW_.out (by kernel_rfl)) (fun _ _ _ h => h) (Or.inl ⟨by rfl, ?_⟩) hHeld ?_ ?_
                                            rotate_left
                                            · rintro w' ⟨s0, s1, s2, s3, s4⟩
                                              go_simp
                                              with_reducible rfl
                                            rotate_left
                                            · simp only [Act.put, List.setIfInBounds_toArray, List.set_cons_zero, List.set_cons_succ, i64_w, i32_w]
                                              rfl
                                            refine take_ (i := 2) (N := some 92) (v := ?_) (a' := ?_) #[true, true, true, false, true, true, true, false, false, false, false, false] rfl rfl (take_ofW HT_.out HW_.out (by kernel_rfl)) (fun _ _ _ h => h) (Or.inl ⟨by rfl, ?_⟩) hHeld ?_ ?_
                                            rotate_left
                                            · rintro w' ⟨s0, s1, s2, s3, s4⟩
                                              go_simp
                                              with_reducible rfl
                                            rotate_left
                                            · simp only [Act.put, List.setIfInBounds_toArray, List.set_cons_zero, List.set_cons_succ, i64_w, i32_w]
                                              rfl
                                            refine take_ (i := 7) (N := some 97) (v := ?_) (a' := ?_) #[true, true, true, false, true, true, true, true, false, false, false, false] rfl rfl (take_ofW HT_.out HW_.out (by kernel_rfl)) (fun _ _ _ h => h) (Or.inl ⟨by rfl, ?_⟩) hHeld ?_ ?_
                                            rotate_left
                                            · rintro w' ⟨s0, s1, s2, s3, s4⟩
                                              go_simp
                                              with_reducible rfl
                                            rotate_left
                                            · simp only [Act.put, List.setIfInBounds_toArray, List.set_cons_zero, List.set_cons_succ, i64_w, i32_w]
                                              rfl
                                            refine one_ (i := 3) (N := some 93) #[true, true, true, true, true, true, true, true, false, false, false, false] rfl rfl (one_of HT_.out (by kernel_rfl)) (by decide) (fun K hK => ?_)
                                            refine goes_ Try.func18 (by kernel_rfl) rfl #[.int .i64 ((rd_T27 l0 x47_3).f1)] (by rfl) rfl rfl (by (try simp only [List.map_toArray, List.map_cons, List.map_nil]); first | done | rfl | (simp only [List.length_drop, List.length_take]; rfl)) ?_
                                            with_reducible refine (lin_of.calls ((rd_T27 l0 x47_3).f1) t142 t143 _ A65.out).mono ?_
                                            rintro e w72 ⟨rfl, hb⟩
                                            refine ⟨_, rfl, ?_⟩
                                            have n0_ := Aside0.mk (Kd.R_below (by (with_reducible repeat (first | apply Kd.R_alloc | apply Kd.R_drewN | apply Kd.R_drew)); exact HO_8.out) hb)
                                            have n1_ := Aside0.mk (blk_below (g := gb117) (o := .cells #[.slice none 0 0, .int .i64 x118001_3] 27 (0, 0)) (by (with_reducible repeat (first | refine blk_drewN ?_ _ | refine blk_drew ?_ | refine blk_alloc ?_ _)); exact BK117.out) hb)
                                            have n2_ := Aside0.mk (blk_below (g := gb126) (o := .cells #[.int .i64 x127000_5, .bool x127001_5] 49 (0, 0)) (by (with_reducible repeat (first | refine blk_drewN ?_ _ | refine blk_drew ?_ | refine blk_alloc ?_ _)); exact BK126.out) hb)
                                            have n3_ := Aside0.mk (blk_below (g := gb128) (o := .cells #[.slice A127_0 ((rd_T27 l0 x47_3).f0).length c127_0, .int .i64 ((rd_T27 l0 x47_3).f1)] 27 (0, 0)) (by (with_reducible repeat (first | refine blk_drewN ?_ _ | refine blk_drew ?_ | refine blk_alloc ?_ _)); exact BK128.out) hb)
                                            have n4_ := Aside0.mk (below_step (by repeat (first | (with_reducible first | exact HB.out | apply below_alloc | apply pw_below_drewN | apply below_drew1 | refine below_set ?_ GE117.out | refine below_set ?_ GE126.out | refine below_set ?_ GE128.out) | exact HB.out)) hb)
                                            clear HO_8
                                            clear BK117
                                            clear BK126
                                            clear BK128
                                            clear HB
                                            have HO_8 := n0_
                                            have BK117 := n1_
                                            have BK126 := n2_
                                            have BK128 := n3_
                                            have HB := n4_
                                            clear n0_ n1_ n2_ n3_ n4_
                                            (try clear hb)
                                            (try clear hb2)
                                            (try clear hk)
                                            (try clear hi)
                                            refine hK.out _ _ ⟨(blk_cell BK126.out 0).trans rfl, (blk_cell BK126.out 1).trans rfl, (blk_cell BK128.out 0).trans rfl, (blk_cell BK128.out 1).trans rfl, ((HB.out.cell (World.block_lt_of_cell? w _ hw144_0)).trans hw144_0)⟩ (fun hHeld => ?_)
                                            clear hK K
                                            refine norm_ (a' := ?_) ?_ ?_
                                            rotate_left
                                            · show Act.put _ (some 93) _ = _
                                              simp only [Act.put, List.setIfInBounds_toArray, List.set_cons_zero, List.set_cons_succ, i64_w, i32_w]
                                              rfl
                                            refine one_ (i := 8) (N := some 98) #[true, true, true, true, true, true, true, true, true, false, false, false] rfl rfl (one_of HT_.out (by kernel_rfl)) (by decide) (fun K hK => ?_)
                                            refine goes_ Try.func18 (by kernel_rfl) rfl #[.int .i64 (rd l1 x47_3)] (by rfl) rfl rfl (by (try simp only [List.map_toArray, List.map_cons, List.map_nil]); first | done | rfl | (simp only [List.length_drop, List.length_take]; rfl)) ?_
                                            with_reducible refine (lin_of.calls (rd l1 x47_3) t145 t146 _ A68.out).mono ?_
                                            rintro e w73 ⟨rfl, hb⟩
                                            refine ⟨_, rfl, ?_⟩
                                            have n0_ := Aside0.mk (Kd.R_below (by (with_reducible repeat (first | apply Kd.R_alloc | apply Kd.R_drewN | apply Kd.R_drew)); exact HO_8.out) hb)
                                            have n1_ := Aside0.mk (blk_below (g := gb117) (o := .cells #[.slice none 0 0, .int .i64 x118001_3] 27 (0, 0)) (by (with_reducible repeat (first | refine blk_drewN ?_ _ | refine blk_drew ?_ | refine blk_alloc ?_ _)); exact BK117.out) hb)
                                            have n2_ := Aside0.mk (blk_below (g := gb126) (o := .cells #[.int .i64 x127000_5, .bool x127001_5] 49 (0, 0)) (by (with_reducible repeat (first | refine blk_drewN ?_ _ | refine blk_drew ?_ | refine blk_alloc ?_ _)); exact BK126.out) hb)
                                            have n3_ := Aside0.mk (blk_below (g := gb128) (o := .cells #[.slice A127_0 ((rd_T27 l0 x47_3).f0).length c127_0, .int .i64 ((rd_T27 l0 x47_3).f1)] 27 (0, 0)) (by (with_reducible repeat (first | refine blk_drewN ?_ _ | refine blk_drew ?_ | refine blk_alloc ?_ _)); exact BK128.out) hb)
                                            have n4_ := Aside0.mk (below_step (by repeat (first | (with_reducible first | exact HB.out | apply below_alloc | apply pw_below_drewN | apply below_drew1 | refine below_set ?_ GE117.out | refine below_set ?_ GE126.out | refine below_set ?_ GE128.out) | exact HB.out)) hb)
                                            clear HO_8
                                            clear BK117
                                            clear BK126
                                            clear BK128
                                            clear HB
                                            have HO_8 := n0_
                                            have BK117 := n1_
                                            have BK126 := n2_
                                            have BK128 := n3_
                                            have HB := n4_
                                            clear n0_ n1_ n2_ n3_ n4_
                                            (try clear hb)
                                            (try clear hb2)
                                            (try clear hk)
                                            (try clear hi)
                                            refine hK.out _ _ ⟨(blk_cell BK126.out 0).trans rfl, (blk_cell BK126.out 1).trans rfl, (blk_cell BK128.out 0).trans rfl, (blk_cell BK128.out 1).trans rfl, ((HB.out.cell (World.block_lt_of_cell? w _ hw144_0)).trans hw144_0)⟩ (fun hHeld => ?_)
                                            clear hK K
                                            refine norm_ (a' := ?_) ?_ ?_
                                            rotate_left
                                            · show Act.put _ (some 98) _ = _
                                              simp only [Act.put, List.setIfInBounds_toArray, List.set_cons_zero, List.set_cons_succ, i64_w, i32_w]
                                              rfl
                                            refine one_ (i := 9) (N := some 99) #[true, true, true, true, true, true, true, true, true, true, false, false] rfl rfl (one_of HT_.out (by kernel_rfl)) (by decide) (fun K hK => ?_)
                                            refine goes_ Try.func20 (by kernel_rfl) rfl #[.agg #[.int .i64 t142, .bool t143], .agg #[.int .i64 t145, .bool t146]] (by rfl) rfl rfl (by (try simp only [List.map_toArray, List.map_cons, List.map_nil]); first | done | rfl | (simp only [List.length_drop, List.length_take]; rfl)) ?_
                                            with_reducible refine (lin_sure_times.calls k5 t142 t143 t145 t146 t147 t148 _ A69.out).mono ?_
                                            rintro e w74 ⟨rfl, hb⟩
                                            refine ⟨_, rfl, ?_⟩
                                            have n0_ := Aside0.mk (Kd.R_below (by (with_reducible repeat (first | apply Kd.R_alloc | apply Kd.R_drewN | apply Kd.R_drew)); exact HO_8.out) hb)
                                            have n1_ := Aside0.mk (blk_below (g := gb117) (o := .cells #[.slice none 0 0, .int .i64 x118001_3] 27 (0, 0)) (by (with_reducible repeat (first | refine blk_drewN ?_ _ | refine blk_drew ?_ | refine blk_alloc ?_ _)); exact BK117.out) hb)
                                            have n2_ := Aside0.mk (blk_below (g := gb126) (o := .cells #[.int .i64 x127000_5, .bool x127001_5] 49 (0, 0)) (by (with_reducible repeat (first | refine blk_drewN ?_ _ | refine blk_drew ?_ | refine blk_alloc ?_ _)); exact BK126.out) hb)
                                            have n3_ := Aside0.mk (blk_below (g := gb128) (o := .cells #[.slice A127_0 ((rd_T27 l0 x47_3).f0).length c127_0, .int .i64 ((rd_T27 l0 x47_3).f1)] 27 (0, 0)) (by (with_reducible repeat (first | refine blk_drewN ?_ _ | refine blk_drew ?_ | refine blk_alloc ?_ _)); exact BK128.out) hb)
                                            have n4_ := Aside0.mk (below_step (by repeat (first | (with_reducible first | exact HB.out | apply below_alloc | apply pw_below_drewN | apply below_drew1 | refine below_set ?_ GE117.out | refine below_set ?_ GE126.out | refine below_set ?_ GE128.out) | exact HB.out)) hb)
                                            clear HO_8
                                            clear BK117
                                            clear BK126
                                            clear BK128
                                            clear HB
                                            have HO_8 := n0_
                                            have BK117 := n1_
                                            have BK126 := n2_
                                            have BK128 := n3_
                                            have HB := n4_
                                            clear n0_ n1_ n2_ n3_ n4_
                                            (try clear hb)
                                            (try clear hb2)
                                            (try clear hk)
                                            (try clear hi)
                                            refine hK.out _ _ ⟨(blk_cell BK126.out 0).trans rfl, (blk_cell BK126.out 1).trans rfl, (blk_cell BK128.out 0).trans rfl, (blk_cell BK128.out 1).trans rfl, ((HB.out.cell (World.block_lt_of_cell? w _ hw144_0)).trans hw144_0)⟩ (fun hHeld => ?_)
                                            clear hK K
                                            refine norm_ (a' := ?_) ?_ ?_
                                            rotate_left
                                            · show Act.put _ (some 99) _ = _
                                              simp only [Act.put, List.setIfInBounds_toArray, List.set_cons_zero, List.set_cons_succ, i64_w, i32_w]
                                              rfl
                                            refine one_ (i := 10) (N := some 100) #[true, true, true, true, true, true, true, true, true, true, true, false] rfl rfl (one_of HT_.out (by kernel_rfl)) (by decide) (fun K hK => ?_)
                                            refine goes_ Try.func19 (by kernel_rfl) rfl #[.agg #[.int .i64 x127000_5, .bool x127001_5], .agg #[.int .i64 t147, .bool t148]] (by rfl) rfl rfl (by (try simp only [List.map_toArray, List.map_cons, List.map_nil]); first | done | rfl | (simp only [List.length_drop, List.length_take]; rfl)) ?_
                                            with_reducible refine (lin_sure_plus.calls x127000_5 x127001_5 t147 t148 t149 t150 _ A70.out).mono ?_
                                            rintro e w75 ⟨rfl, hb⟩
                                            refine ⟨_, rfl, ?_⟩
                                            have n0_ := Aside0.mk (Kd.R_below (by (with_reducible repeat (first | apply Kd.R_alloc | apply Kd.R_drewN | apply Kd.R_drew)); exact HO_8.out) hb)
                                            have n1_ := Aside0.mk (blk_below (g := gb117) (o := .cells #[.slice none 0 0, .int .i64 x118001_3] 27 (0, 0)) (by (with_reducible repeat (first | refine blk_drewN ?_ _ | refine blk_drew ?_ | refine blk_alloc ?_ _)); exact BK117.out) hb)
                                            have n2_ := Aside0.mk (blk_below (g := gb126) (o := .cells #[.int .i64 x127000_5, .bool x127001_5] 49 (0, 0)) (by (with_reducible repeat (first | refine blk_drewN ?_ _ | refine blk_drew ?_ | refine blk_alloc ?_ _)); exact BK126.out) hb)
                                            have n3_ := Aside0.mk (blk_below (g := gb128) (o := .cells #[.slice A127_0 ((rd_T27 l0 x47_3).f0).length c127_0, .int .i64 ((rd_T27 l0 x47_3).f1)] 27 (0, 0)) (by (with_reducible repeat (first | refine blk_drewN ?_ _ | refine blk_drew ?_ | refine blk_alloc ?_ _)); exact BK128.out) hb)
                                            have n4_ := Aside0.mk (below_step (by repeat (first | (with_reducible first | exact HB.out | apply below_alloc | apply pw_below_drewN | apply below_drew1 | refine below_set ?_ GE117.out | refine below_set ?_ GE126.out | refine below_set ?_ GE128.out) | exact HB.out)) hb)
                                            clear HO_8
                                            clear BK117
                                            clear BK126
                                            clear BK128
                                            clear HB
                                            have HO_8 := n0_
                                            have BK117 := n1_
                                            have BK126 := n2_
                                            have BK128 := n3_
                                            have HB := n4_
                                            clear n0_ n1_ n2_ n3_ n4_
                                            (try clear hb)
                                            (try clear hb2)
                                            (try clear hk)
                                            (try clear hi)
                                            refine hK.out _ _ ⟨(blk_cell BK126.out 0).trans rfl, (blk_cell BK126.out 1).trans rfl, (blk_cell BK128.out 0).trans rfl, (blk_cell BK128.out 1).trans rfl, ((HB.out.cell (World.block_lt_of_cell? w _ hw144_0)).trans hw144_0)⟩ (fun hHeld => ?_)
                                            clear hK K
                                            refine norm_ (a' := ?_) ?_ ?_
                                            rotate_left
                                            · show Act.put _ (some 100) _ = _
                                              simp only [Act.put, List.setIfInBounds_toArray, List.set_cons_zero, List.set_cons_succ, i64_w, i32_w]
                                              rfl
                                            refine last_ (i := 11) (N := none) #[true, true, true, true, true, true, true, true, true, true, true, true] rfl rfl (one_of HT_.out (by kernel_rfl)) (by decide) (fun K hK => ?_)
                                            have hs76 : w75.cell? ⟨gb126, 0, none⟩ = some (.int .i64 x127000_5) := (blk_cell BK126.out 0).trans rfl
                                            have hfs76 := blk_frozen BK126.out 0
                                            have hns76_0 := NB117_126.out
                                            have hns76_2 := NB128_126.out
                                            have hms76_0 := NB126_117.out
                                            have hms76_2 := NB126_128.out
                                            have hs77 : w75.cell? ⟨gb126, 1, none⟩ = some (.bool x127001_5) := (blk_cell BK126.out 1).trans rfl
                                            have hfs77 := blk_frozen BK126.out 1
                                            have hns77_0 := NB117_126.out
                                            have hns77_2 := NB128_126.out
                                            have hms77_0 := NB126_117.out
                                            have hms77_2 := NB126_128.out
                                            refine skip_ (w1 := ?_) (by rfl) rfl ?_ ?_
                                            rotate_left
                                            · go_simp
                                              rfl
                                            refine hK.out _ _ ?_
                                            clear hK K
                                            refine done_ (done_of HT_.out (by kernel_rfl)) ?_
                                            try go_wp2
                                            (try simp only [← hl8_3, ← hl8_5])
                                            go_roundg k5
                                            case measure => have := HJ3.out; have := HK2.out; have := HK3.out; have := HJ30.out; have := HK5.out; omega
                                            case rel => exact ⟨(x8_5), (wrap64 (x47_3 + 1)), (x118001_3), (t149), (t150), (by first | rfl | (simp; done) | (simp [*]; done)), H', ⟨by have := HJ3.out; have := HK2.out; have := HK3.out; have := HJ30.out; have := HK5.out; omega⟩, ⟨by (try simp only [hl8_2]); (try simp only [hl8_3]); (try simp only [hl8_5]); (with_reducible repeat (first | apply Kd.R_alloc | apply Kd.R_drewN | apply Kd.R_drew)); exact Kd.R_mono (Kd.R_far (p := ⟨gb126, 1, none⟩) (Kd.R_far (p := ⟨gb126, 0, none⟩) (Kd.R_mono HO_8.out (fun k_ hk => (⟨hk, hk⟩ : _ ∧ k_ ≠ gb126))) (fun _ hk => hk.2) (.int .i64 t149)) (fun _ hk => hk.2) (.bool t150)) (fun _ hk => hk.1)⟩, ⟨by (try simp only [hl8_2]); (try simp only [hl8_3]); (try simp only [hl8_5]); (with_reducible repeat (first | refine blk_drewN ?_ _ | refine blk_drew ?_ | refine blk_alloc ?_ _)); refine blk_far ?_ NB117_126.out _; (with_reducible repeat (first | refine blk_drewN ?_ _ | refine blk_drew ?_ | refine blk_alloc ?_ _)); refine blk_far ?_ NB117_126.out _; (with_reducible repeat (first | refine blk_drewN ?_ _ | refine blk_drew ?_ | refine blk_alloc ?_ _)); exact BK117.out⟩, ⟨by (try simp only [hl8_2]); (try simp only [hl8_3]); (try simp only [hl8_5]); (with_reducible repeat (first | refine blk_drewN ?_ _ | refine blk_drew ?_ | refine blk_alloc ?_ _)); refine blk_put (cs := #[.int .i64 t149, .bool x127001_5]) ?_ 1 _ rfl; (with_reducible repeat (first | refine blk_drewN ?_ _ | refine blk_drew ?_ | refine blk_alloc ?_ _)); refine blk_put (cs := #[.int .i64 x127000_5, .bool x127001_5]) ?_ 0 _ rfl; (with_reducible repeat (first | refine blk_drewN ?_ _ | refine blk_drew ?_ | refine blk_alloc ?_ _)); exact BK126.out⟩, ⟨by repeat (first | (with_reducible first | exact HB.out | apply below_alloc | apply pw_below_drewN | apply below_drew1 | refine below_set ?_ GE117.out | refine below_set ?_ GE126.out | refine below_set ?_ GE128.out) | exact HB.out)⟩⟩
                                          · rw [if_neg c67] at H
                                            exact absurd H (by simp)
                                        · rw [if_neg c66] at H
                                          exact absurd H (by simp)
                          · rw [if_neg c30] at H
                            exact absurd H (by simp)
                        · rw [if_neg c29] at H
                          exact absurd H (by simp)
                      · rw [if_neg c28] at H
                        have c28b0 : decide (x47_3 < (l0.length : Int)) = false := decide_eq_false c28
                        clear c28
                        by_cases c78 : 0 ≤ a2
                        · rw [if_pos c78] at H
                          have c78b0 := eq_true c78
                          have c78b1 : decide (0 ≤ a2) = true := decide_eq_true c78
                          clear c78
                          by_cases c79 : (a2 : Int).toNat ≤ 35184372088832
                          · rw [if_pos c79] at H
                            have c79b0 := eq_true c79
                            have c79b1 : decide ((a2 : Int).toNat ≤ 35184372088832) = true := decide_eq_true c79
                            clear c79
                            obtain ⟨y151, hy151⟩ : ∃ y_ : List Int, y_ = (List.replicate (a2 : Int).toNat 0) := ⟨_, rfl⟩
                            replace H : (lin_Sum.l3 k3 x8_3 (x8_3.length : Int) 0 x127000_3 x127001_3 y151 x127000_3) = some (r1, r2, r3) := by first | (rw [hy151]; with_reducible exact H) | (have H2_ := (Option.bind_some _ _).symm.trans H; rw [hy151]; with_reducible exact H2_) | (have H2_ := (Option.bind_some _ _).symm.trans H; with_reducible exact H2_) | with_reducible exact H | (rw [hy151]; exact H) | exact H
                            have Ny151 := Aside0.mk hy151
                            clear hy151
                            have H' := Aside0.mk H
                            clear H
                            try go_wp2
                            have n0_ := Aside0.mk (Kd.R_drew HO_8.out)
                            have n1_ := Aside0.mk (blk_drew BK117.out)
                            have n2_ := Aside0.mk (blk_drew BK126.out)
                            have n3_ := Aside0.mk (below_drew1 HB.out)
                            clear HO_8
                            clear BK117
                            clear BK126
                            clear HB
                            have HO_8 := n0_
                            have BK117 := n1_
                            have BK126 := n2_
                            have HB := n3_
                            clear n0_ n1_ n2_ n3_
                            refine start_ (n := 7) (S := fun w' => w'.cell? ⟨gb126, 0, none⟩ = some (.int .i64 x127000_3) ∧ w'.cell? ⟨gb126, 1, none⟩ = some (.bool x127001_3)) (ds := []) #[false, false, false, false, false, false, false] (by kernel_rfl) rfl rfl ⟨(blk_cell BK126.out 0).trans rfl, (blk_cell BK126.out 1).trans rfl⟩ (fun hHeld => ?_)
                            generalize wr.drew = w80 at HO_8 BK117 BK126 HB hHeld ⊢
                            refine pure_ (i := 0) (N := some 102) (v := ?_) (a' := ?_) #[true, false, false, false, false, false, false] rfl rfl (by kernel_rfl) (fun _ _ _ h => h) (Or.inl ⟨by rfl, ?_⟩) ?_ ?_
                            rotate_left
                            · intro w'
                              go_simp
                              with_reducible rfl
                            rotate_left
                            · simp only [Act.put, List.setIfInBounds_toArray, List.set_cons_zero, List.set_cons_succ, i64_w, i32_w]
                              rfl
                            refine pure_ (i := 2) (N := some 104) (v := ?_) (a' := ?_) #[true, false, true, false, false, false, false] rfl rfl (by kernel_rfl) (fun _ _ _ h => h) (Or.inl ⟨by rfl, ?_⟩) ?_ ?_
                            rotate_left
                            · intro w'
                              go_simp
                              with_reducible rfl
                            rotate_left
                            · simp only [Act.put, List.setIfInBounds_toArray, List.set_cons_zero, List.set_cons_succ, i64_w, i32_w]
                              rfl
                            refine take_ (i := 3) (N := some 105) (v := ?_) (a' := ?_) #[true, false, true, true, false, false, false] rfl rfl (by kernel_rfl) (fun _ _ _ h => h) (Or.inl ⟨by rfl, ?_⟩) hHeld ?_ ?_
                            rotate_left
                            · rintro w' ⟨s0, s1⟩
                              go_simp
                              with_reducible rfl
                            rotate_left
                            · simp only [Act.put, List.setIfInBounds_toArray, List.set_cons_zero, List.set_cons_succ, i64_w, i32_w]
                              rfl
                            refine join_ (σ := Value × Nat) 1 #[true, true, true, true, true, true, false] (fun s_ => [(103, s_.1), (15, .pointer (some ⟨s_.2, 0, none⟩)), (106, .agg #[s_.1, .int .i64 x127000_3])]) (fun s_ w' => (w'.cell? ⟨gb126, 0, none⟩ = some (.int .i64 x127000_3) ∧ w'.cell? ⟨gb126, 1, none⟩ = some (.bool x127001_3)) ∧ (Kd.R (Kd.int .i64) 3 w' w.heap.size (fun _ => True) s_.1 y151) ∧ (Kd.R k49 49 w' w.heap.size (fun k_ => k_ ≠ gb126) (.slice Ao14 x8_3.length co14) x8_3) ∧ (w'.heap[gb117]? = some (.cells #[.slice none 0 0, .int .i64 x118001_3] 27 (0, 0))) ∧ (w'.heap[gb126]? = some (.cells #[.int .i64 x127000_3, .bool x127001_3] 49 (0, 0))) ∧ (w'.heap[s_.2]? = some (.cells #[.slice none 0 0, .int .i64 0] 27 (0, 0))) ∧ (w.heap.size ≤ s_.2) ∧ (w.heap.size ≤ s_.2) ∧ (gb117 ≠ s_.2) ∧ (s_.2 ≠ gb117) ∧ (gb126 ≠ s_.2) ∧ (s_.2 ≠ gb126) ∧ (Below w.heap.size w w')) ?_ ?_
                            rotate_left
                            · intro hCont
                              refine two_ (i := 1) (j := 5) (Ni := some 103) (Nj := some 15) #[true, true, true, true, false, false, false] #[true, false, true, true, false, true, false] rfl rfl rfl rfl (by kernel_rfl) (by decide) (by decide) (fun K hK => ?_) (fun K hK => ?_)
                              · skip
                                refine Kd.R_make_step (Kd.int .i64) _ 3 (by rfl) (N := 103) rfl 23 _ _ rfl a2 rfl rfl Try.underlying23 (.int .i64 0) 8 info3 rfl (by decide) (by omega) 0 (ok := fun _ => True) (okp := fun _ => True) rfl (fun _ hk => hk) trivial (of_decide_eq_true (by first | (with_reducible assumption) | assumption)) (Nat.le_trans (Nat.mul_le_mul_right _ (of_decide_eq_true (by first | (with_reducible assumption) | assumption) : a2.toNat ≤ 35184372088832)) (by omega)) (Below.refl _ _) (Nat.le_refl _) ?_
                                intro v152 w81 ho82 hb hg_ hnew_
                                clear hg_ hnew_
                                (first | rw [← Ny151.out] at ho82 | (simp only [Int.reduceToNat] at ho82; rw [← Ny151.out] at ho82))
                                have n0_ := Aside0.mk (Kd.R_below (by (with_reducible repeat (first | apply Kd.R_alloc | apply Kd.R_drewN | apply Kd.R_drew)); exact HO_8.out) hb)
                                have n1_ := Aside0.mk (Kd.R_lower ho82 (below_size (by repeat (first | (with_reducible first | exact HB.out | apply below_alloc | apply pw_below_drewN | apply below_drew1 | refine below_set ?_ GE117.out | refine below_set ?_ GE126.out) | exact HB.out))))
                                have n2_ := Aside0.mk (blk_below (g := gb117) (o := .cells #[.slice none 0 0, .int .i64 x118001_3] 27 (0, 0)) (by (with_reducible repeat (first | refine blk_drewN ?_ _ | refine blk_drew ?_ | refine blk_alloc ?_ _)); exact BK117.out) hb)
                                have n3_ := Aside0.mk (blk_below (g := gb126) (o := .cells #[.int .i64 x127000_3, .bool x127001_3] 49 (0, 0)) (by (with_reducible repeat (first | refine blk_drewN ?_ _ | refine blk_drew ?_ | refine blk_alloc ?_ _)); exact BK126.out) hb)
                                have n4_ := Aside0.mk (below_step (by repeat (first | (with_reducible first | exact HB.out | apply below_alloc | apply pw_below_drewN | apply below_drew1 | refine below_set ?_ GE117.out | refine below_set ?_ GE126.out) | exact HB.out)) hb)
                                clear HO_8
                                clear BK117
                                clear BK126
                                clear HB
                                have HO_8 := n0_
                                have HO153 := n1_
                                have BK117 := n2_
                                have BK126 := n3_
                                have HB := n4_
                                clear n0_ n1_ n2_ n3_ n4_
                                clear hb ho82
                                obtain ⟨Ao83, co83, eo83⟩ := Kd.R_slice HO153.out
                                (first | subst eo83 | (injection eo83 with f1_ f2_ f3_; have f4_ := f1_.symm; have f5_ := f3_.symm; clear f1_ f2_ f3_; subst f4_; subst f5_))
                                refine hK.out _ _ ⟨(blk_cell BK126.out 0).trans rfl, (blk_cell BK126.out 1).trans rfl⟩ (fun hHeld => ?_)
                                clear hK K
                                refine norm_ (a' := ?_) ?_ ?_
                                rotate_left
                                · show Act.put _ (some 103) _ = _
                                  simp only [Act.put, List.setIfInBounds_toArray, List.set_cons_zero, List.set_cons_succ, i64_w, i32_w]
                                  rfl
                                refine pure_ (i := 4) (N := some 106) (v := ?_) (a' := ?_) #[true, true, true, true, true, false, false] rfl rfl (by kernel_rfl) (fun _ _ _ h => h) (Or.inl ⟨by rfl, ?_⟩) ?_ ?_
                                rotate_left
                                · intro w'
                                  go_simp
                                  with_reducible rfl
                                rotate_left
                                · simp only [Act.put, List.setIfInBounds_toArray, List.set_cons_zero, List.set_cons_succ, i64_w, i32_w]
                                  rfl
                                refine one_ (i := 5) (N := some 15) #[true, true, true, true, true, true, false] rfl rfl (by kernel_rfl) (by decide) (fun K hK => ?_)
                                refine box_step ?hg (N := 15) ?hd (cs := #[.slice none 0 0, .int .i64 0]) (t := 27) ?hr ?_; (case hd => rfl); (case hg => rfl); (case hr => first | (go_simp; done) | (go_simp; rfl))
                                intro gb154 hg w84 hbox hb
                                have n0_ := Aside0.mk (Kd.R_below (by (with_reducible repeat (first | apply Kd.R_alloc | apply Kd.R_drewN | apply Kd.R_drew)); exact HO_8.out) hb)
                                have n1_ := Aside0.mk (Kd.R_below (by (with_reducible repeat (first | apply Kd.R_alloc | apply Kd.R_drewN | apply Kd.R_drew)); exact HO153.out) hb)
                                have n2_ := Aside0.mk (blk_below (g := gb117) (o := .cells #[.slice none 0 0, .int .i64 x118001_3] 27 (0, 0)) (by (with_reducible repeat (first | refine blk_drewN ?_ _ | refine blk_drew ?_ | refine blk_alloc ?_ _)); exact BK117.out) hb)
                                have n3_ := Aside0.mk (blk_below (g := gb126) (o := .cells #[.int .i64 x127000_3, .bool x127001_3] 49 (0, 0)) (by (with_reducible repeat (first | refine blk_drewN ?_ _ | refine blk_drew ?_ | refine blk_alloc ?_ _)); exact BK126.out) hb)
                                have n4_ := Aside0.mk (below_step (by repeat (first | (with_reducible first | exact HB.out | apply below_alloc | apply pw_below_drewN | apply below_drew1 | refine below_set ?_ GE117.out | refine below_set ?_ GE126.out) | exact HB.out)) hb)
                                have n5_ := Aside0.mk (hbox)
                                have n6_ := Aside0.mk ((by rw [hg]; exact (below_size (by repeat (first | (with_reducible first | exact HB.out | apply below_alloc | apply pw_below_drewN | apply below_drew1 | refine below_set ?_ GE117.out | refine below_set ?_ GE126.out) | exact HB.out))) : w.heap.size ≤ gb154))
                                have n7_ := Aside0.mk ((by rw [hg]; exact (below_size (by repeat (first | (with_reducible first | exact HB.out | apply below_alloc | apply pw_below_drewN | apply below_drew1 | refine below_set ?_ GE117.out | refine below_set ?_ GE126.out) | exact HB.out))) : w.heap.size ≤ gb154))
                                have n8_ := Aside0.mk ((by rw [hg]; exact Nat.ne_of_lt (blk_lt (g := gb117) (o := .cells #[.slice none 0 0, .int .i64 x118001_3] 27 (0, 0)) (by (with_reducible repeat (first | refine blk_drewN ?_ _ | refine blk_drew ?_ | refine blk_alloc ?_ _)); exact BK117.out)) : gb117 ≠ gb154))
                                have n9_ := Aside0.mk ((by rw [hg]; exact Nat.ne_of_gt (blk_lt (g := gb117) (o := .cells #[.slice none 0 0, .int .i64 x118001_3] 27 (0, 0)) (by (with_reducible repeat (first | refine blk_drewN ?_ _ | refine blk_drew ?_ | refine blk_alloc ?_ _)); exact BK117.out)) : gb154 ≠ gb117))
                                have n10_ := Aside0.mk ((by rw [hg]; exact Nat.ne_of_lt (blk_lt (g := gb126) (o := .cells #[.int .i64 x127000_3, .bool x127001_3] 49 (0, 0)) (by (with_reducible repeat (first | refine blk_drewN ?_ _ | refine blk_drew ?_ | refine blk_alloc ?_ _)); exact BK126.out)) : gb126 ≠ gb154))
                                have n11_ := Aside0.mk ((by rw [hg]; exact Nat.ne_of_gt (blk_lt (g := gb126) (o := .cells #[.int .i64 x127000_3, .bool x127001_3] 49 (0, 0)) (by (with_reducible repeat (first | refine blk_drewN ?_ _ | refine blk_drew ?_ | refine blk_alloc ?_ _)); exact BK126.out)) : gb154 ≠ gb126))
                                clear HO_8
                                clear HO153
                                clear BK117
                                clear BK126
                                clear HB
                                have HO_8 := n0_
                                have HO153 := n1_
                                have BK117 := n2_
                                have BK126 := n3_
                                have HB := n4_
                                have BK154 := n5_
                                have GW154 := n6_
                                have GE154 := n7_
                                have NB117_154 := n8_
                                have NB154_117 := n9_
                                have NB126_154 := n10_
                                have NB154_126 := n11_
                                clear n0_ n1_ n2_ n3_ n4_ n5_ n6_ n7_ n8_ n9_ n10_ n11_
                                clear hb hbox hg
                                refine hK.out _ _ ⟨(blk_cell BK126.out 0).trans rfl, (blk_cell BK126.out 1).trans rfl⟩ (fun hHeld => ?_)
                                clear hK K
                                refine norm_ (a' := ?_) ?_ ?_
                                rotate_left
                                · show Act.put _ (some 15) _ = _
                                  simp only [Act.put, List.setIfInBounds_toArray, List.set_cons_zero, List.set_cons_succ, i64_w, i32_w]
                                  rfl
                                exact norm_ (by simp only [putAll, Act.put, List.setIfInBounds_toArray, List.set_cons_zero, List.set_cons_succ]) (hCont (.slice Ao83 y151.length co83, gb154) _ ⟨hHeld, (by (with_reducible repeat (first | apply Kd.R_alloc | apply Kd.R_drewN | apply Kd.R_drew)); exact HO153.out), (by (with_reducible repeat (first | apply Kd.R_alloc | apply Kd.R_drewN | apply Kd.R_drew)); exact HO_8.out), (by (with_reducible repeat (first | refine blk_drewN ?_ _ | refine blk_drew ?_ | refine blk_alloc ?_ _)); exact BK117.out), (by (with_reducible repeat (first | refine blk_drewN ?_ _ | refine blk_drew ?_ | refine blk_alloc ?_ _)); exact BK126.out), (by (with_reducible repeat (first | refine blk_drewN ?_ _ | refine blk_drew ?_ | refine blk_alloc ?_ _)); exact BK154.out), GW154.out, GE154.out, NB117_154.out, NB154_117.out, NB126_154.out, NB154_126.out, (by repeat (first | (with_reducible first | exact HB.out | apply below_alloc | apply pw_below_drewN | apply below_drew1 | refine below_set ?_ GE117.out | refine below_set ?_ GE126.out | refine below_set ?_ GE154.out) | exact HB.out))⟩)
                              · skip
                                refine box_step ?hg (N := 15) ?hd (cs := #[.slice none 0 0, .int .i64 0]) (t := 27) ?hr ?_; (case hd => rfl); (case hg => rfl); (case hr => first | (go_simp; done) | (go_simp; rfl))
                                intro gb154 hg w81 hbox hb
                                have n0_ := Aside0.mk (Kd.R_below (by (with_reducible repeat (first | apply Kd.R_alloc | apply Kd.R_drewN | apply Kd.R_drew)); exact HO_8.out) hb)
                                have n1_ := Aside0.mk (blk_below (g := gb117) (o := .cells #[.slice none 0 0, .int .i64 x118001_3] 27 (0, 0)) (by (with_reducible repeat (first | refine blk_drewN ?_ _ | refine blk_drew ?_ | refine blk_alloc ?_ _)); exact BK117.out) hb)
                                have n2_ := Aside0.mk (blk_below (g := gb126) (o := .cells #[.int .i64 x127000_3, .bool x127001_3] 49 (0, 0)) (by (with_reducible repeat (first | refine blk_drewN ?_ _ | refine blk_drew ?_ | refine blk_alloc ?_ _)); exact BK126.out) hb)
                                have n3_ := Aside0.mk (below_step (by repeat (first | (with_reducible first | exact HB.out | apply below_alloc | apply pw_below_drewN | apply below_drew1 | refine below_set ?_ GE117.out | refine below_set ?_ GE126.out) | exact HB.out)) hb)
                                have n4_ := Aside0.mk (hbox)
                                have n5_ := Aside0.mk ((by rw [hg]; exact (below_size (by repeat (first | (with_reducible first | exact HB.out | apply below_alloc | apply pw_below_drewN | apply below_drew1 | refine below_set ?_ GE117.out | refine below_set ?_ GE126.out) | exact HB.out))) : w.heap.size ≤ gb154))
                                have n6_ := Aside0.mk ((by rw [hg]; exact (below_size (by repeat (first | (with_reducible first | exact HB.out | apply below_alloc | apply pw_below_drewN | apply below_drew1 | refine below_set ?_ GE117.out | refine below_set ?_ GE126.out) | exact HB.out))) : w.heap.size ≤ gb154))
                                have n7_ := Aside0.mk ((by rw [hg]; exact Nat.ne_of_lt (blk_lt (g := gb117) (o := .cells #[.slice none 0 0, .int .i64 x118001_3] 27 (0, 0)) (by (with_reducible repeat (first | refine blk_drewN ?_ _ | refine blk_drew ?_ | refine blk_alloc ?_ _)); exact BK117.out)) : gb117 ≠ gb154))
                                have n8_ := Aside0.mk ((by rw [hg]; exact Nat.ne_of_gt (blk_lt (g := gb117) (o := .cells #[.slice none 0 0, .int .i64 x118001_3] 27 (0, 0)) (by (with_reducible repeat (first | refine blk_drewN ?_ _ | refine blk_drew ?_ | refine blk_alloc ?_ _)); exact BK117.out)) : gb154 ≠ gb117))
                                have n9_ := Aside0.mk ((by rw [hg]; exact Nat.ne_of_lt (blk_lt (g := gb126) (o := .cells #[.int .i64 x127000_3, .bool x127001_3] 49 (0, 0)) (by (with_reducible repeat (first | refine blk_drewN ?_ _ | refine blk_drew ?_ | refine blk_alloc ?_ _)); exact BK126.out)) : gb126 ≠ gb154))
                                have n10_ := Aside0.mk ((by rw [hg]; exact Nat.ne_of_gt (blk_lt (g := gb126) (o := .cells #[.int .i64 x127000_3, .bool x127001_3] 49 (0, 0)) (by (with_reducible repeat (first | refine blk_drewN ?_ _ | refine blk_drew ?_ | refine blk_alloc ?_ _)); exact BK126.out)) : gb154 ≠ gb126))
                                clear HO_8
                                clear BK117
                                clear BK126
                                clear HB
                                have HO_8 := n0_
                                have BK117 := n1_
                                have BK126 := n2_
                                have HB := n3_
                                have BK154 := n4_
                                have GW154 := n5_
                                have GE154 := n6_
                                have NB117_154 := n7_
                                have NB154_117 := n8_
                                have NB126_154 := n9_
                                have NB154_126 := n10_
                                clear n0_ n1_ n2_ n3_ n4_ n5_ n6_ n7_ n8_ n9_ n10_
                                clear hb hbox hg
                                refine hK.out _ _ ⟨(blk_cell BK126.out 0).trans rfl, (blk_cell BK126.out 1).trans rfl⟩ (fun hHeld => ?_)
                                clear hK K
                                refine norm_ (a' := ?_) ?_ ?_
                                rotate_left
                                · show Act.put _ (some 15) _ = _
                                  simp only [Act.put, List.setIfInBounds_toArray, List.set_cons_zero, List.set_cons_succ, i64_w, i32_w]
                                  rfl
                                refine one_ (i := 1) (N := some 103) #[true, true, true, true, false, true, false] rfl rfl (by kernel_rfl) (by decide) (fun K hK => ?_)
                                refine Kd.R_make_step (Kd.int .i64) _ 3 (by rfl) (N := 103) rfl 23 _ _ rfl a2 rfl rfl Try.underlying23 (.int .i64 0) 8 info3 rfl (by decide) (by omega) 0 (ok := fun _ => True) (okp := fun _ => True) rfl (fun _ hk => hk) trivial (of_decide_eq_true (by first | (with_reducible assumption) | assumption)) (Nat.le_trans (Nat.mul_le_mul_right _ (of_decide_eq_true (by first | (with_reducible assumption) | assumption) : a2.toNat ≤ 35184372088832)) (by omega)) (Below.refl _ _) (Nat.le_refl _) ?_
                                intro v152 w82 ho83 hb hg_ hnew_
                                clear hg_ hnew_
                                (first | rw [← Ny151.out] at ho83 | (simp only [Int.reduceToNat] at ho83; rw [← Ny151.out] at ho83))
                                have n0_ := Aside0.mk (Kd.R_below (by (with_reducible repeat (first | apply Kd.R_alloc | apply Kd.R_drewN | apply Kd.R_drew)); exact HO_8.out) hb)
                                have n1_ := Aside0.mk (Kd.R_lower ho83 (below_size (by repeat (first | (with_reducible first | exact HB.out | apply below_alloc | apply pw_below_drewN | apply below_drew1 | refine below_set ?_ GE117.out | refine below_set ?_ GE126.out | refine below_set ?_ GE154.out) | exact HB.out))))
                                have n2_ := Aside0.mk (blk_below (g := gb117) (o := .cells #[.slice none 0 0, .int .i64 x118001_3] 27 (0, 0)) (by (with_reducible repeat (first | refine blk_drewN ?_ _ | refine blk_drew ?_ | refine blk_alloc ?_ _)); exact BK117.out) hb)
                                have n3_ := Aside0.mk (blk_below (g := gb126) (o := .cells #[.int .i64 x127000_3, .bool x127001_3] 49 (0, 0)) (by (with_reducible repeat (first | refine blk_drewN ?_ _ | refine blk_drew ?_ | refine blk_alloc ?_ _)); exact BK126.out) hb)
                                have n4_ := Aside0.mk (blk_below (g := gb154) (o := .cells #[.slice none 0 0, .int .i64 0] 27 (0, 0)) (by (with_reducible repeat (first | refine blk_drewN ?_ _ | refine blk_drew ?_ | refine blk_alloc ?_ _)); exact BK154.out) hb)
                                have n5_ := Aside0.mk (below_step (by repeat (first | (with_reducible first | exact HB.out | apply below_alloc | apply pw_below_drewN | apply below_drew1 | refine below_set ?_ GE117.out | refine below_set ?_ GE126.out | refine below_set ?_ GE154.out) | exact HB.out)) hb)
                                clear HO_8
                                clear BK117
                                clear BK126
                                clear BK154
                                clear HB
                                have HO_8 := n0_
                                have HO153 := n1_
                                have BK117 := n2_
                                have BK126 := n3_
                                have BK154 := n4_
                                have HB := n5_
                                clear n0_ n1_ n2_ n3_ n4_ n5_
                                clear hb ho83
                                obtain ⟨Ao84, co84, eo84⟩ := Kd.R_slice HO153.out
                                (first | subst eo84 | (injection eo84 with f1_ f2_ f3_; have f4_ := f1_.symm; have f5_ := f3_.symm; clear f1_ f2_ f3_; subst f4_; subst f5_))
                                refine hK.out _ _ ⟨(blk_cell BK126.out 0).trans rfl, (blk_cell BK126.out 1).trans rfl⟩ (fun hHeld => ?_)
                                clear hK K
                                refine norm_ (a' := ?_) ?_ ?_
                                rotate_left
                                · show Act.put _ (some 103) _ = _
                                  simp only [Act.put, List.setIfInBounds_toArray, List.set_cons_zero, List.set_cons_succ, i64_w, i32_w]
                                  rfl
                                refine pure_ (i := 4) (N := some 106) (v := ?_) (a' := ?_) #[true, true, true, true, true, true, false] rfl rfl (by kernel_rfl) (fun _ _ _ h => h) (Or.inl ⟨by rfl, ?_⟩) ?_ ?_
                                rotate_left
                                · intro w'
                                  go_simp
                                  with_reducible rfl
                                rotate_left
                                · simp only [Act.put, List.setIfInBounds_toArray, List.set_cons_zero, List.set_cons_succ, i64_w, i32_w]
                                  rfl
                                exact norm_ (by simp only [putAll, Act.put, List.setIfInBounds_toArray, List.set_cons_zero, List.set_cons_succ]) (hCont (.slice Ao84 y151.length co84, gb154) _ ⟨hHeld, (by (with_reducible repeat (first | apply Kd.R_alloc | apply Kd.R_drewN | apply Kd.R_drew)); exact HO153.out), (by (with_reducible repeat (first | apply Kd.R_alloc | apply Kd.R_drewN | apply Kd.R_drew)); exact HO_8.out), (by (with_reducible repeat (first | refine blk_drewN ?_ _ | refine blk_drew ?_ | refine blk_alloc ?_ _)); exact BK117.out), (by (with_reducible repeat (first | refine blk_drewN ?_ _ | refine blk_drew ?_ | refine blk_alloc ?_ _)); exact BK126.out), (by (with_reducible repeat (first | refine blk_drewN ?_ _ | refine blk_drew ?_ | refine blk_alloc ?_ _)); exact BK154.out), GW154.out, GE154.out, NB117_154.out, NB154_117.out, NB126_154.out, NB154_126.out, (by repeat (first | (with_reducible first | exact HB.out | apply below_alloc | apply pw_below_drewN | apply below_drew1 | refine below_set ?_ GE117.out | refine below_set ?_ GE126.out | refine below_set ?_ GE154.out) | exact HB.out))⟩)
                            rintro ⟨v152, gb154⟩ w85 ⟨hS_, h0_, h1_, h2_, h3_, h4_, h5_, h6_, h7_, h8_, h9_, h10_, h11_⟩
                            have n0_ : Aside0 (Kd.R (Kd.int .i64) 3 w85 w.heap.size (fun _ => True) v152 y151) := ⟨h0_⟩
                            have n1_ : Aside0 (Kd.R k49 49 w85 w.heap.size (fun k_ => k_ ≠ gb126) (.slice Ao14 x8_3.length co14) x8_3) := ⟨h1_⟩
                            have n2_ : Aside0 (w85.heap[gb117]? = some (.cells #[.slice none 0 0, .int .i64 x118001_3] 27 (0, 0))) := ⟨h2_⟩
                            have n3_ : Aside0 (w85.heap[gb126]? = some (.cells #[.int .i64 x127000_3, .bool x127001_3] 49 (0, 0))) := ⟨h3_⟩
                            have n4_ : Aside0 (w85.heap[gb154]? = some (.cells #[.slice none 0 0, .int .i64 0] 27 (0, 0))) := ⟨h4_⟩
                            have n5_ : Aside0 (w.heap.size ≤ gb154) := ⟨h5_⟩
                            have n6_ : Aside0 (w.heap.size ≤ gb154) := ⟨h6_⟩
                            have n7_ : Aside0 (gb117 ≠ gb154) := ⟨h7_⟩
                            have n8_ : Aside0 (gb154 ≠ gb117) := ⟨h8_⟩
                            have n9_ : Aside0 (gb126 ≠ gb154) := ⟨h9_⟩
                            have n10_ : Aside0 (gb154 ≠ gb126) := ⟨h10_⟩
                            have n11_ : Aside0 (Below w.heap.size w w85) := ⟨h11_⟩
                            clear HO_8
                            clear BK117
                            clear BK126
                            clear HB
                            clear h0_ h1_ h2_ h3_ h4_ h5_ h6_ h7_ h8_ h9_ h10_ h11_
                            have HO153 := n0_
                            have HO_8 := n1_
                            have BK117 := n2_
                            have BK126 := n3_
                            have BK154 := n4_
                            have GW154 := n5_
                            have GE154 := n6_
                            have NB117_154 := n7_
                            have NB154_117 := n8_
                            have NB126_154 := n9_
                            have NB154_126 := n10_
                            have HB := n11_
                            clear n0_ n1_ n2_ n3_ n4_ n5_ n6_ n7_ n8_ n9_ n10_ n11_
                            have hHeld : w85.cell? ⟨gb126, 0, none⟩ = some (.int .i64 x127000_3) ∧ w85.cell? ⟨gb126, 1, none⟩ = some (.bool x127001_3) := hS_
                            obtain ⟨Ao86, co86, eo86⟩ := Kd.R_slice HO153.out
                            (first | subst eo86 | (injection eo86 with f1_ f2_ f3_; have f4_ := f1_.symm; have f5_ := f3_.symm; clear f1_ f2_ f3_; subst f4_; subst f5_))
                            refine norm_ (a' := ?_) ?_ ?_
                            rotate_left
                            · simp only [putAll, Act.put, List.setIfInBounds_toArray, List.set_cons_zero, List.set_cons_succ]
                              rfl
                            refine one_ (i := 6) (N := none) #[true, true, true, true, true, true, true] rfl rfl (by kernel_rfl) (by decide) (fun K hK => ?_)
                            have hs87 : w85.cell? ⟨gb154, 0, none⟩ = some (.slice none 0 0) := (blk_cell BK154.out 0).trans rfl
                            have hfs87 := blk_frozen BK154.out 0
                            have hns87_0 := NB117_154.out
                            have hns87_1 := NB126_154.out
                            have hms87_0 := NB154_117.out
                            have hms87_1 := NB154_126.out
                            have hs88 : w85.cell? ⟨gb154, 1, none⟩ = some (.int .i64 0) := (blk_cell BK154.out 1).trans rfl
                            have hfs88 := blk_frozen BK154.out 1
                            have hns88_0 := NB117_154.out
                            have hns88_1 := NB126_154.out
                            have hms88_0 := NB154_117.out
                            have hms88_1 := NB154_126.out
                            refine skip_ (w1 := ?_) (by rfl) rfl ?_ ?_
                            rotate_left
                            · go_simp
                              rfl
                            refine hK.out _ _ ⟨((cell_far (p := ⟨gb154, _, none⟩) NB126_154.out _).trans (((cell_far (p := ⟨gb154, _, none⟩) NB126_154.out _).trans (hHeld.1)))), ((cell_far (p := ⟨gb154, _, none⟩) NB126_154.out _).trans (((cell_far (p := ⟨gb154, _, none⟩) NB126_154.out _).trans (hHeld.2))))⟩ (fun hHeld => ?_)
                            clear hK K
                            refine done_ (by kernel_rfl) ?_
                            try go_wp2
                            go_loopg [109] k3 (fun kq v109 w' => ∃ (x109_4 : Int) (x118001_4 : Int) (x155000_4 : List Int) (u155000 : Value), v109 = .int .i64 x109_4 ∧ Aside0 (lin_Sum.l3 kq x8_3 (x8_3.length : Int) x109_4 x127000_3 x127001_3 x155000_4 x127000_3 = some (r1, r2, r3)) ∧ Aside0 (kq ≤ k3) ∧ Aside0 (Kd.R k49 49 w' w.heap.size (fun k_ => k_ ≠ gb126) (.slice Ao14 x8_3.length co14) x8_3) ∧ Aside0 (Kd.R (Kd.int .i64) 3 w' w.heap.size (fun _ => True) u155000 x155000_4) ∧ Aside0 (w'.heap[gb117]? = some (.cells #[(.slice none 0 0), .int .i64 x118001_4] 27 (0, 0))) ∧ Aside0 (w'.heap[gb126]? = some (.cells #[.int .i64 x127000_3, .bool x127001_3] 49 (0, 0))) ∧ Aside0 (w'.heap[gb154]? = some (.cells #[u155000, .int .i64 x127000_3] 27 (0, 0))) ∧ Aside0 (Below w.heap.size w w'))
                            case atStart => exact ⟨(0), (x118001_3), (y151), (.slice Ao86 y151.length co86), (by first | rfl | (simp; done) | (simp [*]; done)), H', ⟨Nat.le_refl _⟩, ⟨by (try simp only [hl8_2]); (try simp only [hl8_3]); (with_reducible repeat (first | apply Kd.R_alloc | apply Kd.R_drewN | apply Kd.R_drew)); exact Kd.R_mono (Kd.R_far (p := ⟨gb154, 1, none⟩) (Kd.R_far (p := ⟨gb154, 0, none⟩) (Kd.R_types HO_8.out BK154.out (by decide)) (fun _ hk => hk.2) (.slice Ao86 y151.length co86)) (fun _ hk => hk.2) (.int .i64 x127000_3)) (fun _ hk => hk.1)⟩, ⟨by (try simp only [hl8_2]); (try simp only [hl8_3]); (with_reducible repeat (first | apply Kd.R_alloc | apply Kd.R_drewN | apply Kd.R_drew)); exact Kd.R_mono (Kd.R_far (p := ⟨gb154, 1, none⟩) (Kd.R_far (p := ⟨gb154, 0, none⟩) (Kd.R_types HO153.out BK154.out (by decide)) (fun _ hk => hk.2) (.slice Ao86 y151.length co86)) (fun _ hk => hk.2) (.int .i64 x127000_3)) (fun _ hk => trivial)⟩, ⟨by (try simp only [hl8_2]); (try simp only [hl8_3]); (with_reducible repeat (first | refine blk_drewN ?_ _ | refine blk_drew ?_ | refine blk_alloc ?_ _)); refine blk_far ?_ NB117_154.out _; (with_reducible repeat (first | refine blk_drewN ?_ _ | refine blk_drew ?_ | refine blk_alloc ?_ _)); refine blk_far ?_ NB117_154.out _; (with_reducible repeat (first | refine blk_drewN ?_ _ | refine blk_drew ?_ | refine blk_alloc ?_ _)); exact BK117.out⟩, ⟨by (try simp only [hl8_2]); (try simp only [hl8_3]); (with_reducible repeat (first | refine blk_drewN ?_ _ | refine blk_drew ?_ | refine blk_alloc ?_ _)); refine blk_far ?_ NB126_154.out _; (with_reducible repeat (first | refine blk_drewN ?_ _ | refine blk_drew ?_ | refine blk_alloc ?_ _)); refine blk_far ?_ NB126_154.out _; (with_reducible repeat (first | refine blk_drewN ?_ _ | refine blk_drew ?_ | refine blk_alloc ?_ _)); exact BK126.out⟩, ⟨by (try simp only [hl8_2]); (try simp only [hl8_3]); (with_reducible repeat (first | refine blk_drewN ?_ _ | refine blk_drew ?_ | refine blk_alloc ?_ _)); refine blk_put (cs := #[.slice Ao86 y151.length co86, .int .i64 0]) ?_ 1 _ rfl; (with_reducible repeat (first | refine blk_drewN ?_ _ | refine blk_drew ?_ | refine blk_alloc ?_ _)); refine blk_put (cs := #[.slice none 0 0, .int .i64 0]) ?_ 0 _ rfl; (with_reducible repeat (first | refine blk_drewN ?_ _ | refine blk_drew ?_ | refine blk_alloc ?_ _)); exact BK154.out⟩, ⟨by repeat (first | (with_reducible first | exact HB.out | apply below_alloc | apply pw_below_drewN | apply below_drew1 | refine below_set ?_ GE117.out | refine below_set ?_ GE126.out | refine below_set ?_ GE154.out) | exact HB.out)⟩⟩
                            case round =>
                              clear H'
                              try clear c1
                              try clear p1
                              try clear q1
                              try clear hx1
                              try clear c2
                              try clear p2
                              try clear c3
                              try clear c4
                              try clear c5
                              try clear c6
                              try clear p6
                              try clear c7
                              try clear c12
                              try clear p14
                              try clear q14
                              try clear hx14
                              try clear c18
                              try clear c19
                              try clear c20
                              try clear c28
                              try clear c28b0
                              try clear c29
                              try clear c30
                              try clear c48
                              try clear c48b0
                              try clear c49
                              try clear c50
                              try clear c51
                              try clear c53
                              try clear c54
                              try clear p64
                              try clear c66
                              try clear c66b0
                              try clear c67
                              try clear c67b0
                              try clear c78
                              try clear c78b0
                              try clear c78b1
                              try clear c79
                              try clear c79b0
                              try clear c79b1
                              try clear hx144_0
                              try clear p144
                              try clear q144
                              obtain ⟨x109_4, x118001_4, x155000_4, u155000, rfl, HA, HK4, HO_107, HO_155000, BK117, BK126, BK154, HB⟩ := hrel
                              cases gk with
                              | zero => exact absurd HA.out (by simp [lin_Sum.l3])
                              | succ k4 =>
                                have H := HA.out
                                clear HA
                                simp only [lin_Sum.l3] at H
                                by_cases c89 : x109_4 < (x8_3.length : Int)
                                · rw [if_pos c89] at H
                                  have c89b0 : decide (x109_4 < (x8_3.length : Int)) = true := decide_eq_true c89
                                  clear c89
                                  by_cases c90 : 0 ≤ x109_4
                                  · rw [if_pos c90] at H
                                    have c90b0 : decide (0 ≤ x109_4) = true := decide_eq_true c90
                                    clear c90
                                    by_cases c91 : x109_4 < (x8_3.length : Int)
                                    · rw [if_pos c91] at H
                                      have c91b0 : decide (x109_4 < (x8_3.length : Int)) = true := decide_eq_true c91
                                      clear c91
                                      obtain ⟨bq92, hbq92⟩ : ∃ b_ : Bool, b_ = ((rd_T49 x8_3 x109_4).f1) := ⟨_, rfl⟩
                                      replace H : (if (bq92 = true) then (if x109_4 < (x155000_4.length : Int) then (lin_Sum.l3 k4 x8_3 (x8_3.length : Int) (wrap64 (x109_4 + 1)) x127000_3 x127001_3 (x155000_4.set (x109_4 : Int).toNat ((rd_T49 x8_3 x109_4).f0)) x127000_3) else (none)) else (some (([] : List Int), 0, 14))) = some (r1, r2, r3) := by rw [← hbq92] at H; exact H
                                      have Nbq92 := Aside0.mk hbq92
                                      clear hbq92
                                      by_cases c93 : (bq92 = true)
                                      · subst c93
                                        have H1 : (if x109_4 < (x155000_4.length : Int) then (lin_Sum.l3 k4 x8_3 (x8_3.length : Int) (wrap64 (x109_4 + 1)) x127000_3 x127001_3 (x155000_4.set (x109_4 : Int).toNat ((rd_T49 x8_3 x109_4).f0)) x127000_3) else (none)) = some (r1, r2, r3) := by rw [if_pos rfl] at H; exact H
                                        clear H
                                        have H := H1
                                        clear H1
                                        by_cases c94 : x109_4 < (x155000_4.length : Int)
                                        · rw [if_pos c94] at H
                                          have c94b0 : decide (x109_4 < (x155000_4.length : Int)) = true := decide_eq_true c94
                                          clear c94
                                          obtain ⟨y157, hy157⟩ : ∃ y_ : List Int, y_ = (x155000_4.set (x109_4 : Int).toNat ((rd_T49 x8_3 x109_4).f0)) := ⟨_, rfl⟩
                                          replace H : (lin_Sum.l3 k4 x8_3 (x8_3.length : Int) (wrap64 (x109_4 + 1)) x127000_3 x127001_3 y157 x127000_3) = some (r1, r2, r3) := by first | (rw [hy157]; with_reducible exact H) | (have H2_ := (Option.bind_some _ _).symm.trans H; rw [hy157]; with_reducible exact H2_) | (have H2_ := (Option.bind_some _ _).symm.trans H; with_reducible exact H2_) | with_reducible exact H | (rw [hy157]; exact H) | exact H
                                          have Ny157 := Aside0.mk hy157
                                          clear hy157
                                          have H' := Aside0.mk H
                                          clear H
                                          have p155 : 0 ≤ (x109_4 : Int) := of_decide_eq_true (by first | (with_reducible assumption) | assumption)
                                          have q155 : x109_4 < (x8_3.length : Int) := of_decide_eq_true (by first | (with_reducible assumption) | assumption)
                                          obtain ⟨ad155, e155, hx155_0, hx155_1⟩ := at_T49 (Kd.R_reads' HO_107.out).2.2 x109_4 p155 q155
                                          (try rw [← Nbq92.out] at hx155_1)
                                          cases e155
                                          replace p155 := eq_true p155
                                          replace q155 := eq_true q155
                                          go_wp2_with (first | ((with_reducible refine gate_dst (N := 17) rfl ?_); (try (refine gate_guard (by rfl) ?_; dsimp only)); refine box_event ?hg (N := 17) ?hd (cs := #[.int .i64 0, .bool false]) (t := 49) ?hr ?_; (case hd => rfl); (case hg => rfl); (case hr => first | (go_simp; done) | (go_simp; rfl)); intro gb156 hg w96 hbox hb; have n0_ := Aside0.mk (Kd.R_below (Kd.R_elderB (by (with_reducible repeat (first | apply Kd.R_alloc | apply Kd.R_drewN | apply Kd.R_drew)); exact HO_107.out) gb156 (Nat.le_of_eq hg.symm)) hb); have n1_ := Aside0.mk (Kd.R_below (by (with_reducible repeat (first | apply Kd.R_alloc | apply Kd.R_drewN | apply Kd.R_drew)); exact HO_155000.out) hb); have n2_ := Aside0.mk (blk_below (g := gb117) (o := .cells #[.slice none 0 0, .int .i64 x118001_4] 27 (0, 0)) (by (with_reducible repeat (first | refine blk_drewN ?_ _ | refine blk_drew ?_ | refine blk_alloc ?_ _)); exact BK117.out) hb); have n3_ := Aside0.mk (blk_below (g := gb126) (o := .cells #[.int .i64 x127000_3, .bool x127001_3] 49 (0, 0)) (by (with_reducible repeat (first | refine blk_drewN ?_ _ | refine blk_drew ?_ | refine blk_alloc ?_ _)); exact BK126.out) hb); have n4_ := Aside0.mk (blk_below (g := gb154) (o := .cells #[u155000, .int .i64 x127000_3] 27 (0, 0)) (by (with_reducible repeat (first | refine blk_drewN ?_ _ | refine blk_drew ?_ | refine blk_alloc ?_ _)); exact BK154.out) hb); have n5_ := Aside0.mk (below_step (by repeat (first | (with_reducible first | exact HB.out | apply below_alloc | apply pw_below_drewN | apply below_drew1 | refine below_set ?_ GE117.out | refine below_set ?_ GE126.out | refine below_set ?_ GE154.out) | exact HB.out)) hb); have n6_ := Aside0.mk (hbox); have n7_ := Aside0.mk ((by rw [hg]; exact (below_size (by repeat (first | (with_reducible first | exact HB.out | apply below_alloc | apply pw_below_drewN | apply below_drew1 | refine below_set ?_ GE117.out | refine below_set ?_ GE126.out | refine below_set ?_ GE154.out) | exact HB.out))) : w.heap.size ≤ gb156)); have n8_ := Aside0.mk ((by rw [hg]; exact (below_size (by repeat (first | (with_reducible first | exact HB.out | apply below_alloc | apply pw_below_drewN | apply below_drew1 | refine below_set ?_ GE117.out | refine below_set ?_ GE126.out | refine below_set ?_ GE154.out) | exact HB.out))) : w.heap.size ≤ gb156)); have n9_ := Aside0.mk ((by rw [hg]; exact Nat.ne_of_lt (blk_lt (g := gb117) (o := .cells #[.slice none 0 0, .int .i64 x118001_4] 27 (0, 0)) (by (with_reducible repeat (first | refine blk_drewN ?_ _ | refine blk_drew ?_ | refine blk_alloc ?_ _)); exact BK117.out)) : gb117 ≠ gb156)); have n10_ := Aside0.mk ((by rw [hg]; exact Nat.ne_of_gt (blk_lt (g := gb117) (o := .cells #[.slice none 0 0, .int .i64 x118001_4] 27 (0, 0)) (by (with_reducible repeat (first | refine blk_drewN ?_ _ | refine blk_drew ?_ | refine blk_alloc ?_ _)); exact BK117.out)) : gb156 ≠ gb117)); have n11_ := Aside0.mk ((by rw [hg]; exact Nat.ne_of_lt (blk_lt (g := gb126) (o := .cells #[.int .i64 x127000_3, .bool x127001_3] 49 (0, 0)) (by (with_reducible repeat (first | refine blk_drewN ?_ _ | refine blk_drew ?_ | refine blk_alloc ?_ _)); exact BK126.out)) : gb126 ≠ gb156)); have n12_ := Aside0.mk ((by rw [hg]; exact Nat.ne_of_gt (blk_lt (g := gb126) (o := .cells #[.int .i64 x127000_3, .bool x127001_3] 49 (0, 0)) (by (with_reducible repeat (first | refine blk_drewN ?_ _ | refine blk_drew ?_ | refine blk_alloc ?_ _)); exact BK126.out)) : gb156 ≠ gb126)); have n13_ := Aside0.mk ((by rw [hg]; exact Nat.ne_of_lt (blk_lt (g := gb154) (o := .cells #[u155000, .int .i64 x127000_3] 27 (0, 0)) (by (with_reducible repeat (first | refine blk_drewN ?_ _ | refine blk_drew ?_ | refine blk_alloc ?_ _)); exact BK154.out)) : gb154 ≠ gb156)); have n14_ := Aside0.mk ((by rw [hg]; exact Nat.ne_of_gt (blk_lt (g := gb154) (o := .cells #[u155000, .int .i64 x127000_3] 27 (0, 0)) (by (with_reducible repeat (first | refine blk_drewN ?_ _ | refine blk_drew ?_ | refine blk_alloc ?_ _)); exact BK154.out)) : gb156 ≠ gb154)); clear HO_107; clear HO_155000; clear BK117; clear BK126; clear BK154; clear HB; have HO_107 := n0_; have HO_155000 := n1_; have BK117 := n2_; have BK126 := n3_; have BK154 := n4_; have HB := n5_; have BK156 := n6_; have GW156 := n7_; have GE156 := n8_; have NB117_156 := n9_; have NB156_117 := n10_; have NB126_156 := n11_; have NB156_126 := n12_; have NB154_156 := n13_; have NB156_154 := n14_; clear n0_ n1_ n2_ n3_ n4_ n5_ n6_ n7_ n8_ n9_ n10_ n11_ n12_ n13_ n14_; clear hb hbox hg; have hnb97 := NB156_117.out; have hnc97 := NB117_156.out; have hnb98 := NB156_126.out; have hnc98 := NB126_156.out; have hnb99 := NB156_154.out; have hnc99 := NB154_156.out; have hcz100_0 : w96.cell? ⟨gb156, 0, none⟩ = some (.int .i64 0) := (blk_cell BK156.out 0).trans rfl; have hcz100_1 : w96.cell? ⟨gb156, 1, none⟩ = some (.bool false) := (blk_cell BK156.out 1).trans rfl; have hfz100_0 := blk_frozen BK156.out 0; have hfz100_1 := blk_frozen BK156.out 1) | ((with_reducible refine gate_store (t := 49) (p := 17) rfl ?_); refine store_event (t := 49) (p := 17) (v := ?vo_w101) (w1 := ((w96.setCell ⟨gb156, 0, none⟩ (.int .i64 ((rd_T49 x8_3 x109_4).f0))).setCell ⟨gb156, 1, none⟩ (.bool true))) ?hg ?ho ?hn ?hr ?_; (case ho => rfl); (case hg => rfl); (case hn => rfl); (case hr => first | (go_simp; done) | (go_simp; rfl)); intro w101 hw; have n0_ : Aside0 (Kd.R k49 49 w101 w.heap.size (fun k_ => k_ ≠ gb126 ∧ k_ ≠ gb156) (.slice (some ad155) x8_3.length co14) x8_3) := ⟨(by rw [hw]; exact (by (with_reducible repeat (first | apply Kd.R_alloc | apply Kd.R_drewN | apply Kd.R_drew)); exact Kd.R_mono (Kd.R_far (p := ⟨gb156, 1, none⟩) (Kd.R_far (p := ⟨gb156, 0, none⟩) (Kd.R_mono HO_107.out (fun k_ hk => (⟨hk, hk.2⟩ : _ ∧ k_ ≠ gb156))) (fun _ hk => hk.2) (.int .i64 ((rd_T49 x8_3 x109_4).f0))) (fun _ hk => hk.2) (.bool true)) (fun _ hk => ⟨hk.1.1, hk.1.2⟩)))⟩; have n1_ : Aside0 (Kd.R (Kd.int .i64) 3 w101 w.heap.size (fun _ => True) u155000 x155000_4) := ⟨(by rw [hw]; exact (by (with_reducible repeat (first | apply Kd.R_alloc | apply Kd.R_drewN | apply Kd.R_drew)); exact Kd.R_mono (Kd.R_far (p := ⟨gb156, 1, none⟩) (Kd.R_far (p := ⟨gb156, 0, none⟩) (Kd.R_types HO_155000.out BK156.out (by decide)) (fun _ hk => hk.2) (.int .i64 ((rd_T49 x8_3 x109_4).f0))) (fun _ hk => hk.2) (.bool true)) (fun _ hk => trivial)))⟩; have n2_ : Aside0 (w101.heap[gb117]? = some (.cells #[.slice none 0 0, .int .i64 x118001_4] 27 (0, 0))) := ⟨(by rw [hw]; exact (by (with_reducible repeat (first | refine blk_drewN ?_ _ | refine blk_drew ?_ | refine blk_alloc ?_ _)); refine blk_far ?_ NB117_156.out _; (with_reducible repeat (first | refine blk_drewN ?_ _ | refine blk_drew ?_ | refine blk_alloc ?_ _)); refine blk_far ?_ NB117_156.out _; (with_reducible repeat (first | refine blk_drewN ?_ _ | refine blk_drew ?_ | refine blk_alloc ?_ _)); exact BK117.out))⟩; have n3_ : Aside0 (w101.heap[gb126]? = some (.cells #[.int .i64 x127000_3, .bool x127001_3] 49 (0, 0))) := ⟨(by rw [hw]; exact (by (with_reducible repeat (first | refine blk_drewN ?_ _ | refine blk_drew ?_ | refine blk_alloc ?_ _)); refine blk_far ?_ NB126_156.out _; (with_reducible repeat (first | refine blk_drewN ?_ _ | refine blk_drew ?_ | refine blk_alloc ?_ _)); refine blk_far ?_ NB126_156.out _; (with_reducible repeat (first | refine blk_drewN ?_ _ | refine blk_drew ?_ | refine blk_alloc ?_ _)); exact BK126.out))⟩; have n4_ : Aside0 (w101.heap[gb154]? = some (.cells #[u155000, .int .i64 x127000_3] 27 (0, 0))) := ⟨(by rw [hw]; exact (by (with_reducible repeat (first | refine blk_drewN ?_ _ | refine blk_drew ?_ | refine blk_alloc ?_ _)); refine blk_far ?_ NB154_156.out _; (with_reducible repeat (first | refine blk_drewN ?_ _ | refine blk_drew ?_ | refine blk_alloc ?_ _)); refine blk_far ?_ NB154_156.out _; (with_reducible repeat (first | refine blk_drewN ?_ _ | refine blk_drew ?_ | refine blk_alloc ?_ _)); exact BK154.out))⟩; have n5_ : Aside0 (w101.heap[gb156]? = some (.cells #[.int .i64 ((rd_T49 x8_3 x109_4).f0), .bool true] 49 (0, 0))) := ⟨(by rw [hw]; exact (by (with_reducible repeat (first | refine blk_drewN ?_ _ | refine blk_drew ?_ | refine blk_alloc ?_ _)); refine blk_put (cs := #[.int .i64 ((rd_T49 x8_3 x109_4).f0), .bool false]) ?_ 1 _ rfl; (with_reducible repeat (first | refine blk_drewN ?_ _ | refine blk_drew ?_ | refine blk_alloc ?_ _)); refine blk_put (cs := #[.int .i64 0, .bool false]) ?_ 0 _ rfl; (with_reducible repeat (first | refine blk_drewN ?_ _ | refine blk_drew ?_ | refine blk_alloc ?_ _)); exact BK156.out))⟩; have n6_ : Aside0 (Below w.heap.size w w101) := ⟨(by rw [hw]; exact (by repeat (first | (with_reducible first | exact HB.out | apply below_alloc | apply pw_below_drewN | apply below_drew1 | refine below_set ?_ GE117.out | refine below_set ?_ GE126.out | refine below_set ?_ GE154.out | refine below_set ?_ GE156.out) | exact HB.out)))⟩; clear hw; clear HO_107; clear HO_155000; clear BK117; clear BK126; clear BK154; clear BK156; clear HB; have HO_107 := n0_; have HO_155000 := n1_; have BK117 := n2_; have BK126 := n3_; have BK154 := n4_; have BK156 := n5_; have HB := n6_; clear n0_ n1_ n2_ n3_ n4_ n5_ n6_; have hcz102_0 : w101.cell? ⟨gb156, 0, none⟩ = some (.int .i64 ((rd_T49 x8_3 x109_4).f0)) := (blk_cell BK156.out 0).trans rfl; have hcz102_1 : w101.cell? ⟨gb156, 1, none⟩ = some (.bool true) := (blk_cell BK156.out 1).trans rfl; have hfz102_0 := blk_frozen BK156.out 0; have hfz102_1 := blk_frozen BK156.out 1; have hnb103 := NB154_117.out; have hnc103 := NB117_154.out; have hnb104 := NB154_126.out; have hnc104 := NB126_154.out; have hcz105_0 : w101.cell? ⟨gb154, 0, none⟩ = some (u155000) := (blk_cell BK154.out 0).trans rfl; have hcz105_1 : w101.cell? ⟨gb154, 1, none⟩ = some (.int .i64 x127000_3) := (blk_cell BK154.out 1).trans rfl; have hfz105_0 := blk_frozen BK154.out 0; have hfz105_1 := blk_frozen BK154.out 1; have p95 : 0 ≤ (x109_4 : Int) := of_decide_eq_true (by first | (with_reducible assumption) | assumption); have q95 : (x109_4 : Int) < ((x155000_4.length : Int) : Int) := of_decide_eq_true (by first | (with_reducible assumption) | assumption); obtain ⟨go95, co95, eo95, gb95, gl95, cl95, HG95⟩ := Kd.R_form HO_155000.out (by omega); (first | cases eo95 | (injection eo95 with ea_ en_ ec_; (first | subst ea_ | (injection ea_ with ea_; subst ea_)); subst ec_; clear en_)); have GB95 := Aside0.mk gb95; have GG95 := Aside0.mk HG95; clear gb95 gl95 HG95; obtain ⟨hx95_0, hf95_0⟩ := Kd.R_celln 0 HO_155000.out (x109_4 : Int) p95 q95; replace p95 := eq_true p95; replace q95 := eq_true q95; obtain ⟨hy106_, hz106_⟩ := Kd.R_celln 0 HO_155000.out (x109_4 : Int) (of_decide_eq_true (by first | (with_reducible assumption) | assumption)) (of_decide_eq_true (by first | (with_reducible assumption) | assumption)); have HP106 := Kd.R_putg HO_155000.out (x109_4 : Int) ((rd_T49 x8_3 x109_4).f0)) | ((with_reducible refine gate_store (t := 3) (p := 123) rfl ?_); refine store_event (t := 3) (p := 123) (v := ?vo_w107) (w1 := (w101.setCell ⟨go95, (x109_4 : Int).toNat, none⟩ (.int .i64 ((rd_T49 x8_3 x109_4).f0)))) ?hg ?ho ?hn ?hr ?_; (case ho => rfl); (case hg => rfl); (case hn => rfl); (case hr => first | (go_simp; done) | (go_simp; rfl)); intro w107 hw; have hg : w101.grownBy w107 (some go95) := (by rw [hw]; exact HP106.2); have hp_ : Kd.R (Kd.int .i64) 3 w107 w.heap.size (fun _ => True) (.slice (some ⟨go95, 0, none⟩) x155000_4.length co95) y157 := (by rw [hw, Ny157.out]; exact HP106.1); clear HP106; have n0_ := Aside0.mk (Kd.R_over' (v := (.slice (some ⟨go95, 0, none⟩) x155000_4.length co95)) (by (with_reducible repeat (first | apply Kd.R_alloc | apply Kd.R_drewN | apply Kd.R_drew)); exact HO_107.out) (Kd.R_typed HO_155000.out) (by decide) hg); have n1_ := Aside0.mk (hp_); have n2_ := Aside0.mk (blk_grown (g := gb117) (o := .cells #[.slice none 0 0, .int .i64 x118001_4] 27 (0, 0)) (by (with_reducible repeat (first | refine blk_drewN ?_ _ | refine blk_drew ?_ | refine blk_alloc ?_ _)); exact BK117.out) hg (Kd.R_ne HO_155000.out BK117.out (by decide))); have n3_ := Aside0.mk (blk_grown (g := gb126) (o := .cells #[.int .i64 x127000_3, .bool x127001_3] 49 (0, 0)) (by (with_reducible repeat (first | refine blk_drewN ?_ _ | refine blk_drew ?_ | refine blk_alloc ?_ _)); exact BK126.out) hg (Kd.R_ne HO_155000.out BK126.out (by decide))); have n4_ := Aside0.mk (blk_grown (g := gb154) (o := .cells #[.slice (some ⟨go95, 0, none⟩) x155000_4.length co95, .int .i64 x127000_3] 27 (0, 0)) (by (with_reducible repeat (first | refine blk_drewN ?_ _ | refine blk_drew ?_ | refine blk_alloc ?_ _)); exact BK154.out) hg (Kd.R_ne HO_155000.out BK154.out (by decide))); have n5_ := Aside0.mk (blk_grown (g := gb156) (o := .cells #[.int .i64 ((rd_T49 x8_3 x109_4).f0), .bool true] 49 (0, 0)) (by (with_reducible repeat (first | refine blk_drewN ?_ _ | refine blk_drew ?_ | refine blk_alloc ?_ _)); exact BK156.out) hg (Kd.R_ne HO_155000.out BK156.out (by decide))); have n6_ := Aside0.mk ((by rw [hw]; exact below_set (HB.out) GB95.out : Below w.heap.size w w107)); clear HO_107; clear HO_155000; clear BK117; clear BK126; clear BK154; clear BK156; clear HB; have HO_107 := n0_; have HO_155000 := n1_; have BK117 := n2_; have BK126 := n3_; have BK154 := n4_; have BK156 := n5_; have HB := n6_; clear n0_ n1_ n2_ n3_ n4_ n5_ n6_; clear hg hw hp_))
                                          go_roundg k4
                                          case measure => have := HJ3.out; have := HK2.out; have := HK3.out; have := HK4.out; omega
                                          case rel => exact ⟨(wrap64 (x109_4 + 1)), (x118001_4), (y157), (.slice (some ⟨go95, 0, none⟩) x155000_4.length co95), (by first | rfl | (simp; done) | (simp [*]; done)), H', ⟨by have := HJ3.out; have := HK2.out; have := HK3.out; have := HK4.out; omega⟩, ⟨by (try simp only [hl8_2]); (try simp only [hl8_3]); (with_reducible repeat (first | apply Kd.R_alloc | apply Kd.R_drewN | apply Kd.R_drew)); exact Kd.R_mono HO_107.out (fun _ hk => hk.1)⟩, ⟨by (try simp only [hl8_2]); (try simp only [hl8_3]); (with_reducible repeat (first | apply Kd.R_alloc | apply Kd.R_drewN | apply Kd.R_drew)); exact HO_155000.out⟩, ⟨by (try simp only [hl8_2]); (try simp only [hl8_3]); (with_reducible repeat (first | refine blk_drewN ?_ _ | refine blk_drew ?_ | refine blk_alloc ?_ _)); exact BK117.out⟩, ⟨by (try simp only [hl8_2]); (try simp only [hl8_3]); (with_reducible repeat (first | refine blk_drewN ?_ _ | refine blk_drew ?_ | refine blk_alloc ?_ _)); exact BK126.out⟩, ⟨by (try simp only [hl8_2]); (try simp only [hl8_3]); (with_reducible repeat (first | refine blk_drewN ?_ _ | refine blk_drew ?_ | refine blk_alloc ?_ _)); exact BK154.out⟩, ⟨by repeat (first | (with_reducible first | exact HB.out | apply below_alloc | apply pw_below_drewN | apply below_drew1 | refine below_set ?_ GE117.out | refine below_set ?_ GE126.out | refine below_set ?_ GE154.out | refine below_set ?_ GE156.out) | exact HB.out)⟩⟩
                                        · rw [if_neg c94] at H
                                          exact absurd H (by simp)
                                      · replace c93 := Bool.eq_false_iff.mpr c93
                                        subst c93
                                        have H1 : (some (([] : List Int), 0, 14)) = some (r1, r2, r3) := by rw [if_neg (show ¬ (false = true) by decide)] at H; exact H
                                        clear H
                                        have H := H1
                                        clear H1
                                        simp only [Option.some.injEq, Prod.mk.injEq] at H
                                        obtain ⟨rfl, rfl, rfl⟩ := H
                                        have p155 : 0 ≤ (x109_4 : Int) := of_decide_eq_true (by first | (with_reducible assumption) | assumption)
                                        have q155 : x109_4 < (x8_3.length : Int) := of_decide_eq_true (by first | (with_reducible assumption) | assumption)
                                        obtain ⟨ad155, e155, hx155_0, hx155_1⟩ := at_T49 (Kd.R_reads' HO_107.out).2.2 x109_4 p155 q155
                                        (try rw [← Nbq92.out] at hx155_1)
                                        cases e155
                                        replace p155 := eq_true p155
                                        replace q155 := eq_true q155
                                        go_wp2_with (first | ((with_reducible refine gate_dst (N := 17) rfl ?_); (try (refine gate_guard (by rfl) ?_; dsimp only)); refine box_event ?hg (N := 17) ?hd (cs := #[.int .i64 0, .bool false]) (t := 49) ?hr ?_; (case hd => rfl); (case hg => rfl); (case hr => first | (go_simp; done) | (go_simp; rfl)); intro gb156 hg w108 hbox hb; have n0_ := Aside0.mk (Kd.R_below (Kd.R_elderB (by (with_reducible repeat (first | apply Kd.R_alloc | apply Kd.R_drewN | apply Kd.R_drew)); exact HO_107.out) gb156 (Nat.le_of_eq hg.symm)) hb); have n1_ := Aside0.mk (Kd.R_below (by (with_reducible repeat (first | apply Kd.R_alloc | apply Kd.R_drewN | apply Kd.R_drew)); exact HO_155000.out) hb); have n2_ := Aside0.mk (blk_below (g := gb117) (o := .cells #[.slice none 0 0, .int .i64 x118001_4] 27 (0, 0)) (by (with_reducible repeat (first | refine blk_drewN ?_ _ | refine blk_drew ?_ | refine blk_alloc ?_ _)); exact BK117.out) hb); have n3_ := Aside0.mk (blk_below (g := gb126) (o := .cells #[.int .i64 x127000_3, .bool x127001_3] 49 (0, 0)) (by (with_reducible repeat (first | refine blk_drewN ?_ _ | refine blk_drew ?_ | refine blk_alloc ?_ _)); exact BK126.out) hb); have n4_ := Aside0.mk (blk_below (g := gb154) (o := .cells #[u155000, .int .i64 x127000_3] 27 (0, 0)) (by (with_reducible repeat (first | refine blk_drewN ?_ _ | refine blk_drew ?_ | refine blk_alloc ?_ _)); exact BK154.out) hb); have n5_ := Aside0.mk (below_step (by repeat (first | (with_reducible first | exact HB.out | apply below_alloc | apply pw_below_drewN | apply below_drew1 | refine below_set ?_ GE117.out | refine below_set ?_ GE126.out | refine below_set ?_ GE154.out) | exact HB.out)) hb); have n6_ := Aside0.mk (hbox); have n7_ := Aside0.mk ((by rw [hg]; exact (below_size (by repeat (first | (with_reducible first | exact HB.out | apply below_alloc | apply pw_below_drewN | apply below_drew1 | refine below_set ?_ GE117.out | refine below_set ?_ GE126.out | refine below_set ?_ GE154.out) | exact HB.out))) : w.heap.size ≤ gb156)); have n8_ := Aside0.mk ((by rw [hg]; exact (below_size (by repeat (first | (with_reducible first | exact HB.out | apply below_alloc | apply pw_below_drewN | apply below_drew1 | refine below_set ?_ GE117.out | refine below_set ?_ GE126.out | refine below_set ?_ GE154.out) | exact HB.out))) : w.heap.size ≤ gb156)); have n9_ := Aside0.mk ((by rw [hg]; exact Nat.ne_of_lt (blk_lt (g := gb117) (o := .cells #[.slice none 0 0, .int .i64 x118001_4] 27 (0, 0)) (by (with_reducible repeat (first | refine blk_drewN ?_ _ | refine blk_drew ?_ | refine blk_alloc ?_ _)); exact BK117.out)) : gb117 ≠ gb156)); have n10_ := Aside0.mk ((by rw [hg]; exact Nat.ne_of_gt (blk_lt (g := gb117) (o := .cells #[.slice none 0 0, .int .i64 x118001_4] 27 (0, 0)) (by (with_reducible repeat (first | refine blk_drewN ?_ _ | refine blk_drew ?_ | refine blk_alloc ?_ _)); exact BK117.out)) : gb156 ≠ gb117)); have n11_ := Aside0.mk ((by rw [hg]; exact Nat.ne_of_lt (blk_lt (g := gb126) (o := .cells #[.int .i64 x127000_3, .bool x127001_3] 49 (0, 0)) (by (with_reducible repeat (first | refine blk_drewN ?_ _ | refine blk_drew ?_ | refine blk_alloc ?_ _)); exact BK126.out)) : gb126 ≠ gb156)); have n12_ := Aside0.mk ((by rw [hg]; exact Nat.ne_of_gt (blk_lt (g := gb126) (o := .cells #[.int .i64 x127000_3, .bool x127001_3] 49 (0, 0)) (by (with_reducible repeat (first | refine blk_drewN ?_ _ | refine blk_drew ?_ | refine blk_alloc ?_ _)); exact BK126.out)) : gb156 ≠ gb126)); have n13_ := Aside0.mk ((by rw [hg]; exact Nat.ne_of_lt (blk_lt (g := gb154) (o := .cells #[u155000, .int .i64 x127000_3] 27 (0, 0)) (by (with_reducible repeat (first | refine blk_drewN ?_ _ | refine blk_drew ?_ | refine blk_alloc ?_ _)); exact BK154.out)) : gb154 ≠ gb156)); have n14_ := Aside0.mk ((by rw [hg]; exact Nat.ne_of_gt (blk_lt (g := gb154) (o := .cells #[u155000, .int .i64 x127000_3] 27 (0, 0)) (by (with_reducible repeat (first | refine blk_drewN ?_ _ | refine blk_drew ?_ | refine blk_alloc ?_ _)); exact BK154.out)) : gb156 ≠ gb154)); clear HO_107; clear HO_155000; clear BK117; clear BK126; clear BK154; clear HB; have HO_107 := n0_; have HO_155000 := n1_; have BK117 := n2_; have BK126 := n3_; have BK154 := n4_; have HB := n5_; have BK156 := n6_; have GW156 := n7_; have GE156 := n8_; have NB117_156 := n9_; have NB156_117 := n10_; have NB126_156 := n11_; have NB156_126 := n12_; have NB154_156 := n13_; have NB156_154 := n14_; clear n0_ n1_ n2_ n3_ n4_ n5_ n6_ n7_ n8_ n9_ n10_ n11_ n12_ n13_ n14_; clear hb hbox hg; have hnb109 := NB156_117.out; have hnc109 := NB117_156.out; have hnb110 := NB156_126.out; have hnc110 := NB126_156.out; have hnb111 := NB156_154.out; have hnc111 := NB154_156.out; have hcz112_0 : w108.cell? ⟨gb156, 0, none⟩ = some (.int .i64 0) := (blk_cell BK156.out 0).trans rfl; have hcz112_1 : w108.cell? ⟨gb156, 1, none⟩ = some (.bool false) := (blk_cell BK156.out 1).trans rfl; have hfz112_0 := blk_frozen BK156.out 0; have hfz112_1 := blk_frozen BK156.out 1; have hnb113 := NB117_126.out; have hnc113 := NB126_117.out; have hnb114 := NB117_154.out; have hnc114 := NB154_117.out; have hcz115_0 : w108.cell? ⟨gb117, 0, none⟩ = some (.slice none 0 0) := (blk_cell BK117.out 0).trans rfl; have hcz115_1 : w108.cell? ⟨gb117, 1, none⟩ = some (.int .i64 x118001_4) := (blk_cell BK117.out 1).trans rfl; have hfz115_0 := blk_frozen BK117.out 0; have hfz115_1 := blk_frozen BK117.out 1))
                                        refine bodyPost_ret (results_ct rfl _ _ gb117 27 #[.slice none 0 0, .int .i64 0] (0, 0) _ rfl (by (with_reducible repeat (first | refine blk_drewN ?_ _ | refine blk_drew ?_ | refine blk_alloc ?_ _)); refine blk_put (cs := #[.slice none 0 0, .int .i64 x118001_4]) ?_ 1 _ rfl; (with_reducible repeat (first | refine blk_drewN ?_ _ | refine blk_drew ?_ | refine blk_alloc ?_ _)); refine blk_put (cs := #[.slice none 0 0, .int .i64 x118001_4]) ?_ 0 _ rfl; (with_reducible repeat (first | refine blk_drewN ?_ _ | refine blk_drew ?_ | refine blk_alloc ?_ _)); refine blk_far ?_ NB117_156.out _; (with_reducible repeat (first | refine blk_drewN ?_ _ | refine blk_drew ?_ | refine blk_alloc ?_ _)); refine blk_far ?_ NB117_156.out _; (with_reducible repeat (first | refine blk_drewN ?_ _ | refine blk_drew ?_ | refine blk_alloc ?_ _)); exact BK117.out) Try.underlying27 rfl (by kernel_rfl)) rfl ?_
                                        exact ⟨_, by first | rfl | (simp [errW_none, errW_some] <;> rfl) | (simp [*, errW_none, errW_some] <;> rfl), by first | exact Kd.R_nil _ _ _ _ _ | exact Kd.N_nil _ _ _ _ _ | exact Kd.V_nil _ _ _ _ _ | exact Kd.Q_nil _ _ _ _ _ | exact Kd.S_nil _ _ _ _ _, by repeat (first | (with_reducible first | exact HB.out | apply below_alloc | apply pw_below_drewN | apply below_drew1 | refine below_set ?_ GE117.out | refine below_set ?_ GE126.out | refine below_set ?_ GE154.out | refine below_set ?_ GE156.out) | exact HB.out)⟩
                                    · rw [if_neg c91] at H
                                      exact absurd H (by simp)
                                  · rw [if_neg c90] at H
                                    exact absurd H (by simp)
                                · rw [if_neg c89] at H
                                  have c89b0 : decide (x109_4 < (x8_3.length : Int)) = false := decide_eq_false c89
                                  clear c89
                                  by_cases c116 : x127001_3 = true
                                  · subst c116
                                    have H1 : (some (x155000_4, x127000_3, 0)) = some (r1, r2, r3) := by rw [if_pos rfl] at H; exact H
                                    clear H
                                    have H := H1
                                    clear H1
                                    simp only [Option.some.injEq, Prod.mk.injEq] at H
                                    obtain ⟨rfl, rfl, rfl⟩ := H
                                    have hnb117 := NB126_117.out
                                    have hnc117 := NB117_126.out
                                    have hnb118 := NB126_154.out
                                    have hnc118 := NB154_126.out
                                    have hcz119_0 : wr.cell? ⟨gb126, 0, none⟩ = some (.int .i64 x127000_3) := (blk_cell BK126.out 0).trans rfl
                                    have hcz119_1 : wr.cell? ⟨gb126, 1, none⟩ = some (.bool true) := (blk_cell BK126.out 1).trans rfl
                                    have hfz119_0 := blk_frozen BK126.out 0
                                    have hfz119_1 := blk_frozen BK126.out 1
                                    have hnb120 := NB154_117.out
                                    have hnc120 := NB117_154.out
                                    have hcz121_0 : wr.cell? ⟨gb154, 0, none⟩ = some (u155000) := (blk_cell BK154.out 0).trans rfl
                                    have hcz121_1 : wr.cell? ⟨gb154, 1, none⟩ = some (.int .i64 x127000_3) := (blk_cell BK154.out 1).trans rfl
                                    have hfz121_0 := blk_frozen BK154.out 0
                                    have hfz121_1 := blk_frozen BK154.out 1
                                    obtain ⟨Ao122, co122, eo122⟩ := Kd.R_slice HO_155000.out
                                    subst eo122
                                    have hcz123_0 : wr.cell? ⟨gb117, 0, none⟩ = some (.slice none 0 0) := (blk_cell BK117.out 0).trans rfl
                                    have hcz123_1 : wr.cell? ⟨gb117, 1, none⟩ = some (.int .i64 x118001_4) := (blk_cell BK117.out 1).trans rfl
                                    have hfz123_0 := blk_frozen BK117.out 0
                                    have hfz123_1 := blk_frozen BK117.out 1
                                    go_wp2
                                    refine bodyPost_ret (results_ct rfl _ _ gb117 27 #[.slice Ao122 x155000_4.length co122, .int .i64 x127000_3] (0, 0) _ rfl (by (with_reducible repeat (first | refine blk_drewN ?_ _ | refine blk_drew ?_ | refine blk_alloc ?_ _)); refine blk_put (cs := #[.slice Ao122 x155000_4.length co122, .int .i64 x118001_4]) ?_ 1 _ rfl; (with_reducible repeat (first | refine blk_drewN ?_ _ | refine blk_drew ?_ | refine blk_alloc ?_ _)); refine blk_put (cs := #[.slice none 0 0, .int .i64 x118001_4]) ?_ 0 _ rfl; (with_reducible repeat (first | refine blk_drewN ?_ _ | refine blk_drew ?_ | refine blk_alloc ?_ _)); exact BK117.out) Try.underlying27 rfl (by kernel_rfl)) rfl ?_
                                    exact ⟨_, by first | rfl | (simp [errW_none, errW_some] <;> rfl) | (simp [*, errW_none, errW_some] <;> rfl), by (with_reducible repeat (first | apply Kd.R_alloc | apply Kd.R_drewN | apply Kd.R_drew)); exact Kd.R_mono (Kd.R_far (p := ⟨gb117, 1, none⟩) (Kd.R_far (p := ⟨gb117, 0, none⟩) (Kd.R_types HO_155000.out BK117.out (by decide)) (fun _ hk => hk.2) (.slice Ao122 x155000_4.length co122)) (fun _ hk => hk.2) (.int .i64 x127000_3)) (fun _ hk => trivial), by repeat (first | (with_reducible first | exact HB.out | apply below_alloc | apply pw_below_drewN | apply below_drew1 | refine below_set ?_ GE117.out | refine below_set ?_ GE126.out | refine below_set ?_ GE154.out) | exact HB.out)⟩
                                  · replace c116 := Bool.eq_false_iff.mpr c116
                                    subst c116
                                    have H1 : (some (([] : List Int), 0, 14)) = some (r1, r2, r3) := by rw [if_neg (show ¬ (false = true) by decide)] at H; exact H
                                    clear H
                                    have H := H1
                                    clear H1
                                    simp only [Option.some.injEq, Prod.mk.injEq] at H
                                    obtain ⟨rfl, rfl, rfl⟩ := H
                                    have hnb124 := NB126_117.out
                                    have hnc124 := NB117_126.out
                                    have hnb125 := NB126_154.out
                                    have hnc125 := NB154_126.out
                                    have hcz126_0 : wr.cell? ⟨gb126, 0, none⟩ = some (.int .i64 x127000_3) := (blk_cell BK126.out 0).trans rfl
                                    have hcz126_1 : wr.cell? ⟨gb126, 1, none⟩ = some (.bool false) := (blk_cell BK126.out 1).trans rfl
                                    have hfz126_0 := blk_frozen BK126.out 0
                                    have hfz126_1 := blk_frozen BK126.out 1
                                    have hnb127 := NB117_154.out
                                    have hnc127 := NB154_117.out
                                    have hcz128_0 : wr.cell? ⟨gb117, 0, none⟩ = some (.slice none 0 0) := (blk_cell BK117.out 0).trans rfl
                                    have hcz128_1 : wr.cell? ⟨gb117, 1, none⟩ = some (.int .i64 x118001_4) := (blk_cell BK117.out 1).trans rfl
                                    have hfz128_0 := blk_frozen BK117.out 0
                                    have hfz128_1 := blk_frozen BK117.out 1
                                    go_wp2
                                    refine bodyPost_ret (results_ct rfl _ _ gb117 27 #[.slice none 0 0, .int .i64 0] (0, 0) _ rfl (by (with_reducible repeat (first | refine blk_drewN ?_ _ | refine blk_drew ?_ | refine blk_alloc ?_ _)); refine blk_put (cs := #[.slice none 0 0, .int .i64 x118001_4]) ?_ 1 _ rfl; (with_reducible repeat (first | refine blk_drewN ?_ _ | refine blk_drew ?_ | refine blk_alloc ?_ _)); refine blk_put (cs := #[.slice none 0 0, .int .i64 x118001_4]) ?_ 0 _ rfl; (with_reducible repeat (first | refine blk_drewN ?_ _ | refine blk_drew ?_ | refine blk_alloc ?_ _)); exact BK117.out) Try.underlying27 rfl (by kernel_rfl)) rfl ?_
                                    exact ⟨_, by first | rfl | (simp [errW_none, errW_some] <;> rfl) | (simp [*, errW_none, errW_some] <;> rfl), by first | exact Kd.R_nil _ _ _ _ _ | exact Kd.N_nil _ _ _ _ _ | exact Kd.V_nil _ _ _ _ _ | exact Kd.Q_nil _ _ _ _ _ | exact Kd.S_nil _ _ _ _ _, by repeat (first | (with_reducible first | exact HB.out | apply below_alloc | apply pw_below_drewN | apply below_drew1 | refine below_set ?_ GE117.out | refine below_set ?_ GE126.out | refine below_set ?_ GE154.out) | exact HB.out)⟩
                          · rw [if_neg c79] at H
                            exact absurd H (by simp)
                        · rw [if_neg c78] at H
                          exact absurd H (by simp)
          · rw [if_neg c11] at H
            exact absurd H (by simp)
        · rw [if_neg c10] at H
          exact absurd H (by simp)

end Go.Proofs.Ythfkajolockcgaa.QLinAdds
