-- Written by a program of ours (tools/mkprint.py) over the kit's printing program, for the law LinSound: some functions' texts are ours.
import Derived.Test.YthfkajolockcgaaQLinSoundx0
import Derived.Test.YthfkajolockcgaaQLinSoundx1
namespace Go.Proofs.Ythfkajolockcgaa.QLinSound
open Go.RowKit Go.Proofs.YthfkajolockcgaaW.PrintWords Go.Proofs.YthfkajolockcgaaW.PrintLast Go.Proofs.YthfkajolockcgaaW.PrintMore
attribute [local go_sem] max2_int min2_int max_two min_two max_three min_three max_four min_four   -- for this text's walks alone
set_option linter.unusedVariables false
set_option linter.unusedSimpArgs false

/-! ### lin_Sum: function 11 -/
mutual
def lin_Sum.j0 : Nat → List (S27) → List Int → Int → Bool → Option (List Int × Int × Int)
  | 0, _, _, _, _ => none
  | k + 1, x0, x1, x2, x30 => if x30 = true then (some (([] : List Int), 0, 14)) else (if 0 ≤ x2 then (if (x2 : Int).toNat ≤ 17592186044416 then ((some (List.replicate (x2 : Int).toNat z49 : List (S49))).bind fun y117 => (lin_Sum.l0 k x0 x1 x2 y117 (y117.length : Int) 0)) else (none)) else (none))
def lin_Sum.l0 : Nat → List (S27) → List Int → Int → List (S49) → Int → Int → Option (List Int × Int × Int)
  | 0, _, _, _, _, _, _ => none
  | k + 1, x0, x1, x2, x8, x35, x36 => if x36 < x35 then ((lin_of.f 0).bind fun bt120 => (if 0 ≤ x36 then (if x36 < (x8.length : Int) then (lin_Sum.l0 k x0 x1 x2 (x8.set (x36 : Int).toNat (⟨bt120.1, bt120.2⟩ : S49)) x35 (wrap64 (x36 + 1))) else (none)) else (none))) else ((lin_of.f 0).bind fun bt123 => (lin_Sum.l1 k x1 x2 x8 x0 (x0.length : Int) 0 bt123.1 bt123.2))
def lin_Sum.l1 : Nat → List Int → Int → List (S49) → List (S27) → Int → Int → Int → Bool → Option (List Int × Int × Int)
  | 0, _, _, _, _, _, _, _, _ => none
  | k + 1, x1, x2, x8, x45, x46, x47, x126000, x126001 => if x47 < x46 then (if 0 ≤ x47 then (if x47 < (x45.length : Int) then (if x47 < (x1.length : Int) then (if (rd x1 x47) < 0 then (lin_Sum.j3 k x1 x2 x8 x47 x45 x46 x47 true x126000 x126001 ((rd_T27 x45 x47).f0) ((rd_T27 x45 x47).f1)) else (lin_Sum.j3 k x1 x2 x8 x47 x45 x46 x47 ((((rd_T27 x45 x47).f0).length : Int) != x2) x126000 x126001 ((rd_T27 x45 x47).f0) ((rd_T27 x45 x47).f1))) else (none)) else (none)) else (none)) else (if 0 ≤ x2 then (if (x2 : Int).toNat ≤ 35184372088832 then (lin_Sum.l3 k x8 (x8.length : Int) 0 x126000 x126001 (List.replicate (x2 : Int).toNat 0) x126000) else (none)) else (none))
def lin_Sum.j3 : Nat → List Int → Int → List (S49) → Int → List (S27) → Int → Int → Bool → Int → Bool → List Int → Int → Option (List Int × Int × Int)
  | 0, _, _, _, _, _, _, _, _, _, _, _, _ => none
  | k + 1, x1, x2, x8, x11, x45, x46, x47, x63, x126000, x126001, x128000, x128001 => if x63 = true then (some (([] : List Int), 0, 14)) else (lin_Sum.l2 k x1 x2 x8 x11 x45 x46 x47 x128000 (x128000.length : Int) 0 x126000 x126001 x128000 x128001)
def lin_Sum.l2 : Nat → List Int → Int → List (S49) → Int → List (S27) → Int → Int → List Int → Int → Int → Int → Bool → List Int → Int → Option (List Int × Int × Int)
  | 0, _, _, _, _, _, _, _, _, _, _, _, _, _, _ => none
  | k + 1, x1, x2, x8, x11, x45, x46, x47, x66, x67, x68, x126000, x126001, x128000, x128001 => if x68 < x67 then (if 0 ≤ x68 then (if x68 < (x66.length : Int) then (if x68 < (x8.length : Int) then ((lin_of.f (rd x66 x68)).bind fun bt131 => (if 0 ≤ x11 then (if x11 < (x1.length : Int) then ((lin_of.f (rd x1 x11)).bind fun bt134 => ((lin_sure_times.f k bt131.1 bt131.2 bt134.1 bt134.2).bind fun bt136 => ((lin_sure_plus.f ((rd_T49 x8 x68).f0) ((rd_T49 x8 x68).f1) bt136.1 bt136.2).bind fun bt138 => (lin_Sum.l2 k x1 x2 (x8.set (x68 : Int).toNat (⟨bt138.1, bt138.2⟩ : S49)) x11 x45 x46 x47 x66 x67 (wrap64 (x68 + 1)) x126000 x126001 x128000 x128001)))) else (none)) else (none))) else (none)) else (none)) else (none)) else ((lin_of.f x128001).bind fun bt141 => (if 0 ≤ x11 then (if x11 < (x1.length : Int) then ((lin_of.f (rd x1 x11)).bind fun bt144 => ((lin_sure_times.f k bt141.1 bt141.2 bt144.1 bt144.2).bind fun bt146 => ((lin_sure_plus.f x126000 x126001 bt146.1 bt146.2).bind fun bt148 => (lin_Sum.l1 k x1 x2 x8 x45 x46 (wrap64 (x47 + 1)) bt148.1 bt148.2)))) else (none)) else (none)))
def lin_Sum.l3 : Nat → List (S49) → Int → Int → Int → Bool → List Int → Int → Option (List Int × Int × Int)
  | 0, _, _, _, _, _, _, _ => none
  | k + 1, x107, x108, x109, x126000, x126001, x154000, x154001 => if x109 < x108 then (if 0 ≤ x109 then (if x109 < (x107.length : Int) then (if ((rd_T49 x107 x109).f1 = true) then (if x109 < (x154000.length : Int) then (lin_Sum.l3 k x107 x108 (wrap64 (x109 + 1)) x126000 x126001 (x154000.set (x109 : Int).toNat ((rd_T49 x107 x109).f0)) x154001) else (none)) else (some (([] : List Int), 0, 14))) else (none)) else (none)) else (if x126001 = true then (some (x154000, x154001, 0)) else (some (([] : List Int), 0, 14)))
end
def lin_Sum.f (k : Nat) (l0 : List (S27)) (l1 : List Int) (a2 : Int) : Option (List Int × Int × Int) := if (l0.length : Int) = (l1.length : Int) then (if a2 < 0 then (lin_Sum.j0 k l0 l1 a2 true) else (lin_Sum.j0 k l0 l1 a2 (decide (a2 > 64)))) else (lin_Sum.j0 k l0 l1 a2 true)
theorem lin_Sum.mono_l : ∀ k, (∀ y0 y1 y2 y3, LeO (lin_Sum.j0 k y0 y1 y2 y3) (lin_Sum.j0 (k + 1) y0 y1 y2 y3)) ∧ (∀ y0 y1 y2 y3 y4 y5, LeO (lin_Sum.l0 k y0 y1 y2 y3 y4 y5) (lin_Sum.l0 (k + 1) y0 y1 y2 y3 y4 y5)) ∧ (∀ y0 y1 y2 y3 y4 y5 y6 y7, LeO (lin_Sum.l1 k y0 y1 y2 y3 y4 y5 y6 y7) (lin_Sum.l1 (k + 1) y0 y1 y2 y3 y4 y5 y6 y7)) ∧ (∀ y0 y1 y2 y3 y4 y5 y6 y7 y8 y9 y10 y11, LeO (lin_Sum.j3 k y0 y1 y2 y3 y4 y5 y6 y7 y8 y9 y10 y11) (lin_Sum.j3 (k + 1) y0 y1 y2 y3 y4 y5 y6 y7 y8 y9 y10 y11)) ∧ (∀ y0 y1 y2 y3 y4 y5 y6 y7 y8 y9 y10 y11 y12 y13, LeO (lin_Sum.l2 k y0 y1 y2 y3 y4 y5 y6 y7 y8 y9 y10 y11 y12 y13) (lin_Sum.l2 (k + 1) y0 y1 y2 y3 y4 y5 y6 y7 y8 y9 y10 y11 y12 y13)) ∧ (∀ y0 y1 y2 y3 y4 y5 y6, LeO (lin_Sum.l3 k y0 y1 y2 y3 y4 y5 y6) (lin_Sum.l3 (k + 1) y0 y1 y2 y3 y4 y5 y6))
  | 0 => ⟨fun _ _ _ _ r h => by simp [lin_Sum.j0] at h, fun _ _ _ _ _ _ r h => by simp [lin_Sum.l0] at h, fun _ _ _ _ _ _ _ _ r h => by simp [lin_Sum.l1] at h, fun _ _ _ _ _ _ _ _ _ _ _ _ r h => by simp [lin_Sum.j3] at h, fun _ _ _ _ _ _ _ _ _ _ _ _ _ _ r h => by simp [lin_Sum.l2] at h, fun _ _ _ _ _ _ _ r h => by simp [lin_Sum.l3] at h⟩
  | k + 1 => by
    obtain ⟨ih0, ih1, ih2, ih3, ih4, ih5⟩ := lin_Sum.mono_l k
    refine ⟨?_, ?_, ?_, ?_, ?_, ?_⟩
    · intro y0 y1 y2 y3
      unfold lin_Sum.j0
      repeat' first
      | (with_reducible exact ih0 _ _ _ _)
      | (with_reducible exact ih1 _ _ _ _ _ _)
      | (with_reducible exact ih2 _ _ _ _ _ _ _ _)
      | (with_reducible exact ih3 _ _ _ _ _ _ _ _ _ _ _ _)
      | (with_reducible exact ih4 _ _ _ _ _ _ _ _ _ _ _ _ _ _)
      | (with_reducible exact ih5 _ _ _ _ _ _ _)
      | (with_reducible exact lin_sure_times.mono _ _ _ _ _)
      | (with_reducible exact LeO.refl _)
      | (with_reducible exact LeO.none _)
      | (with_reducible refine LeO.ite ?_ ?_)
      | (with_reducible refine LeO.bind ?_ (fun _ => ?_))
      | exact ih0 _ _ _ _
      | exact ih1 _ _ _ _ _ _
      | exact ih2 _ _ _ _ _ _ _ _
      | exact ih3 _ _ _ _ _ _ _ _ _ _ _ _
      | exact ih4 _ _ _ _ _ _ _ _ _ _ _ _ _ _
      | exact ih5 _ _ _ _ _ _ _
      | exact lin_sure_times.mono _ _ _ _ _
      | exact LeO.none _
      | refine LeO.ite ?_ ?_
      | refine LeO.bind ?_ (fun _ => ?_)
    · intro y0 y1 y2 y3 y4 y5
      unfold lin_Sum.l0
      repeat' first
      | (with_reducible exact ih0 _ _ _ _)
      | (with_reducible exact ih1 _ _ _ _ _ _)
      | (with_reducible exact ih2 _ _ _ _ _ _ _ _)
      | (with_reducible exact ih3 _ _ _ _ _ _ _ _ _ _ _ _)
      | (with_reducible exact ih4 _ _ _ _ _ _ _ _ _ _ _ _ _ _)
      | (with_reducible exact ih5 _ _ _ _ _ _ _)
      | (with_reducible exact lin_sure_times.mono _ _ _ _ _)
      | (with_reducible exact LeO.refl _)
      | (with_reducible exact LeO.none _)
      | (with_reducible refine LeO.ite ?_ ?_)
      | (with_reducible refine LeO.bind ?_ (fun _ => ?_))
      | exact ih0 _ _ _ _
      | exact ih1 _ _ _ _ _ _
      | exact ih2 _ _ _ _ _ _ _ _
      | exact ih3 _ _ _ _ _ _ _ _ _ _ _ _
      | exact ih4 _ _ _ _ _ _ _ _ _ _ _ _ _ _
      | exact ih5 _ _ _ _ _ _ _
      | exact lin_sure_times.mono _ _ _ _ _
      | exact LeO.none _
      | refine LeO.ite ?_ ?_
      | refine LeO.bind ?_ (fun _ => ?_)
    · intro y0 y1 y2 y3 y4 y5 y6 y7
      unfold lin_Sum.l1
      repeat' first
      | (with_reducible exact ih0 _ _ _ _)
      | (with_reducible exact ih1 _ _ _ _ _ _)
      | (with_reducible exact ih2 _ _ _ _ _ _ _ _)
      | (with_reducible exact ih3 _ _ _ _ _ _ _ _ _ _ _ _)
      | (with_reducible exact ih4 _ _ _ _ _ _ _ _ _ _ _ _ _ _)
      | (with_reducible exact ih5 _ _ _ _ _ _ _)
      | (with_reducible exact lin_sure_times.mono _ _ _ _ _)
      | (with_reducible exact LeO.refl _)
      | (with_reducible exact LeO.none _)
      | (with_reducible refine LeO.ite ?_ ?_)
      | (with_reducible refine LeO.bind ?_ (fun _ => ?_))
      | exact ih0 _ _ _ _
      | exact ih1 _ _ _ _ _ _
      | exact ih2 _ _ _ _ _ _ _ _
      | exact ih3 _ _ _ _ _ _ _ _ _ _ _ _
      | exact ih4 _ _ _ _ _ _ _ _ _ _ _ _ _ _
      | exact ih5 _ _ _ _ _ _ _
      | exact lin_sure_times.mono _ _ _ _ _
      | exact LeO.none _
      | refine LeO.ite ?_ ?_
      | refine LeO.bind ?_ (fun _ => ?_)
    · intro y0 y1 y2 y3 y4 y5 y6 y7 y8 y9 y10 y11
      unfold lin_Sum.j3
      repeat' first
      | (with_reducible exact ih0 _ _ _ _)
      | (with_reducible exact ih1 _ _ _ _ _ _)
      | (with_reducible exact ih2 _ _ _ _ _ _ _ _)
      | (with_reducible exact ih3 _ _ _ _ _ _ _ _ _ _ _ _)
      | (with_reducible exact ih4 _ _ _ _ _ _ _ _ _ _ _ _ _ _)
      | (with_reducible exact ih5 _ _ _ _ _ _ _)
      | (with_reducible exact lin_sure_times.mono _ _ _ _ _)
      | (with_reducible exact LeO.refl _)
      | (with_reducible exact LeO.none _)
      | (with_reducible refine LeO.ite ?_ ?_)
      | (with_reducible refine LeO.bind ?_ (fun _ => ?_))
      | exact ih0 _ _ _ _
      | exact ih1 _ _ _ _ _ _
      | exact ih2 _ _ _ _ _ _ _ _
      | exact ih3 _ _ _ _ _ _ _ _ _ _ _ _
      | exact ih4 _ _ _ _ _ _ _ _ _ _ _ _ _ _
      | exact ih5 _ _ _ _ _ _ _
      | exact lin_sure_times.mono _ _ _ _ _
      | exact LeO.none _
      | refine LeO.ite ?_ ?_
      | refine LeO.bind ?_ (fun _ => ?_)
    · intro y0 y1 y2 y3 y4 y5 y6 y7 y8 y9 y10 y11 y12 y13
      unfold lin_Sum.l2
      repeat' first
      | (with_reducible exact ih0 _ _ _ _)
      | (with_reducible exact ih1 _ _ _ _ _ _)
      | (with_reducible exact ih2 _ _ _ _ _ _ _ _)
      | (with_reducible exact ih3 _ _ _ _ _ _ _ _ _ _ _ _)
      | (with_reducible exact ih4 _ _ _ _ _ _ _ _ _ _ _ _ _ _)
      | (with_reducible exact ih5 _ _ _ _ _ _ _)
      | (with_reducible exact lin_sure_times.mono _ _ _ _ _)
      | (with_reducible exact LeO.refl _)
      | (with_reducible exact LeO.none _)
      | (with_reducible refine LeO.ite ?_ ?_)
      | (with_reducible refine LeO.bind ?_ (fun _ => ?_))
      | exact ih0 _ _ _ _
      | exact ih1 _ _ _ _ _ _
      | exact ih2 _ _ _ _ _ _ _ _
      | exact ih3 _ _ _ _ _ _ _ _ _ _ _ _
      | exact ih4 _ _ _ _ _ _ _ _ _ _ _ _ _ _
      | exact ih5 _ _ _ _ _ _ _
      | exact lin_sure_times.mono _ _ _ _ _
      | exact LeO.none _
      | refine LeO.ite ?_ ?_
      | refine LeO.bind ?_ (fun _ => ?_)
    · intro y0 y1 y2 y3 y4 y5 y6
      unfold lin_Sum.l3
      repeat' first
      | (with_reducible exact ih0 _ _ _ _)
      | (with_reducible exact ih1 _ _ _ _ _ _)
      | (with_reducible exact ih2 _ _ _ _ _ _ _ _)
      | (with_reducible exact ih3 _ _ _ _ _ _ _ _ _ _ _ _)
      | (with_reducible exact ih4 _ _ _ _ _ _ _ _ _ _ _ _ _ _)
      | (with_reducible exact ih5 _ _ _ _ _ _ _)
      | (with_reducible exact lin_sure_times.mono _ _ _ _ _)
      | (with_reducible exact LeO.refl _)
      | (with_reducible exact LeO.none _)
      | (with_reducible refine LeO.ite ?_ ?_)
      | (with_reducible refine LeO.bind ?_ (fun _ => ?_))
      | exact ih0 _ _ _ _
      | exact ih1 _ _ _ _ _ _
      | exact ih2 _ _ _ _ _ _ _ _
      | exact ih3 _ _ _ _ _ _ _ _ _ _ _ _
      | exact ih4 _ _ _ _ _ _ _ _ _ _ _ _ _ _
      | exact ih5 _ _ _ _ _ _ _
      | exact lin_sure_times.mono _ _ _ _ _
      | exact LeO.none _
      | refine LeO.ite ?_ ?_
      | refine LeO.bind ?_ (fun _ => ?_)
theorem lin_Sum.mono : ∀ a0 a1 a2 k, LeO (lin_Sum.f k a0 a1 a2) (lin_Sum.f (k + 1) a0 a1 a2) := by
  intro a0 a1 a2 k
  obtain ⟨ih0, ih1, ih2, ih3, ih4, ih5⟩ := lin_Sum.mono_l k
  unfold lin_Sum.f
  repeat' first
      | (with_reducible exact ih0 _ _ _ _)
      | (with_reducible exact ih1 _ _ _ _ _ _)
      | (with_reducible exact ih2 _ _ _ _ _ _ _ _)
      | (with_reducible exact ih3 _ _ _ _ _ _ _ _ _ _ _ _)
      | (with_reducible exact ih4 _ _ _ _ _ _ _ _ _ _ _ _ _ _)
      | (with_reducible exact ih5 _ _ _ _ _ _ _)
      | (with_reducible exact lin_sure_times.mono _ _ _ _ _)
      | (with_reducible exact LeO.refl _)
      | (with_reducible exact LeO.none _)
      | (with_reducible refine LeO.ite ?_ ?_)
      | (with_reducible refine LeO.bind ?_ (fun _ => ?_))
      | exact ih0 _ _ _ _
      | exact ih1 _ _ _ _ _ _
      | exact ih2 _ _ _ _ _ _ _ _
      | exact ih3 _ _ _ _ _ _ _ _ _ _ _ _
      | exact ih4 _ _ _ _ _ _ _ _ _ _ _ _ _ _
      | exact ih5 _ _ _ _ _ _ _
      | exact lin_sure_times.mono _ _ _ _ _
      | exact LeO.none _
      | refine LeO.ite ?_ ?_
      | refine LeO.bind ?_ (fun _ => ?_)
def lin_Sum.T18 : Bool × List (List Nat × List Nat) := (true, [([], []), ([], []), ([], []), ([], []), ([2, 3], [2, 3]), ([4], [4]), ([], []), ([6], [6]), ([], []), ([], []), ([8, 9], [8, 9]), ([10], [10]), ([11, 7], [11]), ([7, 12, 12], [7, 12]), ([5, 13, 13], [5, 13]), ([0, 1, 0, 1, 2, 3, 4, 5, 6, 7, 8, 9, 10, 11, 12, 13, 14], [0, 1]), ([15, 14, 14, 0, 1, 2, 3, 4, 5, 6, 7, 8, 9, 10, 11, 12, 13, 14], [14, 15])])
def lin_Sum.B18 : List Nat := [0, 0, 0, 0, 12, 28, 0, 64, 0, 0, 768, 1792, 4032, 8128, 16380, 32767, 65535]
theorem lin_Sum.tab18 : rtab .any (opsOf Try.f11 18) = lin_Sum.T18 := by kernel_rfl
theorem lin_Sum.bits18 : waitsOk lin_Sum.T18.2 lin_Sum.B18 = true := by kernel_rfl
def lin_Sum.T20 : Bool × List (List Nat × List Nat) := (true, [([], []), ([], []), ([1], [1]), ([2], [2]), ([], []), ([], []), ([4, 5], [4, 5]), ([6], [6]), ([7, 3], [7]), ([3, 8, 8], [3, 8]), ([0, 9, 9], [0, 9]), ([10, 10, 0, 1, 2, 3, 4, 5, 6, 7, 8, 9, 10], [10])])
def lin_Sum.B20 : List Nat := [0, 0, 2, 6, 0, 0, 48, 112, 254, 510, 1023, 2047]
theorem lin_Sum.tab20 : rtab .any (opsOf Try.f11 20) = lin_Sum.T20 := by kernel_rfl
theorem lin_Sum.bits20 : waitsOk lin_Sum.T20.2 lin_Sum.B20 = true := by kernel_rfl
set_option maxHeartbeats 8000000 in
set_option maxRecDepth 100000 in
theorem lin_Sum.calls (k : Nat) (A0 : Option Addr) (c0 : Nat) (l0 : List (S27)) (A1 : Option Addr) (c1 : Nat) (l1 : List Int) (a2 : Int) (r1 : List Int) (r2 : Int) (r3 : Int) (w : World) (hr0 : Kd.C k27 w A0 l0.length l0) (hc0 : l0.length ≤ c0) (hr1 : Kd.C (Kd.int .i64) w A1 l1.length l1) (hc1 : l1.length ≤ c1) (h : lin_Sum.f k l0 l1 a2 = some (r1, r2, r3)) :
    Calls Try.prog 11 #[.slice A0 l0.length c0, .slice A1 l1.length c1, .int .i64 a2] w fun e w' => ∃ v0_ : Value, e = .returned (.tuple #[.agg #[v0_, .int .i64 r2], .int .i64 r3]) ∧ Kd.R (Kd.int .i64) 3 w' w.heap.size (fun _ => True) v0_ r1 ∧ Below w.heap.size w w' := by
  have hu27 := Try.underlying27
  have hu49 := Try.underlying49
  have HR0 := Aside0.mk hr0
  have HC0 := Aside0.mk hc0
  clear hr0 hc0
  have HR1 := Aside0.mk hr1
  have HC1 := Aside0.mk hc1
  clear hr1 hc1
  have HB := Aside0.mk (Below.refl w.heap.size w)
  have H : (if (l0.length : Int) = (l1.length : Int) then (if a2 < 0 then (lin_Sum.j0 k l0 l1 a2 true) else (lin_Sum.j0 k l0 l1 a2 (decide (a2 > 64)))) else (lin_Sum.j0 k l0 l1 a2 true)) = some (r1, r2, r3) := h
  clear h
  have HC4 := Aside0.mk H
  clear H
  go_enter Try.func11, Try.ntmps11
  go_upto_region 1 with (first | ((with_reducible refine gate_dst (N := 6) rfl ?_); (try (refine gate_guard (by rfl) ?_; dsimp only)); refine box_event ?hg (N := 6) ?hd (cs := #[.slice none 0 0, .int .i64 0]) (t := 27) ?hr ?_; (case hd => rfl); (case hg => rfl); (case hr => first | (go_simp; done) | (go_simp; rfl)); intro gb116 hg w5 hbox hb; have n0_ := Aside0.mk (below_step (by repeat (first | (with_reducible first | exact HB.out | apply below_alloc | apply pw_below_drewN | apply below_drew1) | exact HB.out)) hb); have n1_ := Aside0.mk (hbox); have n2_ := Aside0.mk ((by rw [hg]; exact (below_size (by repeat (first | (with_reducible first | exact HB.out | apply below_alloc | apply pw_below_drewN | apply below_drew1) | exact HB.out))) : w.heap.size ≤ gb116)); have n3_ := Aside0.mk ((by rw [hg]; exact (below_size (by repeat (first | (with_reducible first | exact HB.out | apply below_alloc | apply pw_below_drewN | apply below_drew1) | exact HB.out))) : w.heap.size ≤ gb116)); clear HB; have HB := n0_; have BK116 := n1_; have GW116 := n2_; have GE116 := n3_; clear n0_ n1_ n2_ n3_; clear hb hbox hg))
  (try simp only [Act.put, List.setIfInBounds_toArray, List.set_cons_zero, List.set_cons_succ])
  go_cut [30] (fun v30 wc => ∃ (kq : Nat) (x30_3 : Bool), v30 = .bool x30_3 ∧ Aside0 (lin_Sum.j0 kq l0 l1 a2 x30_3 = some (r1, r2, r3)) ∧ Aside0 (kq ≤ k) ∧ Aside0 (wc.heap[gb116]? = some (.cells #[(.slice none 0 0), .int .i64 0] 27 (0, 0))) ∧ Aside0 (Below w.heap.size w wc))
  case first =>
    have H := HC4.out
    clear HC4
    by_cases c6 : (l0.length : Int) = (l1.length : Int)
    · rw [if_pos c6] at H
      have c6b0 : ((l0.length : Int) == (l1.length : Int)) = true := beq_iff_eq.mpr c6
      have c6b1 : ((l0.length : Int) != (l1.length : Int)) = false := bne_eq_false_iff_eq.mpr c6
      have c6b2 : (l0.length == l1.length) = true := by first | simpa using c6 | (simp at c6 ⊢; omega)
      clear c6
      (first | rw [c6b0] | (simp only [i64_w, i32_w]; rw [c6b0]) | skip)
      by_cases c7 : a2 < 0
      · rw [if_pos c7] at H
        have c7b0 : decide (a2 < 0) = true := decide_eq_true c7
        clear c7
        have H' := Aside0.mk H
        clear H
        go_wp2
        go_meet
        case rel => exact ⟨_, (true), (by first | rfl | (simp; done) | (simp [*]; done)), H', ⟨by first | omega | exact Nat.le_refl _⟩, ⟨by (with_reducible repeat (first | refine blk_drewN ?_ _ | refine blk_drew ?_ | refine blk_alloc ?_ _)); exact BK116.out⟩, ⟨by repeat (first | (with_reducible first | exact HB.out | apply below_alloc | apply pw_below_drewN | apply below_drew1 | refine below_set ?_ GE116.out) | exact HB.out)⟩⟩
      · rw [if_neg c7] at H
        have c7b0 : decide (a2 < 0) = false := decide_eq_false c7
        clear c7
        have H' := Aside0.mk H
        clear H
        go_wp2
        go_meet
        case rel => exact ⟨_, (decide (a2 > 64)), (by first | rfl | (simp; done) | (simp [*]; done)), H', ⟨by first | omega | exact Nat.le_refl _⟩, ⟨by (with_reducible repeat (first | refine blk_drewN ?_ _ | refine blk_drew ?_ | refine blk_alloc ?_ _)); exact BK116.out⟩, ⟨by repeat (first | (with_reducible first | exact HB.out | apply below_alloc | apply pw_below_drewN | apply below_drew1 | refine below_set ?_ GE116.out) | exact HB.out)⟩⟩
    · rw [if_neg c6] at H
      have c6b0 : ((l0.length : Int) == (l1.length : Int)) = false := beq_eq_false_iff_ne.mpr c6
      have c6b1 : ((l0.length : Int) != (l1.length : Int)) = true := bne_iff_ne.mpr c6
      have c6b2 : (l0.length == l1.length) = false := by first | simpa using c6 | (simp at c6 ⊢; omega)
      (first | rw [c6b0] | (simp only [i64_w, i32_w]; rw [c6b0]) | skip)
      have H' := Aside0.mk H
      clear H
      go_wp2
      go_meet
      case rel => exact ⟨_, (true), (by first | rfl | (simp; done) | (simp [*]; done)), H', ⟨by first | omega | exact Nat.le_refl _⟩, ⟨by (with_reducible repeat (first | refine blk_drewN ?_ _ | refine blk_drew ?_ | refine blk_alloc ?_ _)); exact BK116.out⟩, ⟨by repeat (first | (with_reducible first | exact HB.out | apply below_alloc | apply pw_below_drewN | apply below_drew1 | refine below_set ?_ GE116.out) | exact HB.out)⟩⟩
  case rest =>
    clear HC4
    try clear c1
    try clear p2
    try clear c6
    try clear c6b0
    try clear c6b1
    try clear c6b2
    try clear c7
    try clear c7b0
    obtain ⟨kq, x30_3, rfl, HA, HJ3, BK116, HB⟩ := hcut
    cases kq with
    | zero => exact absurd HA.out (by simp [lin_Sum.j0])
    | succ kj3 =>
      have H := HA.out
      clear HA
      simp only [lin_Sum.j0] at H
      by_cases c8 : x30_3 = true
      · subst c8
        have H1 : (some (([] : List Int), 0, 14)) = some (r1, r2, r3) := by rw [if_pos rfl] at H; exact H
        clear H
        have H := H1
        clear H1
        simp only [Option.some.injEq, Prod.mk.injEq] at H
        obtain ⟨rfl, rfl, rfl⟩ := H
        have hcz9_0 : wc.cell? ⟨gb116, 0, none⟩ = some (.slice none 0 0) := (blk_cell BK116.out 0).trans rfl
        have hcz9_1 : wc.cell? ⟨gb116, 1, none⟩ = some (.int .i64 0) := (blk_cell BK116.out 1).trans rfl
        have hfz9_0 := blk_frozen BK116.out 0
        have hfz9_1 := blk_frozen BK116.out 1
        go_wp2
        refine bodyPost_ret (results_ct rfl _ _ gb116 27 #[.slice none 0 0, .int .i64 0] (0, 0) _ rfl (by (with_reducible repeat (first | refine blk_drewN ?_ _ | refine blk_drew ?_ | refine blk_alloc ?_ _)); refine blk_put (cs := #[.slice none 0 0, .int .i64 0]) ?_ 1 _ rfl; (with_reducible repeat (first | refine blk_drewN ?_ _ | refine blk_drew ?_ | refine blk_alloc ?_ _)); refine blk_put (cs := #[.slice none 0 0, .int .i64 0]) ?_ 0 _ rfl; (with_reducible repeat (first | refine blk_drewN ?_ _ | refine blk_drew ?_ | refine blk_alloc ?_ _)); exact BK116.out) Try.underlying27 rfl (by kernel_rfl)) rfl ?_
        exact ⟨_, by first | rfl | (simp [errW_none, errW_some] <;> rfl) | (simp [*, errW_none, errW_some] <;> rfl), by first | exact Kd.R_nil _ _ _ _ _ | exact Kd.N_nil _ _ _ _ _ | exact Kd.V_nil _ _ _ _ _ | exact Kd.Q_nil _ _ _ _ _ | exact Kd.S_nil _ _ _ _ _, by repeat (first | (with_reducible first | exact HB.out | apply below_alloc | apply pw_below_drewN | apply below_drew1 | refine below_set ?_ GE116.out) | exact HB.out)⟩
      · replace c8 := Bool.eq_false_iff.mpr c8
        subst c8
        have H1 : (if 0 ≤ a2 then (if (a2 : Int).toNat ≤ 17592186044416 then ((some (List.replicate (a2 : Int).toNat z49 : List (S49))).bind fun y117 => (lin_Sum.l0 kj3 l0 l1 a2 y117 (y117.length : Int) 0)) else (none)) else (none)) = some (r1, r2, r3) := by rw [if_neg (show ¬ (false = true) by decide)] at H; exact H
        clear H
        have H := H1
        clear H1
        by_cases c10 : 0 ≤ a2
        · rw [if_pos c10] at H
          have c10b0 := eq_true c10
          have c10b1 : decide (0 ≤ a2) = true := decide_eq_true c10
          clear c10
          by_cases c11 : (a2 : Int).toNat ≤ 17592186044416
          · rw [if_pos c11] at H
            have c11b0 := eq_true c11
            have c11b1 : decide ((a2 : Int).toNat ≤ 17592186044416) = true := decide_eq_true c11
            clear c11
            obtain ⟨y117, hy117⟩ : ∃ y_ : List (S49), y_ = (List.replicate (a2 : Int).toNat z49) := ⟨_, rfl⟩
            replace H : (lin_Sum.l0 kj3 l0 l1 a2 y117 (y117.length : Int) 0) = some (r1, r2, r3) := by first | (rw [hy117]; with_reducible exact H) | (have H2_ := (Option.bind_some _ _).symm.trans H; rw [hy117]; with_reducible exact H2_) | (have H2_ := (Option.bind_some _ _).symm.trans H; with_reducible exact H2_) | with_reducible exact H | (rw [hy117]; exact H) | exact H
            have Ny117 := Aside0.mk hy117
            clear hy117
            have H' := Aside0.mk H
            clear H
            go_wp2_with (first | ((with_reducible refine gate_dst (N := 33) rfl ?_); (try (refine gate_guard (by rfl) ?_; dsimp only)); refine Kd.R_make k49 _ 49 rfl (N := 33) rfl 47 _ _ rfl a2 rfl rfl Try.underlying47 (.agg #[(.int .i64 0), (.bool false)]) 16 info49 rfl (by decide) (by omega) z49 (ok := fun _ => True) (okp := fun _ => True) (k49_mkM _ _ _ z49 ) (fun _ hk => hk) trivial (of_decide_eq_true (by first | (with_reducible assumption) | assumption)) (Nat.le_trans (Nat.mul_le_mul_right _ (of_decide_eq_true (by first | (with_reducible assumption) | assumption) : a2.toNat ≤ 17592186044416)) (by omega)) (Below.refl _ _) (Nat.le_refl _) ?_; intro v118 w12 ho13 hb hg_ hnew_; clear hg_ hnew_; (first | rw [← Ny117.out] at ho13 | (simp only [Int.reduceToNat] at ho13; rw [← Ny117.out] at ho13)); have n0_ := Aside0.mk (Kd.R_lower ho13 (below_size (by repeat (first | (with_reducible first | exact HB.out | apply below_alloc | apply pw_below_drewN | apply below_drew1 | refine below_set ?_ GE116.out) | exact HB.out)))); have n1_ := Aside0.mk (blk_below (g := gb116) (o := .cells #[.slice none 0 0, .int .i64 0] 27 (0, 0)) (by (with_reducible repeat (first | refine blk_drewN ?_ _ | refine blk_drew ?_ | refine blk_alloc ?_ _)); exact BK116.out) hb); have n2_ := Aside0.mk (below_step (by repeat (first | (with_reducible first | exact HB.out | apply below_alloc | apply pw_below_drewN | apply below_drew1 | refine below_set ?_ GE116.out) | exact HB.out)) hb); clear BK116; clear HB; have HO119 := n0_; have BK116 := n1_; have HB := n2_; clear n0_ n1_ n2_; clear hb ho13; obtain ⟨Ao14, co14, eo14⟩ := Kd.R_slice HO119.out; subst eo14))
            go_loopg [36] kj3 (fun kq v36 w' => ∃ (x8_2 : List (S49)) (x36_2 : Int), v36 = .int .i64 x36_2 ∧ Aside0 (lin_Sum.l0 kq l0 l1 a2 x8_2 (y117.length : Int) x36_2 = some (r1, r2, r3)) ∧ Aside0 (kq ≤ kj3) ∧ Aside0 (Kd.R k49 49 w' w.heap.size (fun _ => True) (.slice Ao14 y117.length co14) x8_2) ∧ Aside0 (w'.heap[gb116]? = some (.cells #[(.slice none 0 0), .int .i64 0] 27 (0, 0))) ∧ Aside0 (Below w.heap.size w w'))
            case atStart => exact ⟨(y117), (0), (by first | rfl | (simp; done) | (simp [*]; done)), H', ⟨Nat.le_refl _⟩, ⟨by (with_reducible repeat (first | apply Kd.R_alloc | apply Kd.R_drewN | apply Kd.R_drew)); exact HO119.out⟩, ⟨by (with_reducible repeat (first | refine blk_drewN ?_ _ | refine blk_drew ?_ | refine blk_alloc ?_ _)); exact BK116.out⟩, ⟨by repeat (first | (with_reducible first | exact HB.out | apply below_alloc | apply pw_below_drewN | apply below_drew1 | refine below_set ?_ GE116.out) | exact HB.out)⟩⟩
            case round =>
              clear H'
              try clear c1
              try clear p2
              try clear c6
              try clear c6b0
              try clear c6b1
              try clear c6b2
              try clear c7
              try clear c7b0
              try clear c8
              try clear c10
              try clear c10b0
              try clear c10b1
              try clear c11
              try clear c11b0
              try clear c11b1
              try clear hcz9_0
              try clear hcz9_1
              try clear hfz9_0
              try clear hfz9_1
              try clear p2
              obtain ⟨x8_2, x36_2, rfl, HA, HK2, HO_8, BK116, HB⟩ := hrel
              have hl8_2 := (Kd.R_reads' HO_8.out).1
              rw [hl8_2] at HO_8
              (try simp only [hl8_2])
              (try simp only [hl8_2] at BK116)
              cases gk with
              | zero => exact absurd HA.out (by simp [lin_Sum.l0])
              | succ k2 =>
                have H := HA.out
                clear HA
                simp only [lin_Sum.l0] at H
                by_cases c15 : x36_2 < (y117.length : Int)
                · rw [if_pos c15] at H
                  have c15b0 : decide (x36_2 < (y117.length : Int)) = true := decide_eq_true c15
                  clear c15
                  replace H := Option.bind_eq_some_iff.mp H
                  obtain ⟨⟨t120, t121⟩, A160, H⟩ := H
                  replace H : (if 0 ≤ x36_2 then (if x36_2 < (x8_2.length : Int) then (lin_Sum.l0 k2 l0 l1 a2 (x8_2.set (x36_2 : Int).toNat (⟨t120, t121⟩ : S49)) (y117.length : Int) (wrap64 (x36_2 + 1))) else (none)) else (none)) = some (r1, r2, r3) := H
                  have A16 := Aside0.mk A160
                  clear A160
                  by_cases c17 : 0 ≤ x36_2
                  · rw [if_pos c17] at H
                    have c17b0 : decide (0 ≤ x36_2) = true := decide_eq_true c17
                    clear c17
                    by_cases c18 : x36_2 < (x8_2.length : Int)
                    · rw [if_pos c18] at H
                      have c18b0 : decide (x36_2 < (x8_2.length : Int)) = true := decide_eq_true c18
                      clear c18
                      obtain ⟨y122, hy122⟩ : ∃ y_ : List (S49), y_ = (x8_2.set (x36_2 : Int).toNat (⟨t120, t121⟩ : S49)) := ⟨_, rfl⟩
                      replace H : (lin_Sum.l0 k2 l0 l1 a2 y122 (y117.length : Int) (wrap64 (x36_2 + 1))) = some (r1, r2, r3) := by first | (rw [hy122]; with_reducible exact H) | (have H2_ := (Option.bind_some _ _).symm.trans H; rw [hy122]; with_reducible exact H2_) | (have H2_ := (Option.bind_some _ _).symm.trans H; with_reducible exact H2_) | with_reducible exact H | (rw [hy122]; exact H) | exact H
                      have Ny122 := Aside0.mk hy122
                      clear hy122
                      have H' := Aside0.mk H
                      clear H
                      go_wp2_with (first | ((with_reducible refine gate_callee (f := 18) rfl ?_); refine goesL_ (some 41) rfl rfl Try.func18 (by kernel_rfl) rfl #[.int .i64 0] rfl (by (try simp only [List.map_toArray, List.map_cons, List.map_nil]); first | done | rfl | (simp only [List.length_drop, List.length_take]; rfl)) ?_; (with_reducible refine (lin_of.calls 0 t120 t121 _ A16.out).mono ?_); rintro e w20 ⟨rfl, hb⟩; refine ⟨_, rfl, ?_⟩; have n0_ := Aside0.mk (Kd.R_below (by (with_reducible repeat (first | apply Kd.R_alloc | apply Kd.R_drewN | apply Kd.R_drew)); exact HO_8.out) hb); have n1_ := Aside0.mk (blk_below (g := gb116) (o := .cells #[.slice none 0 0, .int .i64 0] 27 (0, 0)) (by (with_reducible repeat (first | refine blk_drewN ?_ _ | refine blk_drew ?_ | refine blk_alloc ?_ _)); exact BK116.out) hb); have n2_ := Aside0.mk (below_step (by repeat (first | (with_reducible first | exact HB.out | apply below_alloc | apply pw_below_drewN | apply below_drew1 | refine below_set ?_ GE116.out) | exact HB.out)) hb); clear HO_8; clear BK116; clear HB; have HO_8 := n0_; have BK116 := n1_; have HB := n2_; clear n0_ n1_ n2_; (try clear hb); (try clear hb2); (try clear hk); (try clear hi); have p19 : 0 ≤ (x36_2 : Int) := of_decide_eq_true (by first | (with_reducible assumption) | assumption); have q19 : (x36_2 : Int) < ((x8_2.length : Int) : Int) := of_decide_eq_true (by first | (with_reducible assumption) | assumption); obtain ⟨go19, co19, eo19, gb19, gl19, cl19, HG19⟩ := Kd.R_form HO_8.out (by omega); (first | cases eo19 | (injection eo19 with ea_ en_ ec_; (first | subst ea_ | (injection ea_ with ea_; subst ea_)); subst ec_; clear en_)); have GB19 := Aside0.mk gb19; have GG19 := Aside0.mk HG19; clear gb19 gl19 HG19; obtain ⟨ce19, hcl19, hM19, hcc19, hfr19⟩ := Kd.R_elem HO_8.out z49 (x36_2 : Int) p19 q19; obtain rfl := k49_openM hM19; have hx19_0 : w20.cell? ⟨go19, (x36_2 : Int).toNat * 2, none⟩ = some (.int .i64 ((rd_T49 x8_2 x36_2).f0)) := hcc19 0 _ rfl; have hx19_1 : w20.cell? ⟨go19, (x36_2 : Int).toNat * 2 + 1, none⟩ = some (.bool ((rd_T49 x8_2 x36_2).f1)) := hcc19 1 _ rfl; have hf19_0 : w20.frozen? ⟨go19, (x36_2 : Int).toNat * 2, none⟩ = false := hfr19 0; have hf19_1 : w20.frozen? ⟨go19, (x36_2 : Int).toNat * 2 + 1, none⟩ = false := hfr19 1; clear hcl19 hcc19 hfr19 hM19; replace p19 := eq_true p19; replace q19 := eq_true q19; have HX21 := Aside0.mk (show Kd.R k49 49 w20 w.heap.size (fun _ => True) (.slice (some ⟨go19, 0, none⟩) x8_2.length co14) x8_2 from (by (with_reducible repeat (first | apply Kd.R_alloc | apply Kd.R_drewN | apply Kd.R_drew)); exact HO_8.out)); obtain ⟨ce21, hcl21, hM21, hcc21, hfr21⟩ := Kd.R_elem HX21.out z49 (x36_2 : Int) (of_decide_eq_true (by first | (with_reducible assumption) | assumption)) (by have h_ : (x36_2 : Int) < ((x8_2.length : Int) : Int) := of_decide_eq_true (by first | (with_reducible assumption) | assumption); first | exact h_ | (have e_ := (Kd.R_reads' HO_8.out).1; omega) | simpa using h_); obtain rfl := k49_openM hM21; have HP21 := Kd.R_seg HX21.out (x36_2 : Int) (of_decide_eq_true (by first | (with_reducible assumption) | assumption)) (by have h_ : (x36_2 : Int) < ((x8_2.length : Int) : Int) := of_decide_eq_true (by first | (with_reducible assumption) | assumption); first | exact h_ | (have e_ := (Kd.R_reads' HO_8.out).1; omega) | simpa using h_) (seg := [.int .i64 t120, .bool t121]) (j := 0) hcl21 hcc21 (show 2 ≤ 2 from by decide) (x' := (⟨t120, t121⟩ : S49)) (k49_mkM _ _ _ (⟨t120, t121⟩ : S49) ) (fun _ hk => hk); have hx21_0 := hcc21 0 _ rfl; (try simp only [show (k49).sz = 2 from rfl, Nat.mul_one, Nat.add_zero] at hx21_0); have hf21_0 := hfr21 0; (try simp only [show (k49).sz = 2 from rfl, Nat.mul_one, Nat.add_zero] at hf21_0); have hx21_1 := hcc21 1 _ rfl; (try simp only [show (k49).sz = 2 from rfl, Nat.mul_one, Nat.add_zero] at hx21_1); have hf21_1 := hfr21 1; (try simp only [show (k49).sz = 2 from rfl, Nat.mul_one, Nat.add_zero] at hf21_1); clear hcl21 hcc21 hfr21 hM21) | ((with_reducible refine gate_store (t := 49) (p := 42) rfl ?_); refine store_event (t := 49) (p := 42) (v := ?vo_w22) (w1 := ((w20.setCell ⟨go19, (x36_2 : Int).toNat * 2, none⟩ (.int .i64 t120)).setCell ⟨go19, (x36_2 : Int).toNat * 2 + 1, none⟩ (.bool t121))) ?hg ?ho ?hn ?hr ?_; (case ho => rfl); (case hg => rfl); (case hn => rfl); (case hr => first | (go_simp; done) | (go_simp; rfl)); intro w22 hw; have hg : w20.grownBy w22 (some go19) := (by rw [hw]; exact HP21.2); have hp_ : Kd.R k49 49 w22 w.heap.size (fun _ => True) (.slice (some ⟨go19, 0, none⟩) x8_2.length co14) y122 := (by rw [hw, Ny122.out]; exact HP21.1); clear HP21; have n0_ := Aside0.mk (hp_); have n1_ := Aside0.mk (blk_grown (g := gb116) (o := .cells #[.slice none 0 0, .int .i64 0] 27 (0, 0)) (by (with_reducible repeat (first | refine blk_drewN ?_ _ | refine blk_drew ?_ | refine blk_alloc ?_ _)); exact BK116.out) hg (Kd.R_ne HO_8.out BK116.out (by decide))); have n2_ := Aside0.mk ((by rw [hw]; exact below_set (below_set (HB.out) GB19.out) GB19.out : Below w.heap.size w w22)); clear HO_8; clear BK116; clear HB; have HO_8 := n0_; have BK116 := n1_; have HB := n2_; clear n0_ n1_ n2_; clear hg hw hp_))
                      (try simp only [← hl8_2])
                      go_roundg k2
                      case measure => have := HJ3.out; have := HK2.out; omega
                      case rel => exact ⟨(y122), (wrap64 (x36_2 + 1)), (by first | rfl | (simp; done) | (simp [*]; done)), H', ⟨by have := HJ3.out; have := HK2.out; omega⟩, ⟨by (try simp only [hl8_2]); (with_reducible repeat (first | apply Kd.R_alloc | apply Kd.R_drewN | apply Kd.R_drew)); exact HO_8.out⟩, ⟨by (try simp only [hl8_2]); (with_reducible repeat (first | refine blk_drewN ?_ _ | refine blk_drew ?_ | refine blk_alloc ?_ _)); exact BK116.out⟩, ⟨by repeat (first | (with_reducible first | exact HB.out | apply below_alloc | apply pw_below_drewN | apply below_drew1 | refine below_set ?_ GE116.out) | exact HB.out)⟩⟩
                    · rw [if_neg c18] at H
                      exact absurd H (by simp)
                  · rw [if_neg c17] at H
                    exact absurd H (by simp)
                · rw [if_neg c15] at H
                  have c15b0 : decide (x36_2 < (y117.length : Int)) = false := decide_eq_false c15
                  (try (have c15b0z : decide (x36_2 < (x8_2.length : Int)) = false := by first | (rw [hl8_2]; exact c15b0) | (rw [← hl8_2]; exact c15b0)))
                  clear c15
                  replace H := Option.bind_eq_some_iff.mp H
                  obtain ⟨⟨t123, t124⟩, A230, H⟩ := H
                  replace H : (lin_Sum.l1 k2 l1 a2 x8_2 l0 (l0.length : Int) 0 t123 t124) = some (r1, r2, r3) := H
                  have A23 := Aside0.mk A230
                  clear A230
                  have H' := Aside0.mk H
                  clear H
                  go_wp2_with (first | ((with_reducible refine gate_callee (f := 18) rfl ?_); refine goesL_ (some 44) rfl rfl Try.func18 (by kernel_rfl) rfl #[.int .i64 0] rfl (by (try simp only [List.map_toArray, List.map_cons, List.map_nil]); first | done | rfl | (simp only [List.length_drop, List.length_take]; rfl)) ?_; (with_reducible refine (lin_of.calls 0 t123 t124 _ A23.out).mono ?_); rintro e w24 ⟨rfl, hb⟩; refine ⟨_, rfl, ?_⟩; have n0_ := Aside0.mk (Kd.R_below (by (with_reducible repeat (first | apply Kd.R_alloc | apply Kd.R_drewN | apply Kd.R_drew)); exact HO_8.out) hb); have n1_ := Aside0.mk (blk_below (g := gb116) (o := .cells #[.slice none 0 0, .int .i64 0] 27 (0, 0)) (by (with_reducible repeat (first | refine blk_drewN ?_ _ | refine blk_drew ?_ | refine blk_alloc ?_ _)); exact BK116.out) hb); have n2_ := Aside0.mk (below_step (by repeat (first | (with_reducible first | exact HB.out | apply below_alloc | apply pw_below_drewN | apply below_drew1 | refine below_set ?_ GE116.out) | exact HB.out)) hb); clear HO_8; clear BK116; clear HB; have HO_8 := n0_; have BK116 := n1_; have HB := n2_; clear n0_ n1_ n2_; (try clear hb); (try clear hb2); (try clear hk); (try clear hi)) | ((with_reducible refine gate_dst (N := 10) rfl ?_); (try (refine gate_guard (by rfl) ?_; dsimp only)); refine box_event ?hg (N := 10) ?hd (cs := #[.int .i64 0, .bool false]) (t := 49) ?hr ?_; (case hd => rfl); (case hg => rfl); (case hr => first | (go_simp; done) | (go_simp; rfl)); intro gb125 hg w25 hbox hb; have n0_ := Aside0.mk (Kd.R_below (Kd.R_elderB (by (with_reducible repeat (first | apply Kd.R_alloc | apply Kd.R_drewN | apply Kd.R_drew)); exact HO_8.out) gb125 (Nat.le_of_eq hg.symm)) hb); have n1_ := Aside0.mk (blk_below (g := gb116) (o := .cells #[.slice none 0 0, .int .i64 0] 27 (0, 0)) (by (with_reducible repeat (first | refine blk_drewN ?_ _ | refine blk_drew ?_ | refine blk_alloc ?_ _)); exact BK116.out) hb); have n2_ := Aside0.mk (below_step (by repeat (first | (with_reducible first | exact HB.out | apply below_alloc | apply pw_below_drewN | apply below_drew1 | refine below_set ?_ GE116.out) | exact HB.out)) hb); have n3_ := Aside0.mk (hbox); have n4_ := Aside0.mk ((by rw [hg]; exact (below_size (by repeat (first | (with_reducible first | exact HB.out | apply below_alloc | apply pw_below_drewN | apply below_drew1 | refine below_set ?_ GE116.out) | exact HB.out))) : w.heap.size ≤ gb125)); have n5_ := Aside0.mk ((by rw [hg]; exact (below_size (by repeat (first | (with_reducible first | exact HB.out | apply below_alloc | apply pw_below_drewN | apply below_drew1 | refine below_set ?_ GE116.out) | exact HB.out))) : w.heap.size ≤ gb125)); have n6_ := Aside0.mk ((by rw [hg]; exact Nat.ne_of_lt (blk_lt (g := gb116) (o := .cells #[.slice none 0 0, .int .i64 0] 27 (0, 0)) (by (with_reducible repeat (first | refine blk_drewN ?_ _ | refine blk_drew ?_ | refine blk_alloc ?_ _)); exact BK116.out)) : gb116 ≠ gb125)); have n7_ := Aside0.mk ((by rw [hg]; exact Nat.ne_of_gt (blk_lt (g := gb116) (o := .cells #[.slice none 0 0, .int .i64 0] 27 (0, 0)) (by (with_reducible repeat (first | refine blk_drewN ?_ _ | refine blk_drew ?_ | refine blk_alloc ?_ _)); exact BK116.out)) : gb125 ≠ gb116)); clear HO_8; clear BK116; clear HB; have HO_8 := n0_; have BK116 := n1_; have HB := n2_; have BK125 := n3_; have GW125 := n4_; have GE125 := n5_; have NB116_125 := n6_; have NB125_116 := n7_; clear n0_ n1_ n2_ n3_ n4_ n5_ n6_ n7_; clear hb hbox hg; have hnb26 := NB125_116.out; have hnc26 := NB116_125.out; have hcz27_0 : w25.cell? ⟨gb125, 0, none⟩ = some (.int .i64 0) := (blk_cell BK125.out 0).trans rfl; have hcz27_1 : w25.cell? ⟨gb125, 1, none⟩ = some (.bool false) := (blk_cell BK125.out 1).trans rfl; have hfz27_0 := blk_frozen BK125.out 0; have hfz27_1 := blk_frozen BK125.out 1))
                  go_loopg [47] k2 (fun kq v47 w' => ∃ (x8_3 : List (S49)) (x47_3 : Int) (x117001_3 : Int) (x126000_3 : Int) (x126001_3 : Bool), v47 = .int .i64 x47_3 ∧ Aside0 (lin_Sum.l1 kq l1 a2 x8_3 l0 (l0.length : Int) x47_3 x126000_3 x126001_3 = some (r1, r2, r3)) ∧ Aside0 (kq ≤ k2) ∧ Aside0 (Kd.R k49 49 w' w.heap.size (fun k_ => k_ ≠ gb125) (.slice Ao14 x8_2.length co14) x8_3) ∧ Aside0 (w'.heap[gb116]? = some (.cells #[(.slice none 0 0), .int .i64 x117001_3] 27 (0, 0))) ∧ Aside0 (w'.heap[gb125]? = some (.cells #[.int .i64 x126000_3, .bool x126001_3] 49 (0, 0))) ∧ Aside0 (Below w.heap.size w w'))
                  case atStart => exact ⟨(x8_2), (0), (0), (t123), (t124), (by first | rfl | (simp; done) | (simp [*]; done)), H', ⟨Nat.le_refl _⟩, ⟨by (try simp only [hl8_2]); (with_reducible repeat (first | apply Kd.R_alloc | apply Kd.R_drewN | apply Kd.R_drew)); exact Kd.R_mono (Kd.R_far (p := ⟨gb125, 1, none⟩) (Kd.R_far (p := ⟨gb125, 0, none⟩) (Kd.R_mono HO_8.out (fun k_ hk => (⟨hk, hk.2⟩ : _ ∧ k_ ≠ gb125))) (fun _ hk => hk.2) (.int .i64 t123)) (fun _ hk => hk.2) (.bool t124)) (fun _ hk => hk.1.2)⟩, ⟨by (try simp only [hl8_2]); (with_reducible repeat (first | refine blk_drewN ?_ _ | refine blk_drew ?_ | refine blk_alloc ?_ _)); refine blk_far ?_ NB116_125.out _; (with_reducible repeat (first | refine blk_drewN ?_ _ | refine blk_drew ?_ | refine blk_alloc ?_ _)); refine blk_far ?_ NB116_125.out _; (with_reducible repeat (first | refine blk_drewN ?_ _ | refine blk_drew ?_ | refine blk_alloc ?_ _)); exact BK116.out⟩, ⟨by (try simp only [hl8_2]); (with_reducible repeat (first | refine blk_drewN ?_ _ | refine blk_drew ?_ | refine blk_alloc ?_ _)); refine blk_put (cs := #[.int .i64 t123, .bool false]) ?_ 1 _ rfl; (with_reducible repeat (first | refine blk_drewN ?_ _ | refine blk_drew ?_ | refine blk_alloc ?_ _)); refine blk_put (cs := #[.int .i64 0, .bool false]) ?_ 0 _ rfl; (with_reducible repeat (first | refine blk_drewN ?_ _ | refine blk_drew ?_ | refine blk_alloc ?_ _)); exact BK125.out⟩, ⟨by repeat (first | (with_reducible first | exact HB.out | apply below_alloc | apply pw_below_drewN | apply below_drew1 | refine below_set ?_ GE116.out | refine below_set ?_ GE125.out) | exact HB.out)⟩⟩
                  case round =>
                    clear H'
                    try clear c1
                    try clear p1
                    try clear q1
                    try clear hx1
                    try clear c2
                    try clear p2
                    try clear hx2
                    try clear c6
                    try clear c6b0
                    try clear c6b1
                    try clear c6b2
                    try clear p6
                    try clear c7
                    try clear c7b0
                    try clear c8
                    try clear c10
                    try clear c10b0
                    try clear c10b1
                    try clear c11
                    try clear c11b0
                    try clear c11b1
                    try clear c15
                    try clear c15b0
                    try clear c17
                    try clear c17b0
                    try clear c18
                    try clear c18b0
                    try clear c19
                    try clear p19
                    try clear q19
                    try clear hx19
                    try clear hf19
                    try clear c21
                    try clear hx21
                    try clear hf21
                    try clear c26
                    try clear hcz27_0
                    try clear hcz27_1
                    try clear hcz9_0
                    try clear hcz9_1
                    try clear hfz27_0
                    try clear hfz27_1
                    try clear hfz9_0
                    try clear hfz9_1
                    try clear hx19_0
                    try clear hx19_1
                    try clear hx21_0
                    try clear hx21_1
                    try clear p19
                    try clear p2
                    try clear q19
                    obtain ⟨x8_3, x47_3, x117001_3, x126000_3, x126001_3, rfl, HA, HK3, HO_8, BK116, BK125, HB⟩ := hrel
                    have hl8_3 := (Kd.R_reads' HO_8.out).1
                    rw [hl8_3] at HO_8
                    (try simp only [hl8_3])
                    (try simp only [hl8_3] at BK116)
                    (try simp only [hl8_3] at BK125)
                    cases gk with
                    | zero => exact absurd HA.out (by simp [lin_Sum.l1])
                    | succ k3 =>
                      have H := HA.out
                      clear HA
                      simp only [lin_Sum.l1] at H
                      by_cases c28 : x47_3 < (l0.length : Int)
                      · rw [if_pos c28] at H
                        have c28b0 : decide (x47_3 < (l0.length : Int)) = true := decide_eq_true c28
                        clear c28
                        by_cases c29 : 0 ≤ x47_3
                        · rw [if_pos c29] at H
                          have c29b0 : decide (0 ≤ x47_3) = true := decide_eq_true c29
                          clear c29
                          by_cases c30 : x47_3 < (l0.length : Int)
                          · rw [if_pos c30] at H
                            have c30b0 : decide (x47_3 < (l0.length : Int)) = true := decide_eq_true c30
                            clear c30
                            have HC31 := Aside0.mk H
                            clear H
                            have p126 : 0 ≤ (x47_3 : Int) := of_decide_eq_true (by first | (with_reducible assumption) | assumption)
                            have q126 : x47_3 < (l0.length : Int) := of_decide_eq_true (by first | (with_reducible assumption) | assumption)
                            obtain ⟨ad126, A126_0, c126_0, e126, hx126_0, hx126_1, hl126_0, hi126_0⟩ := at_T27 HR0.out x47_3 p126 q126
                            cases e126
                            replace hx126_0 := (HB.out.cell (World.block_lt_of_cell? w _ hx126_0)).trans hx126_0
                            replace hx126_1 := (HB.out.cell (World.block_lt_of_cell? w _ hx126_1)).trans hx126_1
                            have HR126_0 := Aside0.mk hi126_0
                            have HC126_0 := Aside0.mk hl126_0
                            clear hi126_0 hl126_0
                            replace p126 := eq_true p126
                            replace q126 := eq_true q126
                            go_upto_region 13 with (first | ((with_reducible refine gate_dst (N := 12) rfl ?_); (try (refine gate_guard (by rfl) ?_; dsimp only)); refine box_event ?hg (N := 12) ?hd (cs := #[.slice none 0 0, .int .i64 0]) (t := 27) ?hr ?_; (case hd => rfl); (case hg => rfl); (case hr => first | (go_simp; done) | (go_simp; rfl)); intro gb127 hg w32 hbox hb; have n0_ := Aside0.mk (Kd.R_below (by (with_reducible repeat (first | apply Kd.R_alloc | apply Kd.R_drewN | apply Kd.R_drew)); exact HO_8.out) hb); have n1_ := Aside0.mk (blk_below (g := gb116) (o := .cells #[.slice none 0 0, .int .i64 x117001_3] 27 (0, 0)) (by (with_reducible repeat (first | refine blk_drewN ?_ _ | refine blk_drew ?_ | refine blk_alloc ?_ _)); exact BK116.out) hb); have n2_ := Aside0.mk (blk_below (g := gb125) (o := .cells #[.int .i64 x126000_3, .bool x126001_3] 49 (0, 0)) (by (with_reducible repeat (first | refine blk_drewN ?_ _ | refine blk_drew ?_ | refine blk_alloc ?_ _)); exact BK125.out) hb); have n3_ := Aside0.mk (below_step (by repeat (first | (with_reducible first | exact HB.out | apply below_alloc | apply pw_below_drewN | apply below_drew1 | refine below_set ?_ GE116.out | refine below_set ?_ GE125.out) | exact HB.out)) hb); have n4_ := Aside0.mk (hbox); have n5_ := Aside0.mk ((by rw [hg]; exact (below_size (by repeat (first | (with_reducible first | exact HB.out | apply below_alloc | apply pw_below_drewN | apply below_drew1 | refine below_set ?_ GE116.out | refine below_set ?_ GE125.out) | exact HB.out))) : w.heap.size ≤ gb127)); have n6_ := Aside0.mk ((by rw [hg]; exact (below_size (by repeat (first | (with_reducible first | exact HB.out | apply below_alloc | apply pw_below_drewN | apply below_drew1 | refine below_set ?_ GE116.out | refine below_set ?_ GE125.out) | exact HB.out))) : w.heap.size ≤ gb127)); have n7_ := Aside0.mk ((by rw [hg]; exact Nat.ne_of_lt (blk_lt (g := gb116) (o := .cells #[.slice none 0 0, .int .i64 x117001_3] 27 (0, 0)) (by (with_reducible repeat (first | refine blk_drewN ?_ _ | refine blk_drew ?_ | refine blk_alloc ?_ _)); exact BK116.out)) : gb116 ≠ gb127)); have n8_ := Aside0.mk ((by rw [hg]; exact Nat.ne_of_gt (blk_lt (g := gb116) (o := .cells #[.slice none 0 0, .int .i64 x117001_3] 27 (0, 0)) (by (with_reducible repeat (first | refine blk_drewN ?_ _ | refine blk_drew ?_ | refine blk_alloc ?_ _)); exact BK116.out)) : gb127 ≠ gb116)); have n9_ := Aside0.mk ((by rw [hg]; exact Nat.ne_of_lt (blk_lt (g := gb125) (o := .cells #[.int .i64 x126000_3, .bool x126001_3] 49 (0, 0)) (by (with_reducible repeat (first | refine blk_drewN ?_ _ | refine blk_drew ?_ | refine blk_alloc ?_ _)); exact BK125.out)) : gb125 ≠ gb127)); have n10_ := Aside0.mk ((by rw [hg]; exact Nat.ne_of_gt (blk_lt (g := gb125) (o := .cells #[.int .i64 x126000_3, .bool x126001_3] 49 (0, 0)) (by (with_reducible repeat (first | refine blk_drewN ?_ _ | refine blk_drew ?_ | refine blk_alloc ?_ _)); exact BK125.out)) : gb127 ≠ gb125)); clear HO_8; clear BK116; clear BK125; clear HB; have HO_8 := n0_; have BK116 := n1_; have BK125 := n2_; have HB := n3_; have BK127 := n4_; have GW127 := n5_; have GE127 := n6_; have NB116_127 := n7_; have NB127_116 := n8_; have NB125_127 := n9_; have NB127_125 := n10_; clear n0_ n1_ n2_ n3_ n4_ n5_ n6_ n7_ n8_ n9_ n10_; clear hb hbox hg; have hnb33 := NB127_116.out; have hnc33 := NB116_127.out; have hnb34 := NB127_125.out; have hnc34 := NB125_127.out; have hcz35_0 : w32.cell? ⟨gb127, 0, none⟩ = some (.slice none 0 0) := (blk_cell BK127.out 0).trans rfl; have hcz35_1 : w32.cell? ⟨gb127, 1, none⟩ = some (.int .i64 0) := (blk_cell BK127.out 1).trans rfl; have hfz35_0 := blk_frozen BK127.out 0; have hfz35_1 := blk_frozen BK127.out 1))
                            (try simp only [Act.put, List.setIfInBounds_toArray, List.set_cons_zero, List.set_cons_succ])
                            go_cut [63] (fun v63 wc => ∃ (kq : Nat) (x63_30 : Bool), v63 = .bool x63_30 ∧ Aside0 (lin_Sum.j3 kq l1 a2 x8_3 x47_3 l0 (l0.length : Int) x47_3 x63_30 x126000_3 x126001_3 ((rd_T27 l0 x47_3).f0) ((rd_T27 l0 x47_3).f1) = some (r1, r2, r3)) ∧ Aside0 (kq ≤ k3) ∧ Aside0 (Kd.R k49 49 wc w.heap.size (fun k_ => k_ ≠ gb125) (.slice Ao14 x8_3.length co14) x8_3) ∧ Aside0 (wc.heap[gb116]? = some (.cells #[(.slice none 0 0), .int .i64 x117001_3] 27 (0, 0))) ∧ Aside0 (wc.heap[gb125]? = some (.cells #[.int .i64 x126000_3, .bool x126001_3] 49 (0, 0))) ∧ Aside0 (wc.heap[gb127]? = some (.cells #[(.slice A126_0 ((rd_T27 l0 x47_3).f0).length c126_0), .int .i64 ((rd_T27 l0 x47_3).f1)] 27 (0, 0))) ∧ Aside0 (Below w.heap.size w wc))
                            case first =>
                              have H := HC31.out
                              clear HC31
                              by_cases c36 : x47_3 < (l1.length : Int)
                              · rw [if_pos c36] at H
                                have c36b0 : decide (x47_3 < (l1.length : Int)) = true := decide_eq_true c36
                                clear c36
                                (first | rw [c36b0] | (simp only [i64_w, i32_w]; rw [c36b0]) | skip)
                                by_cases c37 : (rd l1 x47_3) < 0
                                · rw [if_pos c37] at H
                                  have c37b0 : decide ((rd l1 x47_3) < 0) = true := decide_eq_true c37
                                  clear c37
                                  have H' := Aside0.mk H
                                  clear H
                                  have p128 : 0 ≤ (x47_3 : Int) := of_decide_eq_true (by first | (with_reducible assumption) | assumption)
                                  have q128 : x47_3 < (l1.length : Int) := of_decide_eq_true (by first | (with_reducible assumption) | assumption)
                                  obtain ⟨ad128, e128, hx128_0⟩ := Kd.at_int HR1.out x47_3 p128 q128
                                  cases e128
                                  have hn128_0 : ad128.block ≠ gb127 := Nat.ne_of_lt (Nat.lt_of_lt_of_le (by have := World.block_lt_of_cell? _ _ hx128_0; first | rwa [add_block] at this | exact this) GW127.out)
                                  have hn128_1 : ad128.block ≠ gb127 := Nat.ne_of_lt (Nat.lt_of_lt_of_le (by have := World.block_lt_of_cell? _ _ hx128_0; first | rwa [add_block] at this | exact this) GW127.out)
                                  replace hx128_0 := (HB.out.cell (World.block_lt_of_cell? w _ hx128_0)).trans hx128_0
                                  replace hx128_0 := (cell_far (p := ⟨gb127, 0, none⟩) (by first | (rw [add_block]; exact hn128_0) | (show (Addr.add _ _).block ≠ _; rw [add_block]; exact hn128_0) | exact hn128_0) (.slice A126_0 ((rd_T27 l0 x47_3).f0).length c126_0)).trans hx128_0
                                  replace hx128_0 := (cell_far (p := ⟨gb127, 1, none⟩) (by first | (rw [add_block]; exact hn128_1) | (show (Addr.add _ _).block ≠ _; rw [add_block]; exact hn128_1) | exact hn128_1) (.int .i64 ((rd_T27 l0 x47_3).f1))).trans hx128_0
                                  clear hn128_0
                                  clear hn128_1
                                  replace p128 := eq_true p128
                                  replace q128 := eq_true q128
                                  go_wp2
                                  go_meet
                                  case rel => exact ⟨_, (true), (by first | rfl | (simp; done) | (simp [*]; done)), H', ⟨by have := HJ3.out; have := HK2.out; have := HK3.out; first | omega | exact Nat.le_refl _⟩, ⟨by (try simp only [hl8_2]); (try simp only [hl8_3]); (with_reducible repeat (first | apply Kd.R_alloc | apply Kd.R_drewN | apply Kd.R_drew)); exact Kd.R_mono (Kd.R_far (p := ⟨gb127, 1, none⟩) (Kd.R_far (p := ⟨gb127, 0, none⟩) (Kd.R_types HO_8.out BK127.out (by decide)) (fun _ hk => hk.2) (.slice A126_0 ((rd_T27 l0 x47_3).f0).length c126_0)) (fun _ hk => hk.2) (.int .i64 ((rd_T27 l0 x47_3).f1))) (fun _ hk => hk.1)⟩, ⟨by (try simp only [hl8_2]); (try simp only [hl8_3]); (with_reducible repeat (first | refine blk_drewN ?_ _ | refine blk_drew ?_ | refine blk_alloc ?_ _)); refine blk_far ?_ NB116_127.out _; (with_reducible repeat (first | refine blk_drewN ?_ _ | refine blk_drew ?_ | refine blk_alloc ?_ _)); refine blk_far ?_ NB116_127.out _; (with_reducible repeat (first | refine blk_drewN ?_ _ | refine blk_drew ?_ | refine blk_alloc ?_ _)); exact BK116.out⟩, ⟨by (try simp only [hl8_2]); (try simp only [hl8_3]); (with_reducible repeat (first | refine blk_drewN ?_ _ | refine blk_drew ?_ | refine blk_alloc ?_ _)); refine blk_far ?_ NB125_127.out _; (with_reducible repeat (first | refine blk_drewN ?_ _ | refine blk_drew ?_ | refine blk_alloc ?_ _)); refine blk_far ?_ NB125_127.out _; (with_reducible repeat (first | refine blk_drewN ?_ _ | refine blk_drew ?_ | refine blk_alloc ?_ _)); exact BK125.out⟩, ⟨by (try simp only [hl8_2]); (try simp only [hl8_3]); (with_reducible repeat (first | refine blk_drewN ?_ _ | refine blk_drew ?_ | refine blk_alloc ?_ _)); refine blk_put (cs := #[.slice A126_0 ((rd_T27 l0 x47_3).f0).length c126_0, .int .i64 0]) ?_ 1 _ rfl; (with_reducible repeat (first | refine blk_drewN ?_ _ | refine blk_drew ?_ | refine blk_alloc ?_ _)); refine blk_put (cs := #[.slice none 0 0, .int .i64 0]) ?_ 0 _ rfl; (with_reducible repeat (first | refine blk_drewN ?_ _ | refine blk_drew ?_ | refine blk_alloc ?_ _)); exact BK127.out⟩, ⟨by repeat (first | (with_reducible first | exact HB.out | apply below_alloc | apply pw_below_drewN | apply below_drew1 | refine below_set ?_ GE116.out | refine below_set ?_ GE125.out | refine below_set ?_ GE127.out) | exact HB.out)⟩⟩
                                · rw [if_neg c37] at H
                                  have c37b0 : decide ((rd l1 x47_3) < 0) = false := decide_eq_false c37
                                  clear c37
                                  have H' := Aside0.mk H
                                  clear H
                                  have p128 : 0 ≤ (x47_3 : Int) := of_decide_eq_true (by first | (with_reducible assumption) | assumption)
                                  have q128 : x47_3 < (l1.length : Int) := of_decide_eq_true (by first | (with_reducible assumption) | assumption)
                                  obtain ⟨ad128, e128, hx128_0⟩ := Kd.at_int HR1.out x47_3 p128 q128
                                  cases e128
                                  have hn128_0 : ad128.block ≠ gb127 := Nat.ne_of_lt (Nat.lt_of_lt_of_le (by have := World.block_lt_of_cell? _ _ hx128_0; first | rwa [add_block] at this | exact this) GW127.out)
                                  have hn128_1 : ad128.block ≠ gb127 := Nat.ne_of_lt (Nat.lt_of_lt_of_le (by have := World.block_lt_of_cell? _ _ hx128_0; first | rwa [add_block] at this | exact this) GW127.out)
                                  replace hx128_0 := (HB.out.cell (World.block_lt_of_cell? w _ hx128_0)).trans hx128_0
                                  replace hx128_0 := (cell_far (p := ⟨gb127, 0, none⟩) (by first | (rw [add_block]; exact hn128_0) | (show (Addr.add _ _).block ≠ _; rw [add_block]; exact hn128_0) | exact hn128_0) (.slice A126_0 ((rd_T27 l0 x47_3).f0).length c126_0)).trans hx128_0
                                  replace hx128_0 := (cell_far (p := ⟨gb127, 1, none⟩) (by first | (rw [add_block]; exact hn128_1) | (show (Addr.add _ _).block ≠ _; rw [add_block]; exact hn128_1) | exact hn128_1) (.int .i64 ((rd_T27 l0 x47_3).f1))).trans hx128_0
                                  clear hn128_0
                                  clear hn128_1
                                  replace p128 := eq_true p128
                                  replace q128 := eq_true q128
                                  have hnb38 := NB127_116.out
                                  have hnc38 := NB116_127.out
                                  have hnb39 := NB127_125.out
                                  have hnc39 := NB125_127.out
                                  have hcz40_0 : w32.cell? ⟨gb127, 0, none⟩ = some (.slice none 0 0) := (blk_cell BK127.out 0).trans rfl
                                  have hcz40_1 : w32.cell? ⟨gb127, 1, none⟩ = some (.int .i64 0) := (blk_cell BK127.out 1).trans rfl
                                  have hfz40_0 := blk_frozen BK127.out 0
                                  have hfz40_1 := blk_frozen BK127.out 1
                                  go_wp2
                                  go_meet
                                  case rel => exact ⟨_, (((((rd_T27 l0 x47_3).f0).length : Int) != a2)), (by first | rfl | (simp; done) | (simp [*]; done)), H', ⟨by have := HJ3.out; have := HK2.out; have := HK3.out; first | omega | exact Nat.le_refl _⟩, ⟨by (try simp only [hl8_2]); (try simp only [hl8_3]); (with_reducible repeat (first | apply Kd.R_alloc | apply Kd.R_drewN | apply Kd.R_drew)); exact Kd.R_mono (Kd.R_far (p := ⟨gb127, 1, none⟩) (Kd.R_far (p := ⟨gb127, 0, none⟩) (Kd.R_types HO_8.out BK127.out (by decide)) (fun _ hk => hk.2) (.slice A126_0 ((rd_T27 l0 x47_3).f0).length c126_0)) (fun _ hk => hk.2) (.int .i64 ((rd_T27 l0 x47_3).f1))) (fun _ hk => hk.1)⟩, ⟨by (try simp only [hl8_2]); (try simp only [hl8_3]); (with_reducible repeat (first | refine blk_drewN ?_ _ | refine blk_drew ?_ | refine blk_alloc ?_ _)); refine blk_far ?_ NB116_127.out _; (with_reducible repeat (first | refine blk_drewN ?_ _ | refine blk_drew ?_ | refine blk_alloc ?_ _)); refine blk_far ?_ NB116_127.out _; (with_reducible repeat (first | refine blk_drewN ?_ _ | refine blk_drew ?_ | refine blk_alloc ?_ _)); exact BK116.out⟩, ⟨by (try simp only [hl8_2]); (try simp only [hl8_3]); (with_reducible repeat (first | refine blk_drewN ?_ _ | refine blk_drew ?_ | refine blk_alloc ?_ _)); refine blk_far ?_ NB125_127.out _; (with_reducible repeat (first | refine blk_drewN ?_ _ | refine blk_drew ?_ | refine blk_alloc ?_ _)); refine blk_far ?_ NB125_127.out _; (with_reducible repeat (first | refine blk_drewN ?_ _ | refine blk_drew ?_ | refine blk_alloc ?_ _)); exact BK125.out⟩, ⟨by (try simp only [hl8_2]); (try simp only [hl8_3]); (with_reducible repeat (first | refine blk_drewN ?_ _ | refine blk_drew ?_ | refine blk_alloc ?_ _)); refine blk_put (cs := #[.slice A126_0 ((rd_T27 l0 x47_3).f0).length c126_0, .int .i64 0]) ?_ 1 _ rfl; (with_reducible repeat (first | refine blk_drewN ?_ _ | refine blk_drew ?_ | refine blk_alloc ?_ _)); refine blk_put (cs := #[.slice none 0 0, .int .i64 0]) ?_ 0 _ rfl; (with_reducible repeat (first | refine blk_drewN ?_ _ | refine blk_drew ?_ | refine blk_alloc ?_ _)); exact BK127.out⟩, ⟨by repeat (first | (with_reducible first | exact HB.out | apply below_alloc | apply pw_below_drewN | apply below_drew1 | refine below_set ?_ GE116.out | refine below_set ?_ GE125.out | refine below_set ?_ GE127.out) | exact HB.out)⟩⟩
                              · rw [if_neg c36] at H
                                exact absurd H (by simp)
                            case rest =>
                              clear HC31
                              try clear c1
                              try clear p1
                              try clear q1
                              try clear hx1
                              try clear c2
                              try clear p2
                              try clear hx2
                              try clear c3
                              try clear c6
                              try clear c6b0
                              try clear c6b1
                              try clear c6b2
                              try clear p6
                              try clear c7
                              try clear c7b0
                              try clear c8
                              try clear c10
                              try clear c10b0
                              try clear c10b1
                              try clear c11
                              try clear c11b0
                              try clear c11b1
                              try clear c12
                              try clear p12
                              try clear q12
                              try clear hx12
                              try clear c15
                              try clear c15b0
                              try clear c17
                              try clear c17b0
                              try clear c18
                              try clear c18b0
                              try clear c19
                              try clear p19
                              try clear q19
                              try clear hx19
                              try clear hf19
                              try clear c21
                              try clear hx21
                              try clear hf21
                              try clear c26
                              try clear c28
                              try clear c28b0
                              try clear c29
                              try clear c29b0
                              try clear c30
                              try clear c30b0
                              try clear c33
                              try clear c34
                              try clear c36
                              try clear c36b0
                              try clear c37
                              try clear c37b0
                              try clear c38
                              try clear c39
                              try clear hcz27_0
                              try clear hcz27_1
                              try clear hcz35_0
                              try clear hcz35_1
                              try clear hcz40_0
                              try clear hcz40_1
                              try clear hcz9_0
                              try clear hcz9_1
                              try clear hfz27_0
                              try clear hfz27_1
                              try clear hfz35_0
                              try clear hfz35_1
                              try clear hfz40_0
                              try clear hfz40_1
                              try clear hfz9_0
                              try clear hfz9_1
                              try clear hx126_0
                              try clear hx126_1
                              try clear hx128_0
                              try clear hx19_0
                              try clear hx19_1
                              try clear hx21_0
                              try clear hx21_1
                              try clear p1
                              try clear p126
                              try clear p128
                              try clear p19
                              try clear p2
                              try clear p6
                              try clear q1
                              try clear q126
                              try clear q128
                              try clear q19
                              obtain ⟨kq, x63_30, rfl, HA, HJ30, HO_8, BK116, BK125, BK127, HB⟩ := hcut
                              cases kq with
                              | zero => exact absurd HA.out (by simp [lin_Sum.j3])
                              | succ kj30 =>
                                have H := HA.out
                                clear HA
                                simp only [lin_Sum.j3] at H
                                by_cases c41 : x63_30 = true
                                · subst c41
                                  have H1 : (some (([] : List Int), 0, 14)) = some (r1, r2, r3) := by rw [if_pos rfl] at H; exact H
                                  clear H
                                  have H := H1
                                  clear H1
                                  simp only [Option.some.injEq, Prod.mk.injEq] at H
                                  obtain ⟨rfl, rfl, rfl⟩ := H
                                  have hnb42 := NB116_125.out
                                  have hnc42 := NB125_116.out
                                  have hnb43 := NB116_127.out
                                  have hnc43 := NB127_116.out
                                  have hcz44_0 : wc.cell? ⟨gb116, 0, none⟩ = some (.slice none 0 0) := (blk_cell BK116.out 0).trans rfl
                                  have hcz44_1 : wc.cell? ⟨gb116, 1, none⟩ = some (.int .i64 x117001_3) := (blk_cell BK116.out 1).trans rfl
                                  have hfz44_0 := blk_frozen BK116.out 0
                                  have hfz44_1 := blk_frozen BK116.out 1
                                  go_wp2
                                  refine bodyPost_ret (results_ct rfl _ _ gb116 27 #[.slice none 0 0, .int .i64 0] (0, 0) _ rfl (by (with_reducible repeat (first | refine blk_drewN ?_ _ | refine blk_drew ?_ | refine blk_alloc ?_ _)); refine blk_put (cs := #[.slice none 0 0, .int .i64 x117001_3]) ?_ 1 _ rfl; (with_reducible repeat (first | refine blk_drewN ?_ _ | refine blk_drew ?_ | refine blk_alloc ?_ _)); refine blk_put (cs := #[.slice none 0 0, .int .i64 x117001_3]) ?_ 0 _ rfl; (with_reducible repeat (first | refine blk_drewN ?_ _ | refine blk_drew ?_ | refine blk_alloc ?_ _)); exact BK116.out) Try.underlying27 rfl (by kernel_rfl)) rfl ?_
                                  exact ⟨_, by first | rfl | (simp [errW_none, errW_some] <;> rfl) | (simp [*, errW_none, errW_some] <;> rfl), by first | exact Kd.R_nil _ _ _ _ _ | exact Kd.N_nil _ _ _ _ _ | exact Kd.V_nil _ _ _ _ _ | exact Kd.Q_nil _ _ _ _ _ | exact Kd.S_nil _ _ _ _ _, by repeat (first | (with_reducible first | exact HB.out | apply below_alloc | apply pw_below_drewN | apply below_drew1 | refine below_set ?_ GE116.out | refine below_set ?_ GE125.out | refine below_set ?_ GE127.out) | exact HB.out)⟩
                                · replace c41 := Bool.eq_false_iff.mpr c41
                                  subst c41
                                  have H1 : (lin_Sum.l2 kj30 l1 a2 x8_3 x47_3 l0 (l0.length : Int) x47_3 ((rd_T27 l0 x47_3).f0) (((rd_T27 l0 x47_3).f0).length : Int) 0 x126000_3 x126001_3 ((rd_T27 l0 x47_3).f0) ((rd_T27 l0 x47_3).f1)) = some (r1, r2, r3) := by rw [if_neg (show ¬ (false = true) by decide)] at H; exact H
                                  clear H
                                  have H := H1
                                  clear H1
                                  have H' := Aside0.mk H
                                  clear H
                                  have hnb45 := NB127_116.out
                                  have hnc45 := NB116_127.out
                                  have hnb46 := NB127_125.out
                                  have hnc46 := NB125_127.out
                                  have hcz47_0 : wc.cell? ⟨gb127, 0, none⟩ = some (.slice A126_0 ((rd_T27 l0 x47_3).f0).length c126_0) := (blk_cell BK127.out 0).trans rfl
                                  have hcz47_1 : wc.cell? ⟨gb127, 1, none⟩ = some (.int .i64 ((rd_T27 l0 x47_3).f1)) := (blk_cell BK127.out 1).trans rfl
                                  have hfz47_0 := blk_frozen BK127.out 0
                                  have hfz47_1 := blk_frozen BK127.out 1
                                  go_wp2
                                  go_loopg [68] kj30 (fun kq v68 w' => ∃ (x8_5 : List (S49)) (x68_5 : Int) (x126000_5 : Int) (x126001_5 : Bool), v68 = .int .i64 x68_5 ∧ Aside0 (lin_Sum.l2 kq l1 a2 x8_5 x47_3 l0 (l0.length : Int) x47_3 ((rd_T27 l0 x47_3).f0) (((rd_T27 l0 x47_3).f0).length : Int) x68_5 x126000_5 x126001_5 ((rd_T27 l0 x47_3).f0) ((rd_T27 l0 x47_3).f1) = some (r1, r2, r3)) ∧ Aside0 (kq ≤ kj30) ∧ Aside0 (Kd.R k49 49 w' w.heap.size (fun k_ => k_ ≠ gb125) (.slice Ao14 x8_3.length co14) x8_5) ∧ Aside0 (w'.heap[gb116]? = some (.cells #[(.slice none 0 0), .int .i64 x117001_3] 27 (0, 0))) ∧ Aside0 (w'.heap[gb125]? = some (.cells #[.int .i64 x126000_5, .bool x126001_5] 49 (0, 0))) ∧ Aside0 (w'.heap[gb127]? = some (.cells #[(.slice A126_0 ((rd_T27 l0 x47_3).f0).length c126_0), .int .i64 ((rd_T27 l0 x47_3).f1)] 27 (0, 0))) ∧ Aside0 (Below w.heap.size w w'))
                                  case atStart => exact ⟨(x8_3), (0), (x126000_3), (x126001_3), (by first | rfl | (simp; done) | (simp [*]; done)), H', ⟨Nat.le_refl _⟩, ⟨by (try simp only [hl8_2]); (try simp only [hl8_3]); (with_reducible repeat (first | apply Kd.R_alloc | apply Kd.R_drewN | apply Kd.R_drew)); exact HO_8.out⟩, ⟨by (try simp only [hl8_2]); (try simp only [hl8_3]); (with_reducible repeat (first | refine blk_drewN ?_ _ | refine blk_drew ?_ | refine blk_alloc ?_ _)); exact BK116.out⟩, ⟨by (try simp only [hl8_2]); (try simp only [hl8_3]); (with_reducible repeat (first | refine blk_drewN ?_ _ | refine blk_drew ?_ | refine blk_alloc ?_ _)); exact BK125.out⟩, ⟨by (try simp only [hl8_2]); (try simp only [hl8_3]); (with_reducible repeat (first | refine blk_drewN ?_ _ | refine blk_drew ?_ | refine blk_alloc ?_ _)); exact BK127.out⟩, ⟨by repeat (first | (with_reducible first | exact HB.out | apply below_alloc | apply pw_below_drewN | apply below_drew1 | refine below_set ?_ GE116.out | refine below_set ?_ GE125.out | refine below_set ?_ GE127.out) | exact HB.out)⟩⟩
                                  case round =>
                                    clear H'
                                    try clear c1
                                    try clear p1
                                    try clear q1
                                    try clear hx1
                                    try clear c2
                                    try clear p2
                                    try clear hx2
                                    try clear c3
                                    try clear c4
                                    try clear c6
                                    try clear c6b0
                                    try clear c6b1
                                    try clear c6b2
                                    try clear p6
                                    try clear c7
                                    try clear c7b0
                                    try clear c8
                                    try clear c10
                                    try clear c10b0
                                    try clear c10b1
                                    try clear c11
                                    try clear c11b0
                                    try clear c11b1
                                    try clear c12
                                    try clear p12
                                    try clear q12
                                    try clear hx12
                                    try clear c15
                                    try clear c15b0
                                    try clear c17
                                    try clear c17b0
                                    try clear c18
                                    try clear c18b0
                                    try clear c19
                                    try clear p19
                                    try clear q19
                                    try clear hx19
                                    try clear hf19
                                    try clear c21
                                    try clear hx21
                                    try clear hf21
                                    try clear c26
                                    try clear c28
                                    try clear c28b0
                                    try clear c29
                                    try clear c29b0
                                    try clear c30
                                    try clear c30b0
                                    try clear c33
                                    try clear c34
                                    try clear c36
                                    try clear c36b0
                                    try clear c37
                                    try clear c37b0
                                    try clear c38
                                    try clear c39
                                    try clear c41
                                    try clear c42
                                    try clear c43
                                    try clear c45
                                    try clear c46
                                    try clear hcz27_0
                                    try clear hcz27_1
                                    try clear hcz35_0
                                    try clear hcz35_1
                                    try clear hcz40_0
                                    try clear hcz40_1
                                    try clear hcz44_0
                                    try clear hcz44_1
                                    try clear hcz47_0
                                    try clear hcz47_1
                                    try clear hcz9_0
                                    try clear hcz9_1
                                    try clear hfz27_0
                                    try clear hfz27_1
                                    try clear hfz35_0
                                    try clear hfz35_1
                                    try clear hfz40_0
                                    try clear hfz40_1
                                    try clear hfz44_0
                                    try clear hfz44_1
                                    try clear hfz47_0
                                    try clear hfz47_1
                                    try clear hfz9_0
                                    try clear hfz9_1
                                    try clear hx126_0
                                    try clear hx126_1
                                    try clear hx128_0
                                    try clear hx19_0
                                    try clear hx19_1
                                    try clear hx21_0
                                    try clear hx21_1
                                    try clear p1
                                    try clear p12
                                    try clear p126
                                    try clear p128
                                    try clear p19
                                    try clear p2
                                    try clear p6
                                    try clear q1
                                    try clear q12
                                    try clear q126
                                    try clear q128
                                    try clear q19
                                    obtain ⟨x8_5, x68_5, x126000_5, x126001_5, rfl, HA, HK5, HO_8, BK116, BK125, BK127, HB⟩ := hrel
                                    have hl8_5 := (Kd.R_reads' HO_8.out).1
                                    rw [hl8_5] at HO_8
                                    (try simp only [hl8_5])
                                    (try simp only [hl8_5] at BK116)
                                    (try simp only [hl8_5] at BK125)
                                    (try simp only [hl8_5] at BK127)
                                    cases gk with
                                    | zero => exact absurd HA.out (by simp [lin_Sum.l2])
                                    | succ k5 =>
                                      have H := HA.out
                                      clear HA
                                      simp only [lin_Sum.l2] at H
                                      by_cases c48 : x68_5 < (((rd_T27 l0 x47_3).f0).length : Int)
                                      · rw [if_pos c48] at H
                                        have c48b0 : decide (x68_5 < (((rd_T27 l0 x47_3).f0).length : Int)) = true := decide_eq_true c48
                                        clear c48
                                        by_cases c49 : 0 ≤ x68_5
                                        · rw [if_pos c49] at H
                                          have c49b0 : decide (0 ≤ x68_5) = true := decide_eq_true c49
                                          clear c49
                                          by_cases c50 : x68_5 < (((rd_T27 l0 x47_3).f0).length : Int)
                                          · rw [if_pos c50] at H
                                            have c50b0 : decide (x68_5 < (((rd_T27 l0 x47_3).f0).length : Int)) = true := decide_eq_true c50
                                            clear c50
                                            by_cases c51 : x68_5 < (x8_5.length : Int)
                                            · rw [if_pos c51] at H
                                              have c51b0 : decide (x68_5 < (x8_5.length : Int)) = true := decide_eq_true c51
                                              clear c51
                                              replace H := Option.bind_eq_some_iff.mp H
                                              obtain ⟨⟨t131, t132⟩, A520, H⟩ := H
                                              replace H : (if 0 ≤ x47_3 then (if x47_3 < (l1.length : Int) then ((lin_of.f (rd l1 x47_3)).bind fun bt134 => ((lin_sure_times.f k5 t131 t132 bt134.1 bt134.2).bind fun bt136 => ((lin_sure_plus.f ((rd_T49 x8_5 x68_5).f0) ((rd_T49 x8_5 x68_5).f1) bt136.1 bt136.2).bind fun bt138 => (lin_Sum.l2 k5 l1 a2 (x8_5.set (x68_5 : Int).toNat (⟨bt138.1, bt138.2⟩ : S49)) x47_3 l0 (l0.length : Int) x47_3 ((rd_T27 l0 x47_3).f0) (((rd_T27 l0 x47_3).f0).length : Int) (wrap64 (x68_5 + 1)) x126000_5 x126001_5 ((rd_T27 l0 x47_3).f0) ((rd_T27 l0 x47_3).f1))))) else (none)) else (none)) = some (r1, r2, r3) := H
                                              have A52 := Aside0.mk A520
                                              clear A520
                                              by_cases c53 : 0 ≤ x47_3
                                              · rw [if_pos c53] at H
                                                have c53b0 : decide (0 ≤ x47_3) = true := decide_eq_true c53
                                                clear c53
                                                by_cases c54 : x47_3 < (l1.length : Int)
                                                · rw [if_pos c54] at H
                                                  have c54b0 : decide (x47_3 < (l1.length : Int)) = true := decide_eq_true c54
                                                  clear c54
                                                  replace H := Option.bind_eq_some_iff.mp H
                                                  obtain ⟨⟨t134, t135⟩, A550, H⟩ := H
                                                  replace H : ((lin_sure_times.f k5 t131 t132 t134 t135).bind fun bt136 => ((lin_sure_plus.f ((rd_T49 x8_5 x68_5).f0) ((rd_T49 x8_5 x68_5).f1) bt136.1 bt136.2).bind fun bt138 => (lin_Sum.l2 k5 l1 a2 (x8_5.set (x68_5 : Int).toNat (⟨bt138.1, bt138.2⟩ : S49)) x47_3 l0 (l0.length : Int) x47_3 ((rd_T27 l0 x47_3).f0) (((rd_T27 l0 x47_3).f0).length : Int) (wrap64 (x68_5 + 1)) x126000_5 x126001_5 ((rd_T27 l0 x47_3).f0) ((rd_T27 l0 x47_3).f1)))) = some (r1, r2, r3) := H
                                                  have A55 := Aside0.mk A550
                                                  clear A550
                                                  replace H := Option.bind_eq_some_iff.mp H
                                                  obtain ⟨⟨t136, t137⟩, A560, H⟩ := H
                                                  replace H : ((lin_sure_plus.f ((rd_T49 x8_5 x68_5).f0) ((rd_T49 x8_5 x68_5).f1) t136 t137).bind fun bt138 => (lin_Sum.l2 k5 l1 a2 (x8_5.set (x68_5 : Int).toNat (⟨bt138.1, bt138.2⟩ : S49)) x47_3 l0 (l0.length : Int) x47_3 ((rd_T27 l0 x47_3).f0) (((rd_T27 l0 x47_3).f0).length : Int) (wrap64 (x68_5 + 1)) x126000_5 x126001_5 ((rd_T27 l0 x47_3).f0) ((rd_T27 l0 x47_3).f1))) = some (r1, r2, r3) := H
                                                  have A56 := Aside0.mk A560
                                                  clear A560
                                                  replace H := Option.bind_eq_some_iff.mp H
                                                  obtain ⟨⟨t138, t139⟩, A570, H⟩ := H
                                                  replace H : (lin_Sum.l2 k5 l1 a2 (x8_5.set (x68_5 : Int).toNat (⟨t138, t139⟩ : S49)) x47_3 l0 (l0.length : Int) x47_3 ((rd_T27 l0 x47_3).f0) (((rd_T27 l0 x47_3).f0).length : Int) (wrap64 (x68_5 + 1)) x126000_5 x126001_5 ((rd_T27 l0 x47_3).f0) ((rd_T27 l0 x47_3).f1)) = some (r1, r2, r3) := H
                                                  have A57 := Aside0.mk A570
                                                  clear A570
                                                  obtain ⟨y140, hy140⟩ : ∃ y_ : List (S49), y_ = (x8_5.set (x68_5 : Int).toNat (⟨t138, t139⟩ : S49)) := ⟨_, rfl⟩
                                                  replace H : (lin_Sum.l2 k5 l1 a2 y140 x47_3 l0 (l0.length : Int) x47_3 ((rd_T27 l0 x47_3).f0) (((rd_T27 l0 x47_3).f0).length : Int) (wrap64 (x68_5 + 1)) x126000_5 x126001_5 ((rd_T27 l0 x47_3).f0) ((rd_T27 l0 x47_3).f1)) = some (r1, r2, r3) := by first | (rw [hy140]; with_reducible exact H) | (have H2_ := (Option.bind_some _ _).symm.trans H; rw [hy140]; with_reducible exact H2_) | (have H2_ := (Option.bind_some _ _).symm.trans H; with_reducible exact H2_) | with_reducible exact H | (rw [hy140]; exact H) | exact H
                                                  have Ny140 := Aside0.mk hy140
                                                  clear hy140
                                                  have H' := Aside0.mk H
                                                  clear H
                                                  have p129 : 0 ≤ (x68_5 : Int) := of_decide_eq_true (by first | (with_reducible assumption) | assumption)
                                                  have q129 : x68_5 < (((rd_T27 l0 x47_3).f0).length : Int) := of_decide_eq_true (by first | (with_reducible assumption) | assumption)
                                                  obtain ⟨ad129, e129, hx129_0⟩ := Kd.at_int HR126_0.out x68_5 p129 q129
                                                  cases e129
                                                  replace hx129_0 := (HB.out.cell (World.block_lt_of_cell? w _ hx129_0)).trans hx129_0
                                                  replace p129 := eq_true p129
                                                  replace q129 := eq_true q129
                                                  try go_wp2
                                                  have n0_ := Aside0.mk (Kd.R_drew HO_8.out)
                                                  have n1_ := Aside0.mk (blk_drew BK116.out)
                                                  have n2_ := Aside0.mk (blk_drew BK125.out)
                                                  have n3_ := Aside0.mk (blk_drew BK127.out)
                                                  have n4_ := Aside0.mk (below_drew1 HB.out)
                                                  clear HO_8
                                                  clear BK116
                                                  clear BK125
                                                  clear BK127
                                                  clear HB
                                                  have HO_8 := n0_
                                                  have BK116 := n1_
                                                  have BK125 := n2_
                                                  have BK127 := n3_
                                                  have HB := n4_
                                                  clear n0_ n1_ n2_ n3_ n4_
                                                  have p130 : 0 ≤ (x68_5 : Int) := of_decide_eq_true (by first | (with_reducible assumption) | assumption)
                                                  have q130 : x68_5 < (x8_5.length : Int) := of_decide_eq_true (by first | (with_reducible assumption) | assumption)
                                                  obtain ⟨ad130, e130, hx130_0, hx130_1⟩ := at_T49 (Kd.R_reads' HO_8.out).2.2 x68_5 p130 q130
                                                  cases e130
                                                  replace p130 := eq_true p130
                                                  replace q130 := eq_true q130
                                                  have p133 : 0 ≤ (x47_3 : Int) := of_decide_eq_true (by first | (with_reducible assumption) | assumption)
                                                  have q133 : x47_3 < (l1.length : Int) := of_decide_eq_true (by first | (with_reducible assumption) | assumption)
                                                  obtain ⟨ad133, e133, hx133_0⟩ := Kd.at_int HR1.out x47_3 p133 q133
                                                  have hw133_0 := hx133_0
                                                  cases e133
                                                  replace hx133_0 := (HB.out.cell (World.block_lt_of_cell? w _ hx133_0)).trans hx133_0
                                                  replace p133 := eq_true p133
                                                  replace q133 := eq_true q133
                                                  refine start_ (n := 17) (S := fun w' => w'.cell? (ad130.add ((x68_5).toNat * 2)) = some (.int .i64 ((rd_T49 x8_5 x68_5).f0)) ∧ w'.cell? ⟨(ad130.add ((x68_5).toNat * 2)).block, (ad130.add ((x68_5).toNat * 2)).off + 1, none⟩ = some (.bool ((rd_T49 x8_5 x68_5).f1)) ∧ w'.cell? (ad133.add (x47_3).toNat) = some (.int .i64 (rd l1 x47_3))) (ds := [16]) #[false, false, false, false, false, false, false, false, false, false, false, false, false, false, false, false, false] (by kernel_rfl) rfl rfl ⟨hx130_0, hx130_1, ((HB.out.cell (World.block_lt_of_cell? w _ hw133_0)).trans hw133_0)⟩ (fun hHeld => ?_); refine with_tabW lin_Sum.tab18 lin_Sum.bits18 (fun HT_ HW_ => ?_)
                                                  generalize wr.drew = w59 at HO_8 BK116 BK125 BK127 HB hx130_0 hx130_1 hx133_0 hHeld ⊢
                                                  refine pure_ (i := 0) (N := some 73) (v := ?_) (a' := ?_) #[true, false, false, false, false, false, false, false, false, false, false, false, false, false, false, false, false] rfl rfl (any_of HT_.out (by kernel_rfl)) (fun _ _ _ h => h) (Or.inl ⟨by rfl, ?_⟩) ?_ ?_
                                                  rotate_left
                                                  · intro w'
                                                    go_simp
                                                    with_reducible rfl
                                                  rotate_left
                                                  · simp only [Act.put, List.setIfInBounds_toArray, List.set_cons_zero, List.set_cons_succ, i64_w, i32_w]
                                                    rfl
                                                  refine pure_ (i := 1) (N := some 74) (v := ?_) (a' := ?_) #[true, true, false, false, false, false, false, false, false, false, false, false, false, false, false, false, false] rfl rfl (any_of HT_.out (by kernel_rfl)) (fun _ _ _ h => h) (Or.inl ⟨by rfl, ?_⟩) ?_ ?_
                                                  rotate_left
                                                  · intro w'
                                                    go_simp
                                                    with_reducible rfl
                                                  rotate_left
                                                  · simp only [Act.put, List.setIfInBounds_toArray, List.set_cons_zero, List.set_cons_succ, i64_w, i32_w]
                                                    rfl
                                                  refine pure_ (i := 2) (N := some 75) (v := ?_) (a' := ?_) #[true, true, true, false, false, false, false, false, false, false, false, false, false, false, false, false, false] rfl rfl (any_of HT_.out (by kernel_rfl)) (fun _ _ _ h => h) (Or.inl ⟨by rfl, ?_⟩) ?_ ?_
                                                  rotate_left
                                                  · intro w'
                                                    go_simp
                                                    with_reducible rfl
                                                  rotate_left
                                                  · simp only [Act.put, List.setIfInBounds_toArray, List.set_cons_zero, List.set_cons_succ, i64_w, i32_w]
                                                    rfl
                                                  refine pure_ (i := 3) (N := some 76) (v := ?_) (a' := ?_) #[true, true, true, true, false, false, false, false, false, false, false, false, false, false, false, false, false] rfl rfl (any_of HT_.out (by kernel_rfl)) (fun _ _ _ h => h) (Or.inl ⟨by rfl, ?_⟩) ?_ ?_
                                                  rotate_left
                                                  · intro w'
                                                    go_simp
                                                    with_reducible rfl
                                                  rotate_left
                                                  · simp only [Act.put, List.setIfInBounds_toArray, List.set_cons_zero, List.set_cons_succ, i64_w, i32_w]
                                                    rfl
                                                  refine pure_ (i := 4) (N := some 77) (v := ?_) (a' := ?_) #[true, true, true, true, true, false, false, false, false, false, false, false, false, false, false, false, false] rfl rfl (any_of HT_.out (by kernel_rfl)) (fun _ _ _ h => h) (Or.inl ⟨by rfl, ?_⟩) ?_ ?_
                                                  rotate_left
                                                  · intro w'
                                                    go_simp
                                                    with_reducible rfl
                                                  rotate_left
                                                  · simp only [Act.put, List.setIfInBounds_toArray, List.set_cons_zero, List.set_cons_succ, i64_w, i32_w]
                                                    rfl
                                                  refine pure_ (i := 6) (N := some 79) (v := ?_) (a' := ?_) #[true, true, true, true, true, false, true, false, false, false, false, false, false, false, false, false, false] rfl rfl (any_of HT_.out (by kernel_rfl)) (fun _ _ _ h => h) (Or.inl ⟨by rfl, ?_⟩) ?_ ?_
                                                  rotate_left
                                                  · intro w'
                                                    go_simp
                                                    with_reducible rfl
                                                  rotate_left
                                                  · simp only [Act.put, List.setIfInBounds_toArray, List.set_cons_zero, List.set_cons_succ, i64_w, i32_w]
                                                    rfl
                                                  refine pure_ (i := 8) (N := some 81) (v := ?_) (a' := ?_) #[true, true, true, true, true, false, true, false, true, false, false, false, false, false, false, false, false] rfl rfl (any_of HT_.out (by kernel_rfl)) (fun _ _ _ h => h) (Or.inl ⟨by rfl, ?_⟩) ?_ ?_
                                                  rotate_left
                                                  · intro w'
                                                    go_simp
                                                    with_reducible rfl
                                                  rotate_left
                                                  · simp only [Act.put, List.setIfInBounds_toArray, List.set_cons_zero, List.set_cons_succ, i64_w, i32_w]
                                                    rfl
                                                  refine pure_ (i := 9) (N := some 82) (v := ?_) (a' := ?_) #[true, true, true, true, true, false, true, false, true, true, false, false, false, false, false, false, false] rfl rfl (any_of HT_.out (by kernel_rfl)) (fun _ _ _ h => h) (Or.inl ⟨by rfl, ?_⟩) ?_ ?_
                                                  rotate_left
                                                  · intro w'
                                                    go_simp
                                                    with_reducible rfl
                                                  rotate_left
                                                  · simp only [Act.put, List.setIfInBounds_toArray, List.set_cons_zero, List.set_cons_succ, i64_w, i32_w]
                                                    rfl
                                                  refine pure_ (i := 10) (N := some 83) (v := ?_) (a' := ?_) #[true, true, true, true, true, false, true, false, true, true, true, false, false, false, false, false, false] rfl rfl (any_of HT_.out (by kernel_rfl)) (fun _ _ _ h => h) (Or.inl ⟨by rfl, ?_⟩) ?_ ?_
                                                  rotate_left
                                                  · intro w'
                                                    go_simp
                                                    with_reducible rfl
                                                  rotate_left
                                                  · simp only [Act.put, List.setIfInBounds_toArray, List.set_cons_zero, List.set_cons_succ, i64_w, i32_w]
                                                    rfl
                                                  refine take_ (i := 5) (N := some 78) (v := ?_) (a' := ?_) #[true, true, true, true, true, true, true, false, true, true, true, false, false, false, false, false, false] rfl rfl (take_ofW HT_.out HW_.out (by kernel_rfl)) (fun _ _ _ h => h) (Or.inl ⟨by rfl, ?_⟩) hHeld ?_ ?_
                                                  rotate_left
                                                  · rintro w' ⟨s0, s1, s2⟩
                                                    go_simp
                                                    with_reducible rfl
                                                  rotate_left
                                                  · simp only [Act.put, List.setIfInBounds_toArray, List.set_cons_zero, List.set_cons_succ, i64_w, i32_w]
                                                    rfl
                                                  refine take_ (i := 11) (N := some 84) (v := ?_) (a' := ?_) #[true, true, true, true, true, true, true, false, true, true, true, true, false, false, false, false, false] rfl rfl (take_ofW HT_.out HW_.out (by kernel_rfl)) (fun _ _ _ h => h) (Or.inl ⟨by rfl, ?_⟩) hHeld ?_ ?_
                                                  rotate_left
                                                  · rintro w' ⟨s0, s1, s2⟩
                                                    go_simp
                                                    with_reducible rfl
                                                  rotate_left
                                                  · simp only [Act.put, List.setIfInBounds_toArray, List.set_cons_zero, List.set_cons_succ, i64_w, i32_w]
                                                    rfl
                                                  refine one_ (i := 7) (N := some 80) #[true, true, true, true, true, true, true, true, true, true, true, true, false, false, false, false, false] rfl rfl (one_of HT_.out (by kernel_rfl)) (by decide) (fun K hK => ?_)
                                                  refine goes_ Try.func18 (by kernel_rfl) rfl #[.int .i64 (rd ((rd_T27 l0 x47_3).f0) x68_5)] (by rfl) rfl rfl (by (try simp only [List.map_toArray, List.map_cons, List.map_nil]); first | done | rfl | (simp only [List.length_drop, List.length_take]; rfl)) ?_
                                                  with_reducible refine (lin_of.calls (rd ((rd_T27 l0 x47_3).f0) x68_5) t131 t132 _ A52.out).mono ?_
                                                  rintro e w60 ⟨rfl, hb⟩
                                                  have HS0_ := (hb.cell (World.block_lt_of_cell? _ _ (hHeld.1))).trans (hHeld.1)
                                                  have HS1_ := (hb.cell (World.block_lt_of_cell? _ _ (hHeld.2.1))).trans (hHeld.2.1)
                                                  refine ⟨_, rfl, ?_⟩
                                                  have n0_ := Aside0.mk (Kd.R_below (by (with_reducible repeat (first | apply Kd.R_alloc | apply Kd.R_drewN | apply Kd.R_drew)); exact HO_8.out) hb)
                                                  have n1_ := Aside0.mk (blk_below (g := gb116) (o := .cells #[.slice none 0 0, .int .i64 x117001_3] 27 (0, 0)) (by (with_reducible repeat (first | refine blk_drewN ?_ _ | refine blk_drew ?_ | refine blk_alloc ?_ _)); exact BK116.out) hb)
                                                  have n2_ := Aside0.mk (blk_below (g := gb125) (o := .cells #[.int .i64 x126000_5, .bool x126001_5] 49 (0, 0)) (by (with_reducible repeat (first | refine blk_drewN ?_ _ | refine blk_drew ?_ | refine blk_alloc ?_ _)); exact BK125.out) hb)
                                                  have n3_ := Aside0.mk (blk_below (g := gb127) (o := .cells #[.slice (some ad129) ((rd_T27 l0 x47_3).f0).length c126_0, .int .i64 ((rd_T27 l0 x47_3).f1)] 27 (0, 0)) (by (with_reducible repeat (first | refine blk_drewN ?_ _ | refine blk_drew ?_ | refine blk_alloc ?_ _)); exact BK127.out) hb)
                                                  have n4_ := Aside0.mk (below_step (by repeat (first | (with_reducible first | exact HB.out | apply below_alloc | apply pw_below_drewN | apply below_drew1 | refine below_set ?_ GE116.out | refine below_set ?_ GE125.out | refine below_set ?_ GE127.out) | exact HB.out)) hb)
                                                  clear HO_8
                                                  clear BK116
                                                  clear BK125
                                                  clear BK127
                                                  clear HB
                                                  have HO_8 := n0_
                                                  have BK116 := n1_
                                                  have BK125 := n2_
                                                  have BK127 := n3_
                                                  have HB := n4_
                                                  clear n0_ n1_ n2_ n3_ n4_
                                                  (try clear hb)
                                                  (try clear hb2)
                                                  (try clear hk)
                                                  (try clear hi)
                                                  refine hK.out _ _ ⟨HS0_, HS1_, ((HB.out.cell (World.block_lt_of_cell? w _ hw133_0)).trans hw133_0)⟩ (fun hHeld => ?_)
                                                  clear hK K
                                                  refine norm_ (a' := ?_) ?_ ?_
                                                  rotate_left
                                                  · show Act.put _ (some 80) _ = _
                                                    simp only [Act.put, List.setIfInBounds_toArray, List.set_cons_zero, List.set_cons_succ, i64_w, i32_w]
                                                    rfl
                                                  refine one_ (i := 12) (N := some 85) #[true, true, true, true, true, true, true, true, true, true, true, true, true, false, false, false, false] rfl rfl (one_of HT_.out (by kernel_rfl)) (by decide) (fun K hK => ?_)
                                                  refine goes_ Try.func18 (by kernel_rfl) rfl #[.int .i64 (rd l1 x47_3)] (by rfl) rfl rfl (by (try simp only [List.map_toArray, List.map_cons, List.map_nil]); first | done | rfl | (simp only [List.length_drop, List.length_take]; rfl)) ?_
                                                  with_reducible refine (lin_of.calls (rd l1 x47_3) t134 t135 _ A55.out).mono ?_
                                                  rintro e w61 ⟨rfl, hb⟩
                                                  have HS0_ := (hb.cell (World.block_lt_of_cell? _ _ (hHeld.1))).trans (hHeld.1)
                                                  have HS1_ := (hb.cell (World.block_lt_of_cell? _ _ (hHeld.2.1))).trans (hHeld.2.1)
                                                  refine ⟨_, rfl, ?_⟩
                                                  have n0_ := Aside0.mk (Kd.R_below (by (with_reducible repeat (first | apply Kd.R_alloc | apply Kd.R_drewN | apply Kd.R_drew)); exact HO_8.out) hb)
                                                  have n1_ := Aside0.mk (blk_below (g := gb116) (o := .cells #[.slice none 0 0, .int .i64 x117001_3] 27 (0, 0)) (by (with_reducible repeat (first | refine blk_drewN ?_ _ | refine blk_drew ?_ | refine blk_alloc ?_ _)); exact BK116.out) hb)
                                                  have n2_ := Aside0.mk (blk_below (g := gb125) (o := .cells #[.int .i64 x126000_5, .bool x126001_5] 49 (0, 0)) (by (with_reducible repeat (first | refine blk_drewN ?_ _ | refine blk_drew ?_ | refine blk_alloc ?_ _)); exact BK125.out) hb)
                                                  have n3_ := Aside0.mk (blk_below (g := gb127) (o := .cells #[.slice (some ad129) ((rd_T27 l0 x47_3).f0).length c126_0, .int .i64 ((rd_T27 l0 x47_3).f1)] 27 (0, 0)) (by (with_reducible repeat (first | refine blk_drewN ?_ _ | refine blk_drew ?_ | refine blk_alloc ?_ _)); exact BK127.out) hb)
                                                  have n4_ := Aside0.mk (below_step (by repeat (first | (with_reducible first | exact HB.out | apply below_alloc | apply pw_below_drewN | apply below_drew1 | refine below_set ?_ GE116.out | refine below_set ?_ GE125.out | refine below_set ?_ GE127.out) | exact HB.out)) hb)
                                                  clear HO_8
                                                  clear BK116
                                                  clear BK125
                                                  clear BK127
                                                  clear HB
                                                  have HO_8 := n0_
                                                  have BK116 := n1_
                                                  have BK125 := n2_
                                                  have BK127 := n3_
                                                  have HB := n4_
                                                  clear n0_ n1_ n2_ n3_ n4_
                                                  (try clear hb)
                                                  (try clear hb2)
                                                  (try clear hk)
                                                  (try clear hi)
                                                  refine hK.out _ _ ⟨HS0_, HS1_, ((HB.out.cell (World.block_lt_of_cell? w _ hw133_0)).trans hw133_0)⟩ (fun hHeld => ?_)
                                                  clear hK K
                                                  refine norm_ (a' := ?_) ?_ ?_
                                                  rotate_left
                                                  · show Act.put _ (some 85) _ = _
                                                    simp only [Act.put, List.setIfInBounds_toArray, List.set_cons_zero, List.set_cons_succ, i64_w, i32_w]
                                                    rfl
                                                  refine one_ (i := 13) (N := some 86) #[true, true, true, true, true, true, true, true, true, true, true, true, true, true, false, false, false] rfl rfl (one_of HT_.out (by kernel_rfl)) (by decide) (fun K hK => ?_)
                                                  refine goes_ Try.func20 (by kernel_rfl) rfl #[.agg #[.int .i64 t131, .bool t132], .agg #[.int .i64 t134, .bool t135]] (by rfl) rfl rfl (by (try simp only [List.map_toArray, List.map_cons, List.map_nil]); first | done | rfl | (simp only [List.length_drop, List.length_take]; rfl)) ?_
                                                  with_reducible refine (lin_sure_times.calls k5 t131 t132 t134 t135 t136 t137 _ A56.out).mono ?_
                                                  rintro e w62 ⟨rfl, hb⟩
                                                  have HS0_ := (hb.cell (World.block_lt_of_cell? _ _ (hHeld.1))).trans (hHeld.1)
                                                  have HS1_ := (hb.cell (World.block_lt_of_cell? _ _ (hHeld.2.1))).trans (hHeld.2.1)
                                                  refine ⟨_, rfl, ?_⟩
                                                  have n0_ := Aside0.mk (Kd.R_below (by (with_reducible repeat (first | apply Kd.R_alloc | apply Kd.R_drewN | apply Kd.R_drew)); exact HO_8.out) hb)
                                                  have n1_ := Aside0.mk (blk_below (g := gb116) (o := .cells #[.slice none 0 0, .int .i64 x117001_3] 27 (0, 0)) (by (with_reducible repeat (first | refine blk_drewN ?_ _ | refine blk_drew ?_ | refine blk_alloc ?_ _)); exact BK116.out) hb)
                                                  have n2_ := Aside0.mk (blk_below (g := gb125) (o := .cells #[.int .i64 x126000_5, .bool x126001_5] 49 (0, 0)) (by (with_reducible repeat (first | refine blk_drewN ?_ _ | refine blk_drew ?_ | refine blk_alloc ?_ _)); exact BK125.out) hb)
                                                  have n3_ := Aside0.mk (blk_below (g := gb127) (o := .cells #[.slice (some ad129) ((rd_T27 l0 x47_3).f0).length c126_0, .int .i64 ((rd_T27 l0 x47_3).f1)] 27 (0, 0)) (by (with_reducible repeat (first | refine blk_drewN ?_ _ | refine blk_drew ?_ | refine blk_alloc ?_ _)); exact BK127.out) hb)
                                                  have n4_ := Aside0.mk (below_step (by repeat (first | (with_reducible first | exact HB.out | apply below_alloc | apply pw_below_drewN | apply below_drew1 | refine below_set ?_ GE116.out | refine below_set ?_ GE125.out | refine below_set ?_ GE127.out) | exact HB.out)) hb)
                                                  clear HO_8
                                                  clear BK116
                                                  clear BK125
                                                  clear BK127
                                                  clear HB
                                                  have HO_8 := n0_
                                                  have BK116 := n1_
                                                  have BK125 := n2_
                                                  have BK127 := n3_
                                                  have HB := n4_
                                                  clear n0_ n1_ n2_ n3_ n4_
                                                  (try clear hb)
                                                  (try clear hb2)
                                                  (try clear hk)
                                                  (try clear hi)
                                                  refine hK.out _ _ ⟨HS0_, HS1_, ((HB.out.cell (World.block_lt_of_cell? w _ hw133_0)).trans hw133_0)⟩ (fun hHeld => ?_)
                                                  clear hK K
                                                  refine norm_ (a' := ?_) ?_ ?_
                                                  rotate_left
                                                  · show Act.put _ (some 86) _ = _
                                                    simp only [Act.put, List.setIfInBounds_toArray, List.set_cons_zero, List.set_cons_succ, i64_w, i32_w]
                                                    rfl
                                                  refine one_ (i := 14) (N := some 87) #[true, true, true, true, true, true, true, true, true, true, true, true, true, true, true, false, false] rfl rfl (one_of HT_.out (by kernel_rfl)) (by decide) (fun K hK => ?_)
                                                  refine goes_ Try.func19 (by kernel_rfl) rfl #[.agg #[.int .i64 ((rd_T49 x8_5 x68_5).f0), .bool ((rd_T49 x8_5 x68_5).f1)], .agg #[.int .i64 t136, .bool t137]] (by rfl) rfl rfl (by (try simp only [List.map_toArray, List.map_cons, List.map_nil]); first | done | rfl | (simp only [List.length_drop, List.length_take]; rfl)) ?_
                                                  with_reducible refine (lin_sure_plus.calls ((rd_T49 x8_5 x68_5).f0) ((rd_T49 x8_5 x68_5).f1) t136 t137 t138 t139 _ A57.out).mono ?_
                                                  rintro e w63 ⟨rfl, hb⟩
                                                  have HS0_ := (hb.cell (World.block_lt_of_cell? _ _ (hHeld.1))).trans (hHeld.1)
                                                  have HS1_ := (hb.cell (World.block_lt_of_cell? _ _ (hHeld.2.1))).trans (hHeld.2.1)
                                                  refine ⟨_, rfl, ?_⟩
                                                  have n0_ := Aside0.mk (Kd.R_below (by (with_reducible repeat (first | apply Kd.R_alloc | apply Kd.R_drewN | apply Kd.R_drew)); exact HO_8.out) hb)
                                                  have n1_ := Aside0.mk (blk_below (g := gb116) (o := .cells #[.slice none 0 0, .int .i64 x117001_3] 27 (0, 0)) (by (with_reducible repeat (first | refine blk_drewN ?_ _ | refine blk_drew ?_ | refine blk_alloc ?_ _)); exact BK116.out) hb)
                                                  have n2_ := Aside0.mk (blk_below (g := gb125) (o := .cells #[.int .i64 x126000_5, .bool x126001_5] 49 (0, 0)) (by (with_reducible repeat (first | refine blk_drewN ?_ _ | refine blk_drew ?_ | refine blk_alloc ?_ _)); exact BK125.out) hb)
                                                  have n3_ := Aside0.mk (blk_below (g := gb127) (o := .cells #[.slice (some ad129) ((rd_T27 l0 x47_3).f0).length c126_0, .int .i64 ((rd_T27 l0 x47_3).f1)] 27 (0, 0)) (by (with_reducible repeat (first | refine blk_drewN ?_ _ | refine blk_drew ?_ | refine blk_alloc ?_ _)); exact BK127.out) hb)
                                                  have n4_ := Aside0.mk (below_step (by repeat (first | (with_reducible first | exact HB.out | apply below_alloc | apply pw_below_drewN | apply below_drew1 | refine below_set ?_ GE116.out | refine below_set ?_ GE125.out | refine below_set ?_ GE127.out) | exact HB.out)) hb)
                                                  clear HO_8
                                                  clear BK116
                                                  clear BK125
                                                  clear BK127
                                                  clear HB
                                                  have HO_8 := n0_
                                                  have BK116 := n1_
                                                  have BK125 := n2_
                                                  have BK127 := n3_
                                                  have HB := n4_
                                                  clear n0_ n1_ n2_ n3_ n4_
                                                  (try clear hb)
                                                  (try clear hb2)
                                                  (try clear hk)
                                                  (try clear hi)
                                                  have p58 : 0 ≤ (x68_5 : Int) := of_decide_eq_true (by first | (with_reducible assumption) | assumption)
                                                  have q58 : (x68_5 : Int) < ((x8_5.length : Int) : Int) := of_decide_eq_true (by first | (with_reducible assumption) | assumption)
                                                  obtain ⟨go58, co58, eo58, gb58, gl58, cl58, HG58⟩ := Kd.R_form HO_8.out (by omega)
                                                  (first | cases eo58 | (injection eo58 with ea_ en_ ec_; (first | subst ea_ | (injection ea_ with ea_; subst ea_)); subst ec_; clear en_))
                                                  have GB58 := Aside0.mk gb58
                                                  have GG58 := Aside0.mk HG58
                                                  clear gb58 gl58 HG58
                                                  (first | simp only [add_plain] at hx130_0 | skip)
                                                  (first | simp only [add_plain] at hx130_1 | skip)
                                                  obtain ⟨ce58, hcl58, hM58, hcc58, hfr58⟩ := Kd.R_elem HO_8.out z49 (x68_5 : Int) p58 q58
                                                  obtain rfl := k49_openM hM58
                                                  have hx58_0 : World.cell? _ ⟨go58, (x68_5 : Int).toNat * 2, none⟩ = some (.int .i64 ((rd_T49 x8_5 x68_5).f0)) := hcc58 0 _ rfl
                                                  have hx58_1 : World.cell? _ ⟨go58, (x68_5 : Int).toNat * 2 + 1, none⟩ = some (.bool ((rd_T49 x8_5 x68_5).f1)) := hcc58 1 _ rfl
                                                  have hf58_0 : World.frozen? _ ⟨go58, (x68_5 : Int).toNat * 2, none⟩ = false := hfr58 0
                                                  have hf58_1 : World.frozen? _ ⟨go58, (x68_5 : Int).toNat * 2 + 1, none⟩ = false := hfr58 1
                                                  clear hcl58 hcc58 hfr58 hM58
                                                  replace p58 := eq_true p58
                                                  replace q58 := eq_true q58
                                                  obtain ⟨ce64, hcl64, hM64, hcc64, hfr64⟩ := Kd.R_elem HO_8.out z49 (x68_5 : Int) (of_decide_eq_true (by first | (with_reducible assumption) | assumption)) (by have h_ : (x68_5 : Int) < ((x8_5.length : Int) : Int) := of_decide_eq_true (by first | (with_reducible assumption) | assumption); first | exact h_ | (have e_ := (Kd.R_reads' HO_8.out).1; omega) | simpa using h_)
                                                  obtain rfl := k49_openM hM64
                                                  have HP64 := (Kd.R_seg HO_8.out (x68_5 : Int) (of_decide_eq_true (by first | (with_reducible assumption) | assumption)) (by have h_ : (x68_5 : Int) < ((x8_5.length : Int) : Int) := of_decide_eq_true (by first | (with_reducible assumption) | assumption); first | exact h_ | (have e_ := (Kd.R_reads' HO_8.out).1; omega) | simpa using h_) (seg := [.int .i64 t138, .bool t139]) (j := 0) hcl64 hcc64 (show 2 ≤ 2 from by decide) (x' := (⟨t138, t139⟩ : S49)) (k49_mkM _ _ _ (⟨t138, t139⟩ : S49) ) (fun _ hk => hk)).1
                                                  rw [← Ny140.out] at HP64
                                                  have HQ64 := Aside0.mk HP64
                                                  clear hcl64 hcc64 hfr64 hM64 HP64
                                                  refine hK.out _ _ ⟨HS0_, HS1_, ((HB.out.cell (World.block_lt_of_cell? w _ hw133_0)).trans hw133_0)⟩ (fun hHeld => ?_)
                                                  clear hK K
                                                  refine norm_ (a' := ?_) ?_ ?_
                                                  rotate_left
                                                  · show Act.put _ (some 87) _ = _
                                                    simp only [Act.put, List.setIfInBounds_toArray, List.set_cons_zero, List.set_cons_succ, i64_w, i32_w]
                                                    rfl
                                                  refine pure_ (i := 15) (N := some 88) (v := ?_) (a' := ?_) #[true, true, true, true, true, true, true, true, true, true, true, true, true, true, true, true, false] rfl rfl (any_of HT_.out (by kernel_rfl)) (fun _ _ _ h => h) (Or.inl ⟨by rfl, ?_⟩) ?_ ?_
                                                  rotate_left
                                                  · intro w'
                                                    go_simp
                                                    with_reducible rfl
                                                  rotate_left
                                                  · simp only [Act.put, List.setIfInBounds_toArray, List.set_cons_zero, List.set_cons_succ, i64_w, i32_w]
                                                    rfl
                                                  refine last_ (i := 16) (N := none) #[true, true, true, true, true, true, true, true, true, true, true, true, true, true, true, true, true] rfl rfl (one_of HT_.out (by kernel_rfl)) (by decide) (fun K hK => ?_)
                                                  refine skip_ (w1 := ?_) (by rfl) rfl ?_ ?_
                                                  rotate_left
                                                  · go_simp
                                                    rfl
                                                  refine hK.out _ _ ?_
                                                  clear hK K
                                                  refine done_ (done_of HT_.out (by kernel_rfl)) ?_
                                                  try go_wp2
                                                  (try simp only [← hl8_5])
                                                  go_roundg k5
                                                  case measure => have := HJ3.out; have := HK2.out; have := HK3.out; have := HJ30.out; have := HK5.out; omega
                                                  case rel => exact ⟨(y140), (wrap64 (x68_5 + 1)), (x126000_5), (x126001_5), (by first | rfl | (simp; done) | (simp [*]; done)), H', ⟨by have := HJ3.out; have := HK2.out; have := HK3.out; have := HJ30.out; have := HK5.out; omega⟩, ⟨by (try simp only [hl8_2]); (try simp only [hl8_3]); (try simp only [hl8_5]); (with_reducible repeat (first | apply Kd.R_alloc | apply Kd.R_drewN | apply Kd.R_drew)); exact HQ64.out⟩, ⟨by (try simp only [hl8_2]); (try simp only [hl8_3]); (try simp only [hl8_5]); (with_reducible repeat (first | refine blk_drewN ?_ _ | refine blk_drew ?_ | refine blk_alloc ?_ _)); refine blk_far ?_ (by have h_ := Kd.R_ne HO_8.out BK116.out (by decide); intro e_; exact h_ (by rw [e_]; rfl)) _; (with_reducible repeat (first | refine blk_drewN ?_ _ | refine blk_drew ?_ | refine blk_alloc ?_ _)); refine blk_far ?_ (by have h_ := Kd.R_ne HO_8.out BK116.out (by decide); intro e_; exact h_ (by rw [e_]; rfl)) _; (with_reducible repeat (first | refine blk_drewN ?_ _ | refine blk_drew ?_ | refine blk_alloc ?_ _)); exact BK116.out⟩, ⟨by (try simp only [hl8_2]); (try simp only [hl8_3]); (try simp only [hl8_5]); (with_reducible repeat (first | refine blk_drewN ?_ _ | refine blk_drew ?_ | refine blk_alloc ?_ _)); refine blk_far ?_ (by have h_ := Kd.R_away HO_8.out (fun _ hk => hk); intro e_; exact h_ (by rw [e_]; rfl)) _; (with_reducible repeat (first | refine blk_drewN ?_ _ | refine blk_drew ?_ | refine blk_alloc ?_ _)); refine blk_far ?_ (by have h_ := Kd.R_away HO_8.out (fun _ hk => hk); intro e_; exact h_ (by rw [e_]; rfl)) _; (with_reducible repeat (first | refine blk_drewN ?_ _ | refine blk_drew ?_ | refine blk_alloc ?_ _)); exact BK125.out⟩, ⟨by (try simp only [hl8_2]); (try simp only [hl8_3]); (try simp only [hl8_5]); (with_reducible repeat (first | refine blk_drewN ?_ _ | refine blk_drew ?_ | refine blk_alloc ?_ _)); refine blk_far ?_ (by have h_ := Kd.R_ne HO_8.out BK127.out (by decide); intro e_; exact h_ (by rw [e_]; rfl)) _; (with_reducible repeat (first | refine blk_drewN ?_ _ | refine blk_drew ?_ | refine blk_alloc ?_ _)); refine blk_far ?_ (by have h_ := Kd.R_ne HO_8.out BK127.out (by decide); intro e_; exact h_ (by rw [e_]; rfl)) _; (with_reducible repeat (first | refine blk_drewN ?_ _ | refine blk_drew ?_ | refine blk_alloc ?_ _)); exact BK127.out⟩, ⟨by repeat (first | (with_reducible first | exact HB.out | apply below_alloc | apply pw_below_drewN | apply below_drew1 | refine below_set ?_ GB58.out | refine below_set ?_ GB58.out | refine below_set ?_ GE116.out | refine below_set ?_ GE125.out | refine below_set ?_ GE127.out) | exact HB.out)⟩⟩
                                                · rw [if_neg c54] at H
                                                  exact absurd H (by simp)
                                              · rw [if_neg c53] at H
                                                exact absurd H (by simp)
                                            · rw [if_neg c51] at H
                                              exact absurd H (by simp)
                                          · rw [if_neg c50] at H
                                            exact absurd H (by simp)
                                        · rw [if_neg c49] at H
                                          exact absurd H (by simp)
                                      · rw [if_neg c48] at H
                                        have c48b0 : decide (x68_5 < (((rd_T27 l0 x47_3).f0).length : Int)) = false := decide_eq_false c48
                                        clear c48
                                        replace H := Option.bind_eq_some_iff.mp H
                                        obtain ⟨⟨t141, t142⟩, A650, H⟩ := H
                                        replace H : (if 0 ≤ x47_3 then (if x47_3 < (l1.length : Int) then ((lin_of.f (rd l1 x47_3)).bind fun bt144 => ((lin_sure_times.f k5 t141 t142 bt144.1 bt144.2).bind fun bt146 => ((lin_sure_plus.f x126000_5 x126001_5 bt146.1 bt146.2).bind fun bt148 => (lin_Sum.l1 k5 l1 a2 x8_5 l0 (l0.length : Int) (wrap64 (x47_3 + 1)) bt148.1 bt148.2)))) else (none)) else (none)) = some (r1, r2, r3) := H
                                        have A65 := Aside0.mk A650
                                        clear A650
                                        by_cases c66 : 0 ≤ x47_3
                                        · rw [if_pos c66] at H
                                          have c66b0 : decide (0 ≤ x47_3) = true := decide_eq_true c66
                                          clear c66
                                          by_cases c67 : x47_3 < (l1.length : Int)
                                          · rw [if_pos c67] at H
                                            have c67b0 : decide (x47_3 < (l1.length : Int)) = true := decide_eq_true c67
                                            clear c67
                                            replace H := Option.bind_eq_some_iff.mp H
                                            obtain ⟨⟨t144, t145⟩, A680, H⟩ := H
                                            replace H : ((lin_sure_times.f k5 t141 t142 t144 t145).bind fun bt146 => ((lin_sure_plus.f x126000_5 x126001_5 bt146.1 bt146.2).bind fun bt148 => (lin_Sum.l1 k5 l1 a2 x8_5 l0 (l0.length : Int) (wrap64 (x47_3 + 1)) bt148.1 bt148.2))) = some (r1, r2, r3) := H
                                            have A68 := Aside0.mk A680
                                            clear A680
                                            replace H := Option.bind_eq_some_iff.mp H
                                            obtain ⟨⟨t146, t147⟩, A690, H⟩ := H
                                            replace H : ((lin_sure_plus.f x126000_5 x126001_5 t146 t147).bind fun bt148 => (lin_Sum.l1 k5 l1 a2 x8_5 l0 (l0.length : Int) (wrap64 (x47_3 + 1)) bt148.1 bt148.2)) = some (r1, r2, r3) := H
                                            have A69 := Aside0.mk A690
                                            clear A690
                                            replace H := Option.bind_eq_some_iff.mp H
                                            obtain ⟨⟨t148, t149⟩, A700, H⟩ := H
                                            replace H : (lin_Sum.l1 k5 l1 a2 x8_5 l0 (l0.length : Int) (wrap64 (x47_3 + 1)) t148 t149) = some (r1, r2, r3) := H
                                            have A70 := Aside0.mk A700
                                            clear A700
                                            have H' := Aside0.mk H
                                            clear H
                                            try go_wp2
                                            have n0_ := Aside0.mk (Kd.R_drew HO_8.out)
                                            have n1_ := Aside0.mk (blk_drew BK116.out)
                                            have n2_ := Aside0.mk (blk_drew BK125.out)
                                            have n3_ := Aside0.mk (blk_drew BK127.out)
                                            have n4_ := Aside0.mk (below_drew1 HB.out)
                                            clear HO_8
                                            clear BK116
                                            clear BK125
                                            clear BK127
                                            clear HB
                                            have HO_8 := n0_
                                            have BK116 := n1_
                                            have BK125 := n2_
                                            have BK127 := n3_
                                            have HB := n4_
                                            clear n0_ n1_ n2_ n3_ n4_
                                            have p143 : 0 ≤ (x47_3 : Int) := of_decide_eq_true (by first | (with_reducible assumption) | assumption)
                                            have q143 : x47_3 < (l1.length : Int) := of_decide_eq_true (by first | (with_reducible assumption) | assumption)
                                            obtain ⟨ad143, e143, hx143_0⟩ := Kd.at_int HR1.out x47_3 p143 q143
                                            have hw143_0 := hx143_0
                                            cases e143
                                            replace hx143_0 := (HB.out.cell (World.block_lt_of_cell? w _ hx143_0)).trans hx143_0
                                            replace p143 := eq_true p143
                                            replace q143 := eq_true q143
                                            refine start_ (n := 12) (S := fun w' => w'.cell? ⟨gb125, 0, none⟩ = some (.int .i64 x126000_5) ∧ w'.cell? ⟨gb125, 1, none⟩ = some (.bool x126001_5) ∧ w'.cell? ⟨gb127, 0, none⟩ = some (.slice A126_0 ((rd_T27 l0 x47_3).f0).length c126_0) ∧ w'.cell? ⟨gb127, 1, none⟩ = some (.int .i64 ((rd_T27 l0 x47_3).f1)) ∧ w'.cell? (ad143.add (x47_3).toNat) = some (.int .i64 (rd l1 x47_3))) (ds := [11]) #[false, false, false, false, false, false, false, false, false, false, false, false] (by kernel_rfl) rfl rfl ⟨(blk_cell BK125.out 0).trans rfl, (blk_cell BK125.out 1).trans rfl, (blk_cell BK127.out 0).trans rfl, (blk_cell BK127.out 1).trans rfl, ((HB.out.cell (World.block_lt_of_cell? w _ hw143_0)).trans hw143_0)⟩ (fun hHeld => ?_); refine with_tabW lin_Sum.tab20 lin_Sum.bits20 (fun HT_ HW_ => ?_)
                                            generalize wr.drew = w71 at HO_8 BK116 BK125 BK127 HB hx143_0 hHeld ⊢
                                            refine pure_ (i := 1) (N := some 91) (v := ?_) (a' := ?_) #[false, true, false, false, false, false, false, false, false, false, false, false] rfl rfl (any_of HT_.out (by kernel_rfl)) (fun _ _ _ h => h) (Or.inl ⟨by rfl, ?_⟩) ?_ ?_
                                            rotate_left
                                            · intro w'
                                              go_simp
                                              with_reducible rfl
                                            rotate_left
                                            · simp only [Act.put, List.setIfInBounds_toArray, List.set_cons_zero, List.set_cons_succ, i64_w, i32_w]
                                              rfl
                                            refine pure_ (i := 4) (N := some 94) (v := ?_) (a' := ?_) #[false, true, false, false, true, false, false, false, false, false, false, false] rfl rfl (any_of HT_.out (by kernel_rfl)) (fun _ _ _ h => h) (Or.inl ⟨by rfl, ?_⟩) ?_ ?_
                                            rotate_left
                                            · intro w'
                                              go_simp
                                              with_reducible rfl
                                            rotate_left
                                            · simp only [Act.put, List.setIfInBounds_toArray, List.set_cons_zero, List.set_cons_succ, i64_w, i32_w]
                                              rfl
                                            refine pure_ (i := 5) (N := some 95) (v := ?_) (a' := ?_) #[false, true, false, false, true, true, false, false, false, false, false, false] rfl rfl (any_of HT_.out (by kernel_rfl)) (fun _ _ _ h => h) (Or.inl ⟨by rfl, ?_⟩) ?_ ?_
                                            rotate_left
                                            · intro w'
                                              go_simp
                                              with_reducible rfl
                                            rotate_left
                                            · simp only [Act.put, List.setIfInBounds_toArray, List.set_cons_zero, List.set_cons_succ, i64_w, i32_w]
                                              rfl
                                            refine pure_ (i := 6) (N := some 96) (v := ?_) (a' := ?_) #[false, true, false, false, true, true, true, false, false, false, false, false] rfl rfl (any_of HT_.out (by kernel_rfl)) (fun _ _ _ h => h) (Or.inl ⟨by rfl, ?_⟩) ?_ ?_
                                            rotate_left
                                            · intro w'
                                              go_simp
                                              with_reducible rfl
                                            rotate_left
                                            · simp only [Act.put, List.setIfInBounds_toArray, List.set_cons_zero, List.set_cons_succ, i64_w, i32_w]
                                              rfl
                                            refine take_ (i := 0) (N := some 90) (v := ?_) (a' := ?_) #[true, true, false, false, true, true, true, false, false, false, false, false] rfl rfl (take_ofW HT_.out HW_.out (by kernel_rfl)) (fun _ _ _ h => h) (Or.inl ⟨by rfl, ?_⟩) hHeld ?_ ?_
                                            rotate_left
                                            · rintro w' ⟨s0, s1, s2, s3, s4⟩
                                              go_simp
                                              with_reducible rfl
                                            rotate_left
                                            · simp only [Act.put, List.setIfInBounds_toArray, List.set_cons_zero, List.set_cons_succ, i64_w, i32_w]
                                              rfl
                                            refine take_ (i := 2) (N := some 92) (v := ?_) (a' := ?_) #[true, true, true, false, true, true, true, false, false, false, false, false] rfl rfl (take_ofW HT_.out HW_.out (by kernel_rfl)) (fun _ _ _ h => h) (Or.inl ⟨by rfl, ?_⟩) hHeld ?_ ?_
                                            rotate_left
                                            · rintro w' ⟨s0, s1, s2, s3, s4⟩
                                              go_simp
                                              with_reducible rfl
                                            rotate_left
                                            · simp only [Act.put, List.setIfInBounds_toArray, List.set_cons_zero, List.set_cons_succ, i64_w, i32_w]
                                              rfl
                                            refine take_ (i := 7) (N := some 97) (v := ?_) (a' := ?_) #[true, true, true, false, true, true, true, true, false, false, false, false] rfl rfl (take_ofW HT_.out HW_.out (by kernel_rfl)) (fun _ _ _ h => h) (Or.inl ⟨by rfl, ?_⟩) hHeld ?_ ?_
                                            rotate_left
                                            · rintro w' ⟨s0, s1, s2, s3, s4⟩
                                              go_simp
                                              with_reducible rfl
                                            rotate_left
                                            · simp only [Act.put, List.setIfInBounds_toArray, List.set_cons_zero, List.set_cons_succ, i64_w, i32_w]
                                              rfl
                                            refine one_ (i := 3) (N := some 93) #[true, true, true, true, true, true, true, true, false, false, false, false] rfl rfl (one_of HT_.out (by kernel_rfl)) (by decide) (fun K hK => ?_)
                                            refine goes_ Try.func18 (by kernel_rfl) rfl #[.int .i64 ((rd_T27 l0 x47_3).f1)] (by rfl) rfl rfl (by (try simp only [List.map_toArray, List.map_cons, List.map_nil]); first | done | rfl | (simp only [List.length_drop, List.length_take]; rfl)) ?_
                                            with_reducible refine (lin_of.calls ((rd_T27 l0 x47_3).f1) t141 t142 _ A65.out).mono ?_
                                            rintro e w72 ⟨rfl, hb⟩
                                            refine ⟨_, rfl, ?_⟩
                                            have n0_ := Aside0.mk (Kd.R_below (by (with_reducible repeat (first | apply Kd.R_alloc | apply Kd.R_drewN | apply Kd.R_drew)); exact HO_8.out) hb)
                                            have n1_ := Aside0.mk (blk_below (g := gb116) (o := .cells #[.slice none 0 0, .int .i64 x117001_3] 27 (0, 0)) (by (with_reducible repeat (first | refine blk_drewN ?_ _ | refine blk_drew ?_ | refine blk_alloc ?_ _)); exact BK116.out) hb)
                                            have n2_ := Aside0.mk (blk_below (g := gb125) (o := .cells #[.int .i64 x126000_5, .bool x126001_5] 49 (0, 0)) (by (with_reducible repeat (first | refine blk_drewN ?_ _ | refine blk_drew ?_ | refine blk_alloc ?_ _)); exact BK125.out) hb)
                                            have n3_ := Aside0.mk (blk_below (g := gb127) (o := .cells #[.slice A126_0 ((rd_T27 l0 x47_3).f0).length c126_0, .int .i64 ((rd_T27 l0 x47_3).f1)] 27 (0, 0)) (by (with_reducible repeat (first | refine blk_drewN ?_ _ | refine blk_drew ?_ | refine blk_alloc ?_ _)); exact BK127.out) hb)
                                            have n4_ := Aside0.mk (below_step (by repeat (first | (with_reducible first | exact HB.out | apply below_alloc | apply pw_below_drewN | apply below_drew1 | refine below_set ?_ GE116.out | refine below_set ?_ GE125.out | refine below_set ?_ GE127.out) | exact HB.out)) hb)
                                            clear HO_8
                                            clear BK116
                                            clear BK125
                                            clear BK127
                                            clear HB
                                            have HO_8 := n0_
                                            have BK116 := n1_
                                            have BK125 := n2_
                                            have BK127 := n3_
                                            have HB := n4_
                                            clear n0_ n1_ n2_ n3_ n4_
                                            (try clear hb)
                                            (try clear hb2)
                                            (try clear hk)
                                            (try clear hi)
                                            refine hK.out _ _ ⟨(blk_cell BK125.out 0).trans rfl, (blk_cell BK125.out 1).trans rfl, (blk_cell BK127.out 0).trans rfl, (blk_cell BK127.out 1).trans rfl, ((HB.out.cell (World.block_lt_of_cell? w _ hw143_0)).trans hw143_0)⟩ (fun hHeld => ?_)
                                            clear hK K
                                            refine norm_ (a' := ?_) ?_ ?_
                                            rotate_left
                                            · show Act.put _ (some 93) _ = _
                                              simp only [Act.put, List.setIfInBounds_toArray, List.set_cons_zero, List.set_cons_succ, i64_w, i32_w]
                                              rfl
                                            refine one_ (i := 8) (N := some 98) #[true, true, true, true, true, true, true, true, true, false, false, false] rfl rfl (one_of HT_.out (by kernel_rfl)) (by decide) (fun K hK => ?_)
                                            refine goes_ Try.func18 (by kernel_rfl) rfl #[.int .i64 (rd l1 x47_3)] (by rfl) rfl rfl (by (try simp only [List.map_toArray, List.map_cons, List.map_nil]); first | done | rfl | (simp only [List.length_drop, List.length_take]; rfl)) ?_
                                            with_reducible refine (lin_of.calls (rd l1 x47_3) t144 t145 _ A68.out).mono ?_
                                            rintro e w73 ⟨rfl, hb⟩
                                            refine ⟨_, rfl, ?_⟩
                                            have n0_ := Aside0.mk (Kd.R_below (by (with_reducible repeat (first | apply Kd.R_alloc | apply Kd.R_drewN | apply Kd.R_drew)); exact HO_8.out) hb)
                                            have n1_ := Aside0.mk (blk_below (g := gb116) (o := .cells #[.slice none 0 0, .int .i64 x117001_3] 27 (0, 0)) (by (with_reducible repeat (first | refine blk_drewN ?_ _ | refine blk_drew ?_ | refine blk_alloc ?_ _)); exact BK116.out) hb)
                                            have n2_ := Aside0.mk (blk_below (g := gb125) (o := .cells #[.int .i64 x126000_5, .bool x126001_5] 49 (0, 0)) (by (with_reducible repeat (first | refine blk_drewN ?_ _ | refine blk_drew ?_ | refine blk_alloc ?_ _)); exact BK125.out) hb)
                                            have n3_ := Aside0.mk (blk_below (g := gb127) (o := .cells #[.slice A126_0 ((rd_T27 l0 x47_3).f0).length c126_0, .int .i64 ((rd_T27 l0 x47_3).f1)] 27 (0, 0)) (by (with_reducible repeat (first | refine blk_drewN ?_ _ | refine blk_drew ?_ | refine blk_alloc ?_ _)); exact BK127.out) hb)
                                            have n4_ := Aside0.mk (below_step (by repeat (first | (with_reducible first | exact HB.out | apply below_alloc | apply pw_below_drewN | apply below_drew1 | refine below_set ?_ GE116.out | refine below_set ?_ GE125.out | refine below_set ?_ GE127.out) | exact HB.out)) hb)
                                            clear HO_8
                                            clear BK116
                                            clear BK125
                                            clear BK127
                                            clear HB
                                            have HO_8 := n0_
                                            have BK116 := n1_
                                            have BK125 := n2_
                                            have BK127 := n3_
                                            have HB := n4_
                                            clear n0_ n1_ n2_ n3_ n4_
                                            (try clear hb)
                                            (try clear hb2)
                                            (try clear hk)
                                            (try clear hi)
                                            refine hK.out _ _ ⟨(blk_cell BK125.out 0).trans rfl, (blk_cell BK125.out 1).trans rfl, (blk_cell BK127.out 0).trans rfl, (blk_cell BK127.out 1).trans rfl, ((HB.out.cell (World.block_lt_of_cell? w _ hw143_0)).trans hw143_0)⟩ (fun hHeld => ?_)
                                            clear hK K
                                            refine norm_ (a' := ?_) ?_ ?_
                                            rotate_left
                                            · show Act.put _ (some 98) _ = _
                                              simp only [Act.put, List.setIfInBounds_toArray, List.set_cons_zero, List.set_cons_succ, i64_w, i32_w]
                                              rfl
                                            refine one_ (i := 9) (N := some 99) #[true, true, true, true, true, true, true, true, true, true, false, false] rfl rfl (one_of HT_.out (by kernel_rfl)) (by decide) (fun K hK => ?_)
                                            refine goes_ Try.func20 (by kernel_rfl) rfl #[.agg #[.int .i64 t141, .bool t142], .agg #[.int .i64 t144, .bool t145]] (by rfl) rfl rfl (by (try simp only [List.map_toArray, List.map_cons, List.map_nil]); first | done | rfl | (simp only [List.length_drop, List.length_take]; rfl)) ?_
                                            with_reducible refine (lin_sure_times.calls k5 t141 t142 t144 t145 t146 t147 _ A69.out).mono ?_
                                            rintro e w74 ⟨rfl, hb⟩
                                            refine ⟨_, rfl, ?_⟩
                                            have n0_ := Aside0.mk (Kd.R_below (by (with_reducible repeat (first | apply Kd.R_alloc | apply Kd.R_drewN | apply Kd.R_drew)); exact HO_8.out) hb)
                                            have n1_ := Aside0.mk (blk_below (g := gb116) (o := .cells #[.slice none 0 0, .int .i64 x117001_3] 27 (0, 0)) (by (with_reducible repeat (first | refine blk_drewN ?_ _ | refine blk_drew ?_ | refine blk_alloc ?_ _)); exact BK116.out) hb)
                                            have n2_ := Aside0.mk (blk_below (g := gb125) (o := .cells #[.int .i64 x126000_5, .bool x126001_5] 49 (0, 0)) (by (with_reducible repeat (first | refine blk_drewN ?_ _ | refine blk_drew ?_ | refine blk_alloc ?_ _)); exact BK125.out) hb)
                                            have n3_ := Aside0.mk (blk_below (g := gb127) (o := .cells #[.slice A126_0 ((rd_T27 l0 x47_3).f0).length c126_0, .int .i64 ((rd_T27 l0 x47_3).f1)] 27 (0, 0)) (by (with_reducible repeat (first | refine blk_drewN ?_ _ | refine blk_drew ?_ | refine blk_alloc ?_ _)); exact BK127.out) hb)
                                            have n4_ := Aside0.mk (below_step (by repeat (first | (with_reducible first | exact HB.out | apply below_alloc | apply pw_below_drewN | apply below_drew1 | refine below_set ?_ GE116.out | refine below_set ?_ GE125.out | refine below_set ?_ GE127.out) | exact HB.out)) hb)
                                            clear HO_8
                                            clear BK116
                                            clear BK125
                                            clear BK127
                                            clear HB
                                            have HO_8 := n0_
                                            have BK116 := n1_
                                            have BK125 := n2_
                                            have BK127 := n3_
                                            have HB := n4_
                                            clear n0_ n1_ n2_ n3_ n4_
                                            (try clear hb)
                                            (try clear hb2)
                                            (try clear hk)
                                            (try clear hi)
                                            refine hK.out _ _ ⟨(blk_cell BK125.out 0).trans rfl, (blk_cell BK125.out 1).trans rfl, (blk_cell BK127.out 0).trans rfl, (blk_cell BK127.out 1).trans rfl, ((HB.out.cell (World.block_lt_of_cell? w _ hw143_0)).trans hw143_0)⟩ (fun hHeld => ?_)
                                            clear hK K
                                            refine norm_ (a' := ?_) ?_ ?_
                                            rotate_left
                                            · show Act.put _ (some 99) _ = _
                                              simp only [Act.put, List.setIfInBounds_toArray, List.set_cons_zero, List.set_cons_succ, i64_w, i32_w]
                                              rfl
                                            refine one_ (i := 10) (N := some 100) #[true, true, true, true, true, true, true, true, true, true, true, false] rfl rfl (one_of HT_.out (by kernel_rfl)) (by decide) (fun K hK => ?_)
                                            refine goes_ Try.func19 (by kernel_rfl) rfl #[.agg #[.int .i64 x126000_5, .bool x126001_5], .agg #[.int .i64 t146, .bool t147]] (by rfl) rfl rfl (by (try simp only [List.map_toArray, List.map_cons, List.map_nil]); first | done | rfl | (simp only [List.length_drop, List.length_take]; rfl)) ?_
                                            with_reducible refine (lin_sure_plus.calls x126000_5 x126001_5 t146 t147 t148 t149 _ A70.out).mono ?_
                                            rintro e w75 ⟨rfl, hb⟩
                                            refine ⟨_, rfl, ?_⟩
                                            have n0_ := Aside0.mk (Kd.R_below (by (with_reducible repeat (first | apply Kd.R_alloc | apply Kd.R_drewN | apply Kd.R_drew)); exact HO_8.out) hb)
                                            have n1_ := Aside0.mk (blk_below (g := gb116) (o := .cells #[.slice none 0 0, .int .i64 x117001_3] 27 (0, 0)) (by (with_reducible repeat (first | refine blk_drewN ?_ _ | refine blk_drew ?_ | refine blk_alloc ?_ _)); exact BK116.out) hb)
                                            have n2_ := Aside0.mk (blk_below (g := gb125) (o := .cells #[.int .i64 x126000_5, .bool x126001_5] 49 (0, 0)) (by (with_reducible repeat (first | refine blk_drewN ?_ _ | refine blk_drew ?_ | refine blk_alloc ?_ _)); exact BK125.out) hb)
                                            have n3_ := Aside0.mk (blk_below (g := gb127) (o := .cells #[.slice A126_0 ((rd_T27 l0 x47_3).f0).length c126_0, .int .i64 ((rd_T27 l0 x47_3).f1)] 27 (0, 0)) (by (with_reducible repeat (first | refine blk_drewN ?_ _ | refine blk_drew ?_ | refine blk_alloc ?_ _)); exact BK127.out) hb)
                                            have n4_ := Aside0.mk (below_step (by repeat (first | (with_reducible first | exact HB.out | apply below_alloc | apply pw_below_drewN | apply below_drew1 | refine below_set ?_ GE116.out | refine below_set ?_ GE125.out | refine below_set ?_ GE127.out) | exact HB.out)) hb)
                                            clear HO_8
                                            clear BK116
                                            clear BK125
                                            clear BK127
                                            clear HB
                                            have HO_8 := n0_
                                            have BK116 := n1_
                                            have BK125 := n2_
                                            have BK127 := n3_
                                            have HB := n4_
                                            clear n0_ n1_ n2_ n3_ n4_
                                            (try clear hb)
                                            (try clear hb2)
                                            (try clear hk)
                                            (try clear hi)
                                            refine hK.out _ _ ⟨(blk_cell BK125.out 0).trans rfl, (blk_cell BK125.out 1).trans rfl, (blk_cell BK127.out 0).trans rfl, (blk_cell BK127.out 1).trans rfl, ((HB.out.cell (World.block_lt_of_cell? w _ hw143_0)).trans hw143_0)⟩ (fun hHeld => ?_)
                                            clear hK K
                                            refine norm_ (a' := ?_) ?_ ?_
                                            rotate_left
                                            · show Act.put _ (some 100) _ = _
                                              simp only [Act.put, List.setIfInBounds_toArray, List.set_cons_zero, List.set_cons_succ, i64_w, i32_w]
                                              rfl
                                            refine last_ (i := 11) (N := none) #[true, true, true, true, true, true, true, true, true, true, true, true] rfl rfl (one_of HT_.out (by kernel_rfl)) (by decide) (fun K hK => ?_)
                                            have hs76 : w75.cell? ⟨gb125, 0, none⟩ = some (.int .i64 x126000_5) := (blk_cell BK125.out 0).trans rfl
                                            have hfs76 := blk_frozen BK125.out 0
                                            have hns76_0 := NB116_125.out
                                            have hns76_2 := NB127_125.out
                                            have hms76_0 := NB125_116.out
                                            have hms76_2 := NB125_127.out
                                            have hs77 : w75.cell? ⟨gb125, 1, none⟩ = some (.bool x126001_5) := (blk_cell BK125.out 1).trans rfl
                                            have hfs77 := blk_frozen BK125.out 1
                                            have hns77_0 := NB116_125.out
                                            have hns77_2 := NB127_125.out
                                            have hms77_0 := NB125_116.out
                                            have hms77_2 := NB125_127.out
                                            refine skip_ (w1 := ?_) (by rfl) rfl ?_ ?_
                                            rotate_left
                                            · go_simp
                                              rfl
                                            refine hK.out _ _ ?_
                                            clear hK K
                                            refine done_ (done_of HT_.out (by kernel_rfl)) ?_
                                            try go_wp2
                                            (try simp only [← hl8_3, ← hl8_5])
                                            go_roundg k5
                                            case measure => have := HJ3.out; have := HK2.out; have := HK3.out; have := HJ30.out; have := HK5.out; omega
                                            case rel => exact ⟨(x8_5), (wrap64 (x47_3 + 1)), (x117001_3), (t148), (t149), (by first | rfl | (simp; done) | (simp [*]; done)), H', ⟨by have := HJ3.out; have := HK2.out; have := HK3.out; have := HJ30.out; have := HK5.out; omega⟩, ⟨by (try simp only [hl8_2]); (try simp only [hl8_3]); (try simp only [hl8_5]); (with_reducible repeat (first | apply Kd.R_alloc | apply Kd.R_drewN | apply Kd.R_drew)); exact Kd.R_mono (Kd.R_far (p := ⟨gb125, 1, none⟩) (Kd.R_far (p := ⟨gb125, 0, none⟩) (Kd.R_mono HO_8.out (fun k_ hk => (⟨hk, hk⟩ : _ ∧ k_ ≠ gb125))) (fun _ hk => hk.2) (.int .i64 t148)) (fun _ hk => hk.2) (.bool t149)) (fun _ hk => hk.1)⟩, ⟨by (try simp only [hl8_2]); (try simp only [hl8_3]); (try simp only [hl8_5]); (with_reducible repeat (first | refine blk_drewN ?_ _ | refine blk_drew ?_ | refine blk_alloc ?_ _)); refine blk_far ?_ NB116_125.out _; (with_reducible repeat (first | refine blk_drewN ?_ _ | refine blk_drew ?_ | refine blk_alloc ?_ _)); refine blk_far ?_ NB116_125.out _; (with_reducible repeat (first | refine blk_drewN ?_ _ | refine blk_drew ?_ | refine blk_alloc ?_ _)); exact BK116.out⟩, ⟨by (try simp only [hl8_2]); (try simp only [hl8_3]); (try simp only [hl8_5]); (with_reducible repeat (first | refine blk_drewN ?_ _ | refine blk_drew ?_ | refine blk_alloc ?_ _)); refine blk_put (cs := #[.int .i64 t148, .bool x126001_5]) ?_ 1 _ rfl; (with_reducible repeat (first | refine blk_drewN ?_ _ | refine blk_drew ?_ | refine blk_alloc ?_ _)); refine blk_put (cs := #[.int .i64 x126000_5, .bool x126001_5]) ?_ 0 _ rfl; (with_reducible repeat (first | refine blk_drewN ?_ _ | refine blk_drew ?_ | refine blk_alloc ?_ _)); exact BK125.out⟩, ⟨by repeat (first | (with_reducible first | exact HB.out | apply below_alloc | apply pw_below_drewN | apply below_drew1 | refine below_set ?_ GE116.out | refine below_set ?_ GE125.out | refine below_set ?_ GE127.out) | exact HB.out)⟩⟩
                                          · rw [if_neg c67] at H
                                            exact absurd H (by simp)
                                        · rw [if_neg c66] at H
                                          exact absurd H (by simp)
                          · rw [if_neg c30] at H
                            exact absurd H (by simp)
                        · rw [if_neg c29] at H
                          exact absurd H (by simp)
                      · rw [if_neg c28] at H
                        have c28b0 : decide (x47_3 < (l0.length : Int)) = false := decide_eq_false c28
                        clear c28
                        by_cases c78 : 0 ≤ a2
                        · rw [if_pos c78] at H
                          have c78b0 := eq_true c78
                          have c78b1 : decide (0 ≤ a2) = true := decide_eq_true c78
                          clear c78
                          by_cases c79 : (a2 : Int).toNat ≤ 35184372088832
                          · rw [if_pos c79] at H
                            have c79b0 := eq_true c79
                            have c79b1 : decide ((a2 : Int).toNat ≤ 35184372088832) = true := decide_eq_true c79
                            clear c79
                            obtain ⟨y150, hy150⟩ : ∃ y_ : List Int, y_ = (List.replicate (a2 : Int).toNat 0) := ⟨_, rfl⟩
                            replace H : (lin_Sum.l3 k3 x8_3 (x8_3.length : Int) 0 x126000_3 x126001_3 y150 x126000_3) = some (r1, r2, r3) := by first | (rw [hy150]; with_reducible exact H) | (have H2_ := (Option.bind_some _ _).symm.trans H; rw [hy150]; with_reducible exact H2_) | (have H2_ := (Option.bind_some _ _).symm.trans H; with_reducible exact H2_) | with_reducible exact H | (rw [hy150]; exact H) | exact H
                            have Ny150 := Aside0.mk hy150
                            clear hy150
                            have H' := Aside0.mk H
                            clear H
                            try go_wp2
                            have n0_ := Aside0.mk (Kd.R_drew HO_8.out)
                            have n1_ := Aside0.mk (blk_drew BK116.out)
                            have n2_ := Aside0.mk (blk_drew BK125.out)
                            have n3_ := Aside0.mk (below_drew1 HB.out)
                            clear HO_8
                            clear BK116
                            clear BK125
                            clear HB
                            have HO_8 := n0_
                            have BK116 := n1_
                            have BK125 := n2_
                            have HB := n3_
                            clear n0_ n1_ n2_ n3_
                            refine start_ (n := 7) (S := fun w' => w'.cell? ⟨gb125, 0, none⟩ = some (.int .i64 x126000_3) ∧ w'.cell? ⟨gb125, 1, none⟩ = some (.bool x126001_3)) (ds := []) #[false, false, false, false, false, false, false] (by kernel_rfl) rfl rfl ⟨(blk_cell BK125.out 0).trans rfl, (blk_cell BK125.out 1).trans rfl⟩ (fun hHeld => ?_)
                            generalize wr.drew = w80 at HO_8 BK116 BK125 HB hHeld ⊢
                            refine pure_ (i := 0) (N := some 102) (v := ?_) (a' := ?_) #[true, false, false, false, false, false, false] rfl rfl (by kernel_rfl) (fun _ _ _ h => h) (Or.inl ⟨by rfl, ?_⟩) ?_ ?_
                            rotate_left
                            · intro w'
                              go_simp
                              with_reducible rfl
                            rotate_left
                            · simp only [Act.put, List.setIfInBounds_toArray, List.set_cons_zero, List.set_cons_succ, i64_w, i32_w]
                              rfl
                            refine pure_ (i := 2) (N := some 104) (v := ?_) (a' := ?_) #[true, false, true, false, false, false, false] rfl rfl (by kernel_rfl) (fun _ _ _ h => h) (Or.inl ⟨by rfl, ?_⟩) ?_ ?_
                            rotate_left
                            · intro w'
                              go_simp
                              with_reducible rfl
                            rotate_left
                            · simp only [Act.put, List.setIfInBounds_toArray, List.set_cons_zero, List.set_cons_succ, i64_w, i32_w]
                              rfl
                            refine take_ (i := 3) (N := some 105) (v := ?_) (a' := ?_) #[true, false, true, true, false, false, false] rfl rfl (by kernel_rfl) (fun _ _ _ h => h) (Or.inl ⟨by rfl, ?_⟩) hHeld ?_ ?_
                            rotate_left
                            · rintro w' ⟨s0, s1⟩
                              go_simp
                              with_reducible rfl
                            rotate_left
                            · simp only [Act.put, List.setIfInBounds_toArray, List.set_cons_zero, List.set_cons_succ, i64_w, i32_w]
                              rfl
                            refine join_ (σ := Value × Nat) 1 #[true, true, true, true, true, true, false] (fun s_ => [(103, s_.1), (15, .pointer (some ⟨s_.2, 0, none⟩)), (106, .agg #[s_.1, .int .i64 x126000_3])]) (fun s_ w' => (w'.cell? ⟨gb125, 0, none⟩ = some (.int .i64 x126000_3) ∧ w'.cell? ⟨gb125, 1, none⟩ = some (.bool x126001_3)) ∧ (Kd.R (Kd.int .i64) 3 w' w.heap.size (fun _ => True) s_.1 y150) ∧ (Kd.R k49 49 w' w.heap.size (fun k_ => k_ ≠ gb125) (.slice Ao14 x8_3.length co14) x8_3) ∧ (w'.heap[gb116]? = some (.cells #[.slice none 0 0, .int .i64 x117001_3] 27 (0, 0))) ∧ (w'.heap[gb125]? = some (.cells #[.int .i64 x126000_3, .bool x126001_3] 49 (0, 0))) ∧ (w'.heap[s_.2]? = some (.cells #[.slice none 0 0, .int .i64 0] 27 (0, 0))) ∧ (w.heap.size ≤ s_.2) ∧ (w.heap.size ≤ s_.2) ∧ (gb116 ≠ s_.2) ∧ (s_.2 ≠ gb116) ∧ (gb125 ≠ s_.2) ∧ (s_.2 ≠ gb125) ∧ (Below w.heap.size w w')) ?_ ?_
                            rotate_left
                            · intro hCont
                              refine two_ (i := 1) (j := 5) (Ni := some 103) (Nj := some 15) #[true, true, true, true, false, false, false] #[true, false, true, true, false, true, false] rfl rfl rfl rfl (by kernel_rfl) (by decide) (by decide) (fun K hK => ?_) (fun K hK => ?_)
                              · skip
                                refine Kd.R_make_step (Kd.int .i64) _ 3 (by rfl) (N := 103) rfl 23 _ _ rfl a2 rfl rfl Try.underlying23 (.int .i64 0) 8 info3 rfl (by decide) (by omega) 0 (ok := fun _ => True) (okp := fun _ => True) rfl (fun _ hk => hk) trivial (of_decide_eq_true (by first | (with_reducible assumption) | assumption)) (Nat.le_trans (Nat.mul_le_mul_right _ (of_decide_eq_true (by first | (with_reducible assumption) | assumption) : a2.toNat ≤ 35184372088832)) (by omega)) (Below.refl _ _) (Nat.le_refl _) ?_
                                intro v151 w81 ho82 hb hg_ hnew_
                                clear hg_ hnew_
                                (first | rw [← Ny150.out] at ho82 | (simp only [Int.reduceToNat] at ho82; rw [← Ny150.out] at ho82))
                                have n0_ := Aside0.mk (Kd.R_below (by (with_reducible repeat (first | apply Kd.R_alloc | apply Kd.R_drewN | apply Kd.R_drew)); exact HO_8.out) hb)
                                have n1_ := Aside0.mk (Kd.R_lower ho82 (below_size (by repeat (first | (with_reducible first | exact HB.out | apply below_alloc | apply pw_below_drewN | apply below_drew1 | refine below_set ?_ GE116.out | refine below_set ?_ GE125.out) | exact HB.out))))
                                have n2_ := Aside0.mk (blk_below (g := gb116) (o := .cells #[.slice none 0 0, .int .i64 x117001_3] 27 (0, 0)) (by (with_reducible repeat (first | refine blk_drewN ?_ _ | refine blk_drew ?_ | refine blk_alloc ?_ _)); exact BK116.out) hb)
                                have n3_ := Aside0.mk (blk_below (g := gb125) (o := .cells #[.int .i64 x126000_3, .bool x126001_3] 49 (0, 0)) (by (with_reducible repeat (first | refine blk_drewN ?_ _ | refine blk_drew ?_ | refine blk_alloc ?_ _)); exact BK125.out) hb)
                                have n4_ := Aside0.mk (below_step (by repeat (first | (with_reducible first | exact HB.out | apply below_alloc | apply pw_below_drewN | apply below_drew1 | refine below_set ?_ GE116.out | refine below_set ?_ GE125.out) | exact HB.out)) hb)
                                clear HO_8
                                clear BK116
                                clear BK125
                                clear HB
                                have HO_8 := n0_
                                have HO152 := n1_
                                have BK116 := n2_
                                have BK125 := n3_
                                have HB := n4_
                                clear n0_ n1_ n2_ n3_ n4_
                                clear hb ho82
                                obtain ⟨Ao83, co83, eo83⟩ := Kd.R_slice HO152.out
                                (first | subst eo83 | (injection eo83 with f1_ f2_ f3_; have f4_ := f1_.symm; have f5_ := f3_.symm; clear f1_ f2_ f3_; subst f4_; subst f5_))
                                refine hK.out _ _ ⟨(blk_cell BK125.out 0).trans rfl, (blk_cell BK125.out 1).trans rfl⟩ (fun hHeld => ?_)
                                clear hK K
                                refine norm_ (a' := ?_) ?_ ?_
                                rotate_left
                                · show Act.put _ (some 103) _ = _
                                  simp only [Act.put, List.setIfInBounds_toArray, List.set_cons_zero, List.set_cons_succ, i64_w, i32_w]
                                  rfl
                                refine pure_ (i := 4) (N := some 106) (v := ?_) (a' := ?_) #[true, true, true, true, true, false, false] rfl rfl (by kernel_rfl) (fun _ _ _ h => h) (Or.inl ⟨by rfl, ?_⟩) ?_ ?_
                                rotate_left
                                · intro w'
                                  go_simp
                                  with_reducible rfl
                                rotate_left
                                · simp only [Act.put, List.setIfInBounds_toArray, List.set_cons_zero, List.set_cons_succ, i64_w, i32_w]
                                  rfl
                                refine one_ (i := 5) (N := some 15) #[true, true, true, true, true, true, false] rfl rfl (by kernel_rfl) (by decide) (fun K hK => ?_)
                                refine box_step ?hg (N := 15) ?hd (cs := #[.slice none 0 0, .int .i64 0]) (t := 27) ?hr ?_; (case hd => rfl); (case hg => rfl); (case hr => first | (go_simp; done) | (go_simp; rfl))
                                intro gb153 hg w84 hbox hb
                                have n0_ := Aside0.mk (Kd.R_below (by (with_reducible repeat (first | apply Kd.R_alloc | apply Kd.R_drewN | apply Kd.R_drew)); exact HO_8.out) hb)
                                have n1_ := Aside0.mk (Kd.R_below (by (with_reducible repeat (first | apply Kd.R_alloc | apply Kd.R_drewN | apply Kd.R_drew)); exact HO152.out) hb)
                                have n2_ := Aside0.mk (blk_below (g := gb116) (o := .cells #[.slice none 0 0, .int .i64 x117001_3] 27 (0, 0)) (by (with_reducible repeat (first | refine blk_drewN ?_ _ | refine blk_drew ?_ | refine blk_alloc ?_ _)); exact BK116.out) hb)
                                have n3_ := Aside0.mk (blk_below (g := gb125) (o := .cells #[.int .i64 x126000_3, .bool x126001_3] 49 (0, 0)) (by (with_reducible repeat (first | refine blk_drewN ?_ _ | refine blk_drew ?_ | refine blk_alloc ?_ _)); exact BK125.out) hb)
                                have n4_ := Aside0.mk (below_step (by repeat (first | (with_reducible first | exact HB.out | apply below_alloc | apply pw_below_drewN | apply below_drew1 | refine below_set ?_ GE116.out | refine below_set ?_ GE125.out) | exact HB.out)) hb)
                                have n5_ := Aside0.mk (hbox)
                                have n6_ := Aside0.mk ((by rw [hg]; exact (below_size (by repeat (first | (with_reducible first | exact HB.out | apply below_alloc | apply pw_below_drewN | apply below_drew1 | refine below_set ?_ GE116.out | refine below_set ?_ GE125.out) | exact HB.out))) : w.heap.size ≤ gb153))
                                have n7_ := Aside0.mk ((by rw [hg]; exact (below_size (by repeat (first | (with_reducible first | exact HB.out | apply below_alloc | apply pw_below_drewN | apply below_drew1 | refine below_set ?_ GE116.out | refine below_set ?_ GE125.out) | exact HB.out))) : w.heap.size ≤ gb153))
                                have n8_ := Aside0.mk ((by rw [hg]; exact Nat.ne_of_lt (blk_lt (g := gb116) (o := .cells #[.slice none 0 0, .int .i64 x117001_3] 27 (0, 0)) (by (with_reducible repeat (first | refine blk_drewN ?_ _ | refine blk_drew ?_ | refine blk_alloc ?_ _)); exact BK116.out)) : gb116 ≠ gb153))
                                have n9_ := Aside0.mk ((by rw [hg]; exact Nat.ne_of_gt (blk_lt (g := gb116) (o := .cells #[.slice none 0 0, .int .i64 x117001_3] 27 (0, 0)) (by (with_reducible repeat (first | refine blk_drewN ?_ _ | refine blk_drew ?_ | refine blk_alloc ?_ _)); exact BK116.out)) : gb153 ≠ gb116))
                                have n10_ := Aside0.mk ((by rw [hg]; exact Nat.ne_of_lt (blk_lt (g := gb125) (o := .cells #[.int .i64 x126000_3, .bool x126001_3] 49 (0, 0)) (by (with_reducible repeat (first | refine blk_drewN ?_ _ | refine blk_drew ?_ | refine blk_alloc ?_ _)); exact BK125.out)) : gb125 ≠ gb153))
                                have n11_ := Aside0.mk ((by rw [hg]; exact Nat.ne_of_gt (blk_lt (g := gb125) (o := .cells #[.int .i64 x126000_3, .bool x126001_3] 49 (0, 0)) (by (with_reducible repeat (first | refine blk_drewN ?_ _ | refine blk_drew ?_ | refine blk_alloc ?_ _)); exact BK125.out)) : gb153 ≠ gb125))
                                clear HO_8
                                clear HO152
                                clear BK116
                                clear BK125
                                clear HB
                                have HO_8 := n0_
                                have HO152 := n1_
                                have BK116 := n2_
                                have BK125 := n3_
                                have HB := n4_
                                have BK153 := n5_
                                have GW153 := n6_
                                have GE153 := n7_
                                have NB116_153 := n8_
                                have NB153_116 := n9_
                                have NB125_153 := n10_
                                have NB153_125 := n11_
                                clear n0_ n1_ n2_ n3_ n4_ n5_ n6_ n7_ n8_ n9_ n10_ n11_
                                clear hb hbox hg
                                refine hK.out _ _ ⟨(blk_cell BK125.out 0).trans rfl, (blk_cell BK125.out 1).trans rfl⟩ (fun hHeld => ?_)
                                clear hK K
                                refine norm_ (a' := ?_) ?_ ?_
                                rotate_left
                                · show Act.put _ (some 15) _ = _
                                  simp only [Act.put, List.setIfInBounds_toArray, List.set_cons_zero, List.set_cons_succ, i64_w, i32_w]
                                  rfl
                                exact norm_ (by simp only [putAll, Act.put, List.setIfInBounds_toArray, List.set_cons_zero, List.set_cons_succ]) (hCont (.slice Ao83 y150.length co83, gb153) _ ⟨hHeld, (by (with_reducible repeat (first | apply Kd.R_alloc | apply Kd.R_drewN | apply Kd.R_drew)); exact HO152.out), (by (with_reducible repeat (first | apply Kd.R_alloc | apply Kd.R_drewN | apply Kd.R_drew)); exact HO_8.out), (by (with_reducible repeat (first | refine blk_drewN ?_ _ | refine blk_drew ?_ | refine blk_alloc ?_ _)); exact BK116.out), (by (with_reducible repeat (first | refine blk_drewN ?_ _ | refine blk_drew ?_ | refine blk_alloc ?_ _)); exact BK125.out), (by (with_reducible repeat (first | refine blk_drewN ?_ _ | refine blk_drew ?_ | refine blk_alloc ?_ _)); exact BK153.out), GW153.out, GE153.out, NB116_153.out, NB153_116.out, NB125_153.out, NB153_125.out, (by repeat (first | (with_reducible first | exact HB.out | apply below_alloc | apply pw_below_drewN | apply below_drew1 | refine below_set ?_ GE116.out | refine below_set ?_ GE125.out | refine below_set ?_ GE153.out) | exact HB.out))⟩)
                              · skip
                                refine box_step ?hg (N := 15) ?hd (cs := #[.slice none 0 0, .int .i64 0]) (t := 27) ?hr ?_; (case hd => rfl); (case hg => rfl); (case hr => first | (go_simp; done) | (go_simp; rfl))
                                intro gb153 hg w81 hbox hb
                                have n0_ := Aside0.mk (Kd.R_below (by (with_reducible repeat (first | apply Kd.R_alloc | apply Kd.R_drewN | apply Kd.R_drew)); exact HO_8.out) hb)
                                have n1_ := Aside0.mk (blk_below (g := gb116) (o := .cells #[.slice none 0 0, .int .i64 x117001_3] 27 (0, 0)) (by (with_reducible repeat (first | refine blk_drewN ?_ _ | refine blk_drew ?_ | refine blk_alloc ?_ _)); exact BK116.out) hb)
                                have n2_ := Aside0.mk (blk_below (g := gb125) (o := .cells #[.int .i64 x126000_3, .bool x126001_3] 49 (0, 0)) (by (with_reducible repeat (first | refine blk_drewN ?_ _ | refine blk_drew ?_ | refine blk_alloc ?_ _)); exact BK125.out) hb)
                                have n3_ := Aside0.mk (below_step (by repeat (first | (with_reducible first | exact HB.out | apply below_alloc | apply pw_below_drewN | apply below_drew1 | refine below_set ?_ GE116.out | refine below_set ?_ GE125.out) | exact HB.out)) hb)
                                have n4_ := Aside0.mk (hbox)
                                have n5_ := Aside0.mk ((by rw [hg]; exact (below_size (by repeat (first | (with_reducible first | exact HB.out | apply below_alloc | apply pw_below_drewN | apply below_drew1 | refine below_set ?_ GE116.out | refine below_set ?_ GE125.out) | exact HB.out))) : w.heap.size ≤ gb153))
                                have n6_ := Aside0.mk ((by rw [hg]; exact (below_size (by repeat (first | (with_reducible first | exact HB.out | apply below_alloc | apply pw_below_drewN | apply below_drew1 | refine below_set ?_ GE116.out | refine below_set ?_ GE125.out) | exact HB.out))) : w.heap.size ≤ gb153))
                                have n7_ := Aside0.mk ((by rw [hg]; exact Nat.ne_of_lt (blk_lt (g := gb116) (o := .cells #[.slice none 0 0, .int .i64 x117001_3] 27 (0, 0)) (by (with_reducible repeat (first | refine blk_drewN ?_ _ | refine blk_drew ?_ | refine blk_alloc ?_ _)); exact BK116.out)) : gb116 ≠ gb153))
                                have n8_ := Aside0.mk ((by rw [hg]; exact Nat.ne_of_gt (blk_lt (g := gb116) (o := .cells #[.slice none 0 0, .int .i64 x117001_3] 27 (0, 0)) (by (with_reducible repeat (first | refine blk_drewN ?_ _ | refine blk_drew ?_ | refine blk_alloc ?_ _)); exact BK116.out)) : gb153 ≠ gb116))
                                have n9_ := Aside0.mk ((by rw [hg]; exact Nat.ne_of_lt (blk_lt (g := gb125) (o := .cells #[.int .i64 x126000_3, .bool x126001_3] 49 (0, 0)) (by (with_reducible repeat (first | refine blk_drewN ?_ _ | refine blk_drew ?_ | refine blk_alloc ?_ _)); exact BK125.out)) : gb125 ≠ gb153))
                                have n10_ := Aside0.mk ((by rw [hg]; exact Nat.ne_of_gt (blk_lt (g := gb125) (o := .cells #[.int .i64 x126000_3, .bool x126001_3] 49 (0, 0)) (by (with_reducible repeat (first | refine blk_drewN ?_ _ | refine blk_drew ?_ | refine blk_alloc ?_ _)); exact BK125.out)) : gb153 ≠ gb125))
                                clear HO_8
                                clear BK116
                                clear BK125
                                clear HB
                                have HO_8 := n0_
                                have BK116 := n1_
                                have BK125 := n2_
                                have HB := n3_
                                have BK153 := n4_
                                have GW153 := n5_
                                have GE153 := n6_
                                have NB116_153 := n7_
                                have NB153_116 := n8_
                                have NB125_153 := n9_
                                have NB153_125 := n10_
                                clear n0_ n1_ n2_ n3_ n4_ n5_ n6_ n7_ n8_ n9_ n10_
                                clear hb hbox hg
                                refine hK.out _ _ ⟨(blk_cell BK125.out 0).trans rfl, (blk_cell BK125.out 1).trans rfl⟩ (fun hHeld => ?_)
                                clear hK K
                                refine norm_ (a' := ?_) ?_ ?_
                                rotate_left
                                · show Act.put _ (some 15) _ = _
                                  simp only [Act.put, List.setIfInBounds_toArray, List.set_cons_zero, List.set_cons_succ, i64_w, i32_w]
                                  rfl
                                refine one_ (i := 1) (N := some 103) #[true, true, true, true, false, true, false] rfl rfl (by kernel_rfl) (by decide) (fun K hK => ?_)
                                refine Kd.R_make_step (Kd.int .i64) _ 3 (by rfl) (N := 103) rfl 23 _ _ rfl a2 rfl rfl Try.underlying23 (.int .i64 0) 8 info3 rfl (by decide) (by omega) 0 (ok := fun _ => True) (okp := fun _ => True) rfl (fun _ hk => hk) trivial (of_decide_eq_true (by first | (with_reducible assumption) | assumption)) (Nat.le_trans (Nat.mul_le_mul_right _ (of_decide_eq_true (by first | (with_reducible assumption) | assumption) : a2.toNat ≤ 35184372088832)) (by omega)) (Below.refl _ _) (Nat.le_refl _) ?_
                                intro v151 w82 ho83 hb hg_ hnew_
                                clear hg_ hnew_
                                (first | rw [← Ny150.out] at ho83 | (simp only [Int.reduceToNat] at ho83; rw [← Ny150.out] at ho83))
                                have n0_ := Aside0.mk (Kd.R_below (by (with_reducible repeat (first | apply Kd.R_alloc | apply Kd.R_drewN | apply Kd.R_drew)); exact HO_8.out) hb)
                                have n1_ := Aside0.mk (Kd.R_lower ho83 (below_size (by repeat (first | (with_reducible first | exact HB.out | apply below_alloc | apply pw_below_drewN | apply below_drew1 | refine below_set ?_ GE116.out | refine below_set ?_ GE125.out | refine below_set ?_ GE153.out) | exact HB.out))))
                                have n2_ := Aside0.mk (blk_below (g := gb116) (o := .cells #[.slice none 0 0, .int .i64 x117001_3] 27 (0, 0)) (by (with_reducible repeat (first | refine blk_drewN ?_ _ | refine blk_drew ?_ | refine blk_alloc ?_ _)); exact BK116.out) hb)
                                have n3_ := Aside0.mk (blk_below (g := gb125) (o := .cells #[.int .i64 x126000_3, .bool x126001_3] 49 (0, 0)) (by (with_reducible repeat (first | refine blk_drewN ?_ _ | refine blk_drew ?_ | refine blk_alloc ?_ _)); exact BK125.out) hb)
                                have n4_ := Aside0.mk (blk_below (g := gb153) (o := .cells #[.slice none 0 0, .int .i64 0] 27 (0, 0)) (by (with_reducible repeat (first | refine blk_drewN ?_ _ | refine blk_drew ?_ | refine blk_alloc ?_ _)); exact BK153.out) hb)
                                have n5_ := Aside0.mk (below_step (by repeat (first | (with_reducible first | exact HB.out | apply below_alloc | apply pw_below_drewN | apply below_drew1 | refine below_set ?_ GE116.out | refine below_set ?_ GE125.out | refine below_set ?_ GE153.out) | exact HB.out)) hb)
                                clear HO_8
                                clear BK116
                                clear BK125
                                clear BK153
                                clear HB
                                have HO_8 := n0_
                                have HO152 := n1_
                                have BK116 := n2_
                                have BK125 := n3_
                                have BK153 := n4_
                                have HB := n5_
                                clear n0_ n1_ n2_ n3_ n4_ n5_
                                clear hb ho83
                                obtain ⟨Ao84, co84, eo84⟩ := Kd.R_slice HO152.out
                                (first | subst eo84 | (injection eo84 with f1_ f2_ f3_; have f4_ := f1_.symm; have f5_ := f3_.symm; clear f1_ f2_ f3_; subst f4_; subst f5_))
                                refine hK.out _ _ ⟨(blk_cell BK125.out 0).trans rfl, (blk_cell BK125.out 1).trans rfl⟩ (fun hHeld => ?_)
                                clear hK K
                                refine norm_ (a' := ?_) ?_ ?_
                                rotate_left
                                · show Act.put _ (some 103) _ = _
                                  simp only [Act.put, List.setIfInBounds_toArray, List.set_cons_zero, List.set_cons_succ, i64_w, i32_w]
                                  rfl
                                refine pure_ (i := 4) (N := some 106) (v := ?_) (a' := ?_) #[true, true, true, true, true, true, false] rfl rfl (by kernel_rfl) (fun _ _ _ h => h) (Or.inl ⟨by rfl, ?_⟩) ?_ ?_
                                rotate_left
                                · intro w'
                                  go_simp
                                  with_reducible rfl
                                rotate_left
                                · simp only [Act.put, List.setIfInBounds_toArray, List.set_cons_zero, List.set_cons_succ, i64_w, i32_w]
                                  rfl
                                exact norm_ (by simp only [putAll, Act.put, List.setIfInBounds_toArray, List.set_cons_zero, List.set_cons_succ]) (hCont (.slice Ao84 y150.length co84, gb153) _ ⟨hHeld, (by (with_reducible repeat (first | apply Kd.R_alloc | apply Kd.R_drewN | apply Kd.R_drew)); exact HO152.out), (by (with_reducible repeat (first | apply Kd.R_alloc | apply Kd.R_drewN | apply Kd.R_drew)); exact HO_8.out), (by (with_reducible repeat (first | refine blk_drewN ?_ _ | refine blk_drew ?_ | refine blk_alloc ?_ _)); exact BK116.out), (by (with_reducible repeat (first | refine blk_drewN ?_ _ | refine blk_drew ?_ | refine blk_alloc ?_ _)); exact BK125.out), (by (with_reducible repeat (first | refine blk_drewN ?_ _ | refine blk_drew ?_ | refine blk_alloc ?_ _)); exact BK153.out), GW153.out, GE153.out, NB116_153.out, NB153_116.out, NB125_153.out, NB153_125.out, (by repeat (first | (with_reducible first | exact HB.out | apply below_alloc | apply pw_below_drewN | apply below_drew1 | refine below_set ?_ GE116.out | refine below_set ?_ GE125.out | refine below_set ?_ GE153.out) | exact HB.out))⟩)
                            rintro ⟨v151, gb153⟩ w85 ⟨hS_, h0_, h1_, h2_, h3_, h4_, h5_, h6_, h7_, h8_, h9_, h10_, h11_⟩
                            have n0_ : Aside0 (Kd.R (Kd.int .i64) 3 w85 w.heap.size (fun _ => True) v151 y150) := ⟨h0_⟩
                            have n1_ : Aside0 (Kd.R k49 49 w85 w.heap.size (fun k_ => k_ ≠ gb125) (.slice Ao14 x8_3.length co14) x8_3) := ⟨h1_⟩
                            have n2_ : Aside0 (w85.heap[gb116]? = some (.cells #[.slice none 0 0, .int .i64 x117001_3] 27 (0, 0))) := ⟨h2_⟩
                            have n3_ : Aside0 (w85.heap[gb125]? = some (.cells #[.int .i64 x126000_3, .bool x126001_3] 49 (0, 0))) := ⟨h3_⟩
                            have n4_ : Aside0 (w85.heap[gb153]? = some (.cells #[.slice none 0 0, .int .i64 0] 27 (0, 0))) := ⟨h4_⟩
                            have n5_ : Aside0 (w.heap.size ≤ gb153) := ⟨h5_⟩
                            have n6_ : Aside0 (w.heap.size ≤ gb153) := ⟨h6_⟩
                            have n7_ : Aside0 (gb116 ≠ gb153) := ⟨h7_⟩
                            have n8_ : Aside0 (gb153 ≠ gb116) := ⟨h8_⟩
                            have n9_ : Aside0 (gb125 ≠ gb153) := ⟨h9_⟩
                            have n10_ : Aside0 (gb153 ≠ gb125) := ⟨h10_⟩
                            have n11_ : Aside0 (Below w.heap.size w w85) := ⟨h11_⟩
                            clear HO_8
                            clear BK116
                            clear BK125
                            clear HB
                            clear h0_ h1_ h2_ h3_ h4_ h5_ h6_ h7_ h8_ h9_ h10_ h11_
                            have HO152 := n0_
                            have HO_8 := n1_
                            have BK116 := n2_
                            have BK125 := n3_
                            have BK153 := n4_
                            have GW153 := n5_
                            have GE153 := n6_
                            have NB116_153 := n7_
                            have NB153_116 := n8_
                            have NB125_153 := n9_
                            have NB153_125 := n10_
                            have HB := n11_
                            clear n0_ n1_ n2_ n3_ n4_ n5_ n6_ n7_ n8_ n9_ n10_ n11_
                            have hHeld : w85.cell? ⟨gb125, 0, none⟩ = some (.int .i64 x126000_3) ∧ w85.cell? ⟨gb125, 1, none⟩ = some (.bool x126001_3) := hS_
                            obtain ⟨Ao86, co86, eo86⟩ := Kd.R_slice HO152.out
                            (first | subst eo86 | (injection eo86 with f1_ f2_ f3_; have f4_ := f1_.symm; have f5_ := f3_.symm; clear f1_ f2_ f3_; subst f4_; subst f5_))
                            refine norm_ (a' := ?_) ?_ ?_
                            rotate_left
                            · simp only [putAll, Act.put, List.setIfInBounds_toArray, List.set_cons_zero, List.set_cons_succ]
                              rfl
                            refine one_ (i := 6) (N := none) #[true, true, true, true, true, true, true] rfl rfl (by kernel_rfl) (by decide) (fun K hK => ?_)
                            have hs87 : w85.cell? ⟨gb153, 0, none⟩ = some (.slice none 0 0) := (blk_cell BK153.out 0).trans rfl
                            have hfs87 := blk_frozen BK153.out 0
                            have hns87_0 := NB116_153.out
                            have hns87_1 := NB125_153.out
                            have hms87_0 := NB153_116.out
                            have hms87_1 := NB153_125.out
                            have hs88 : w85.cell? ⟨gb153, 1, none⟩ = some (.int .i64 0) := (blk_cell BK153.out 1).trans rfl
                            have hfs88 := blk_frozen BK153.out 1
                            have hns88_0 := NB116_153.out
                            have hns88_1 := NB125_153.out
                            have hms88_0 := NB153_116.out
                            have hms88_1 := NB153_125.out
                            refine skip_ (w1 := ?_) (by rfl) rfl ?_ ?_
                            rotate_left
                            · go_simp
                              rfl
                            refine hK.out _ _ ⟨((cell_far (p := ⟨gb153, _, none⟩) NB125_153.out _).trans (((cell_far (p := ⟨gb153, _, none⟩) NB125_153.out _).trans (hHeld.1)))), ((cell_far (p := ⟨gb153, _, none⟩) NB125_153.out _).trans (((cell_far (p := ⟨gb153, _, none⟩) NB125_153.out _).trans (hHeld.2))))⟩ (fun hHeld => ?_)
                            clear hK K
                            refine done_ (by kernel_rfl) ?_
                            try go_wp2
                            go_loopg [109] k3 (fun kq v109 w' => ∃ (x109_4 : Int) (x117001_4 : Int) (x154000_4 : List Int) (u154000 : Value), v109 = .int .i64 x109_4 ∧ Aside0 (lin_Sum.l3 kq x8_3 (x8_3.length : Int) x109_4 x126000_3 x126001_3 x154000_4 x126000_3 = some (r1, r2, r3)) ∧ Aside0 (kq ≤ k3) ∧ Aside0 (Kd.R k49 49 w' w.heap.size (fun k_ => k_ ≠ gb125) (.slice Ao14 x8_3.length co14) x8_3) ∧ Aside0 (Kd.R (Kd.int .i64) 3 w' w.heap.size (fun _ => True) u154000 x154000_4) ∧ Aside0 (w'.heap[gb116]? = some (.cells #[(.slice none 0 0), .int .i64 x117001_4] 27 (0, 0))) ∧ Aside0 (w'.heap[gb125]? = some (.cells #[.int .i64 x126000_3, .bool x126001_3] 49 (0, 0))) ∧ Aside0 (w'.heap[gb153]? = some (.cells #[u154000, .int .i64 x126000_3] 27 (0, 0))) ∧ Aside0 (Below w.heap.size w w'))
                            case atStart => exact ⟨(0), (x117001_3), (y150), (.slice Ao86 y150.length co86), (by first | rfl | (simp; done) | (simp [*]; done)), H', ⟨Nat.le_refl _⟩, ⟨by (try simp only [hl8_2]); (try simp only [hl8_3]); (with_reducible repeat (first | apply Kd.R_alloc | apply Kd.R_drewN | apply Kd.R_drew)); exact Kd.R_mono (Kd.R_far (p := ⟨gb153, 1, none⟩) (Kd.R_far (p := ⟨gb153, 0, none⟩) (Kd.R_types HO_8.out BK153.out (by decide)) (fun _ hk => hk.2) (.slice Ao86 y150.length co86)) (fun _ hk => hk.2) (.int .i64 x126000_3)) (fun _ hk => hk.1)⟩, ⟨by (try simp only [hl8_2]); (try simp only [hl8_3]); (with_reducible repeat (first | apply Kd.R_alloc | apply Kd.R_drewN | apply Kd.R_drew)); exact Kd.R_mono (Kd.R_far (p := ⟨gb153, 1, none⟩) (Kd.R_far (p := ⟨gb153, 0, none⟩) (Kd.R_types HO152.out BK153.out (by decide)) (fun _ hk => hk.2) (.slice Ao86 y150.length co86)) (fun _ hk => hk.2) (.int .i64 x126000_3)) (fun _ hk => trivial)⟩, ⟨by (try simp only [hl8_2]); (try simp only [hl8_3]); (with_reducible repeat (first | refine blk_drewN ?_ _ | refine blk_drew ?_ | refine blk_alloc ?_ _)); refine blk_far ?_ NB116_153.out _; (with_reducible repeat (first | refine blk_drewN ?_ _ | refine blk_drew ?_ | refine blk_alloc ?_ _)); refine blk_far ?_ NB116_153.out _; (with_reducible repeat (first | refine blk_drewN ?_ _ | refine blk_drew ?_ | refine blk_alloc ?_ _)); exact BK116.out⟩, ⟨by (try simp only [hl8_2]); (try simp only [hl8_3]); (with_reducible repeat (first | refine blk_drewN ?_ _ | refine blk_drew ?_ | refine blk_alloc ?_ _)); refine blk_far ?_ NB125_153.out _; (with_reducible repeat (first | refine blk_drewN ?_ _ | refine blk_drew ?_ | refine blk_alloc ?_ _)); refine blk_far ?_ NB125_153.out _; (with_reducible repeat (first | refine blk_drewN ?_ _ | refine blk_drew ?_ | refine blk_alloc ?_ _)); exact BK125.out⟩, ⟨by (try simp only [hl8_2]); (try simp only [hl8_3]); (with_reducible repeat (first | refine blk_drewN ?_ _ | refine blk_drew ?_ | refine blk_alloc ?_ _)); refine blk_put (cs := #[.slice Ao86 y150.length co86, .int .i64 0]) ?_ 1 _ rfl; (with_reducible repeat (first | refine blk_drewN ?_ _ | refine blk_drew ?_ | refine blk_alloc ?_ _)); refine blk_put (cs := #[.slice none 0 0, .int .i64 0]) ?_ 0 _ rfl; (with_reducible repeat (first | refine blk_drewN ?_ _ | refine blk_drew ?_ | refine blk_alloc ?_ _)); exact BK153.out⟩, ⟨by repeat (first | (with_reducible first | exact HB.out | apply below_alloc | apply pw_below_drewN | apply below_drew1 | refine below_set ?_ GE116.out | refine below_set ?_ GE125.out | refine below_set ?_ GE153.out) | exact HB.out)⟩⟩
                            case round =>
                              clear H'
                              try clear c1
                              try clear p1
                              try clear q1
                              try clear hx1
                              try clear c2
                              try clear p2
                              try clear c3
                              try clear c4
                              try clear c5
                              try clear c6
                              try clear p6
                              try clear c7
                              try clear c12
                              try clear p14
                              try clear q14
                              try clear hx14
                              try clear c18
                              try clear c19
                              try clear c20
                              try clear c28
                              try clear c28b0
                              try clear c29
                              try clear c30
                              try clear c48
                              try clear c48b0
                              try clear c49
                              try clear c50
                              try clear c51
                              try clear c53
                              try clear c54
                              try clear p64
                              try clear c66
                              try clear c66b0
                              try clear c67
                              try clear c67b0
                              try clear c78
                              try clear c78b0
                              try clear c78b1
                              try clear c79
                              try clear c79b0
                              try clear c79b1
                              try clear hx143_0
                              try clear p143
                              try clear q143
                              obtain ⟨x109_4, x117001_4, x154000_4, u154000, rfl, HA, HK4, HO_107, HO_154000, BK116, BK125, BK153, HB⟩ := hrel
                              cases gk with
                              | zero => exact absurd HA.out (by simp [lin_Sum.l3])
                              | succ k4 =>
                                have H := HA.out
                                clear HA
                                simp only [lin_Sum.l3] at H
                                by_cases c89 : x109_4 < (x8_3.length : Int)
                                · rw [if_pos c89] at H
                                  have c89b0 : decide (x109_4 < (x8_3.length : Int)) = true := decide_eq_true c89
                                  clear c89
                                  by_cases c90 : 0 ≤ x109_4
                                  · rw [if_pos c90] at H
                                    have c90b0 : decide (0 ≤ x109_4) = true := decide_eq_true c90
                                    clear c90
                                    by_cases c91 : x109_4 < (x8_3.length : Int)
                                    · rw [if_pos c91] at H
                                      have c91b0 : decide (x109_4 < (x8_3.length : Int)) = true := decide_eq_true c91
                                      clear c91
                                      obtain ⟨bq92, hbq92⟩ : ∃ b_ : Bool, b_ = ((rd_T49 x8_3 x109_4).f1) := ⟨_, rfl⟩
                                      replace H : (if (bq92 = true) then (if x109_4 < (x154000_4.length : Int) then (lin_Sum.l3 k4 x8_3 (x8_3.length : Int) (wrap64 (x109_4 + 1)) x126000_3 x126001_3 (x154000_4.set (x109_4 : Int).toNat ((rd_T49 x8_3 x109_4).f0)) x126000_3) else (none)) else (some (([] : List Int), 0, 14))) = some (r1, r2, r3) := by rw [← hbq92] at H; exact H
                                      have Nbq92 := Aside0.mk hbq92
                                      clear hbq92
                                      by_cases c93 : (bq92 = true)
                                      · subst c93
                                        have H1 : (if x109_4 < (x154000_4.length : Int) then (lin_Sum.l3 k4 x8_3 (x8_3.length : Int) (wrap64 (x109_4 + 1)) x126000_3 x126001_3 (x154000_4.set (x109_4 : Int).toNat ((rd_T49 x8_3 x109_4).f0)) x126000_3) else (none)) = some (r1, r2, r3) := by rw [if_pos rfl] at H; exact H
                                        clear H
                                        have H := H1
                                        clear H1
                                        by_cases c94 : x109_4 < (x154000_4.length : Int)
                                        · rw [if_pos c94] at H
                                          have c94b0 : decide (x109_4 < (x154000_4.length : Int)) = true := decide_eq_true c94
                                          clear c94
                                          obtain ⟨y156, hy156⟩ : ∃ y_ : List Int, y_ = (x154000_4.set (x109_4 : Int).toNat ((rd_T49 x8_3 x109_4).f0)) := ⟨_, rfl⟩
                                          replace H : (lin_Sum.l3 k4 x8_3 (x8_3.length : Int) (wrap64 (x109_4 + 1)) x126000_3 x126001_3 y156 x126000_3) = some (r1, r2, r3) := by first | (rw [hy156]; with_reducible exact H) | (have H2_ := (Option.bind_some _ _).symm.trans H; rw [hy156]; with_reducible exact H2_) | (have H2_ := (Option.bind_some _ _).symm.trans H; with_reducible exact H2_) | with_reducible exact H | (rw [hy156]; exact H) | exact H
                                          have Ny156 := Aside0.mk hy156
                                          clear hy156
                                          have H' := Aside0.mk H
                                          clear H
                                          have p154 : 0 ≤ (x109_4 : Int) := of_decide_eq_true (by first | (with_reducible assumption) | assumption)
                                          have q154 : x109_4 < (x8_3.length : Int) := of_decide_eq_true (by first | (with_reducible assumption) | assumption)
                                          obtain ⟨ad154, e154, hx154_0, hx154_1⟩ := at_T49 (Kd.R_reads' HO_107.out).2.2 x109_4 p154 q154
                                          (try rw [← Nbq92.out] at hx154_1)
                                          cases e154
                                          replace p154 := eq_true p154
                                          replace q154 := eq_true q154
                                          go_wp2_with (first | ((with_reducible refine gate_dst (N := 17) rfl ?_); (try (refine gate_guard (by rfl) ?_; dsimp only)); refine box_event ?hg (N := 17) ?hd (cs := #[.int .i64 0, .bool false]) (t := 49) ?hr ?_; (case hd => rfl); (case hg => rfl); (case hr => first | (go_simp; done) | (go_simp; rfl)); intro gb155 hg w96 hbox hb; have n0_ := Aside0.mk (Kd.R_below (Kd.R_elderB (by (with_reducible repeat (first | apply Kd.R_alloc | apply Kd.R_drewN | apply Kd.R_drew)); exact HO_107.out) gb155 (Nat.le_of_eq hg.symm)) hb); have n1_ := Aside0.mk (Kd.R_below (by (with_reducible repeat (first | apply Kd.R_alloc | apply Kd.R_drewN | apply Kd.R_drew)); exact HO_154000.out) hb); have n2_ := Aside0.mk (blk_below (g := gb116) (o := .cells #[.slice none 0 0, .int .i64 x117001_4] 27 (0, 0)) (by (with_reducible repeat (first | refine blk_drewN ?_ _ | refine blk_drew ?_ | refine blk_alloc ?_ _)); exact BK116.out) hb); have n3_ := Aside0.mk (blk_below (g := gb125) (o := .cells #[.int .i64 x126000_3, .bool x126001_3] 49 (0, 0)) (by (with_reducible repeat (first | refine blk_drewN ?_ _ | refine blk_drew ?_ | refine blk_alloc ?_ _)); exact BK125.out) hb); have n4_ := Aside0.mk (blk_below (g := gb153) (o := .cells #[u154000, .int .i64 x126000_3] 27 (0, 0)) (by (with_reducible repeat (first | refine blk_drewN ?_ _ | refine blk_drew ?_ | refine blk_alloc ?_ _)); exact BK153.out) hb); have n5_ := Aside0.mk (below_step (by repeat (first | (with_reducible first | exact HB.out | apply below_alloc | apply pw_below_drewN | apply below_drew1 | refine below_set ?_ GE116.out | refine below_set ?_ GE125.out | refine below_set ?_ GE153.out) | exact HB.out)) hb); have n6_ := Aside0.mk (hbox); have n7_ := Aside0.mk ((by rw [hg]; exact (below_size (by repeat (first | (with_reducible first | exact HB.out | apply below_alloc | apply pw_below_drewN | apply below_drew1 | refine below_set ?_ GE116.out | refine below_set ?_ GE125.out | refine below_set ?_ GE153.out) | exact HB.out))) : w.heap.size ≤ gb155)); have n8_ := Aside0.mk ((by rw [hg]; exact (below_size (by repeat (first | (with_reducible first | exact HB.out | apply below_alloc | apply pw_below_drewN | apply below_drew1 | refine below_set ?_ GE116.out | refine below_set ?_ GE125.out | refine below_set ?_ GE153.out) | exact HB.out))) : w.heap.size ≤ gb155)); have n9_ := Aside0.mk ((by rw [hg]; exact Nat.ne_of_lt (blk_lt (g := gb116) (o := .cells #[.slice none 0 0, .int .i64 x117001_4] 27 (0, 0)) (by (with_reducible repeat (first | refine blk_drewN ?_ _ | refine blk_drew ?_ | refine blk_alloc ?_ _)); exact BK116.out)) : gb116 ≠ gb155)); have n10_ := Aside0.mk ((by rw [hg]; exact Nat.ne_of_gt (blk_lt (g := gb116) (o := .cells #[.slice none 0 0, .int .i64 x117001_4] 27 (0, 0)) (by (with_reducible repeat (first | refine blk_drewN ?_ _ | refine blk_drew ?_ | refine blk_alloc ?_ _)); exact BK116.out)) : gb155 ≠ gb116)); have n11_ := Aside0.mk ((by rw [hg]; exact Nat.ne_of_lt (blk_lt (g := gb125) (o := .cells #[.int .i64 x126000_3, .bool x126001_3] 49 (0, 0)) (by (with_reducible repeat (first | refine blk_drewN ?_ _ | refine blk_drew ?_ | refine blk_alloc ?_ _)); exact BK125.out)) : gb125 ≠ gb155)); have n12_ := Aside0.mk ((by rw [hg]; exact Nat.ne_of_gt (blk_lt (g := gb125) (o := .cells #[.int .i64 x126000_3, .bool x126001_3] 49 (0, 0)) (by (with_reducible repeat (first | refine blk_drewN ?_ _ | refine blk_drew ?_ | refine blk_alloc ?_ _)); exact BK125.out)) : gb155 ≠ gb125)); have n13_ := Aside0.mk ((by rw [hg]; exact Nat.ne_of_lt (blk_lt (g := gb153) (o := .cells #[u154000, .int .i64 x126000_3] 27 (0, 0)) (by (with_reducible repeat (first | refine blk_drewN ?_ _ | refine blk_drew ?_ | refine blk_alloc ?_ _)); exact BK153.out)) : gb153 ≠ gb155)); have n14_ := Aside0.mk ((by rw [hg]; exact Nat.ne_of_gt (blk_lt (g := gb153) (o := .cells #[u154000, .int .i64 x126000_3] 27 (0, 0)) (by (with_reducible repeat (first | refine blk_drewN ?_ _ | refine blk_drew ?_ | refine blk_alloc ?_ _)); exact BK153.out)) : gb155 ≠ gb153)); clear HO_107; clear HO_154000; clear BK116; clear BK125; clear BK153; clear HB; have HO_107 := n0_; have HO_154000 := n1_; have BK116 := n2_; have BK125 := n3_; have BK153 := n4_; have HB := n5_; have BK155 := n6_; have GW155 := n7_; have GE155 := n8_; have NB116_155 := n9_; have NB155_116 := n10_; have NB125_155 := n11_; have NB155_125 := n12_; have NB153_155 := n13_; have NB155_153 := n14_; clear n0_ n1_ n2_ n3_ n4_ n5_ n6_ n7_ n8_ n9_ n10_ n11_ n12_ n13_ n14_; clear hb hbox hg; have hnb97 := NB155_116.out; have hnc97 := NB116_155.out; have hnb98 := NB155_125.out; have hnc98 := NB125_155.out; have hnb99 := NB155_153.out; have hnc99 := NB153_155.out; have hcz100_0 : w96.cell? ⟨gb155, 0, none⟩ = some (.int .i64 0) := (blk_cell BK155.out 0).trans rfl; have hcz100_1 : w96.cell? ⟨gb155, 1, none⟩ = some (.bool false) := (blk_cell BK155.out 1).trans rfl; have hfz100_0 := blk_frozen BK155.out 0; have hfz100_1 := blk_frozen BK155.out 1) | ((with_reducible refine gate_store (t := 49) (p := 17) rfl ?_); refine store_event (t := 49) (p := 17) (v := ?vo_w101) (w1 := ((w96.setCell ⟨gb155, 0, none⟩ (.int .i64 ((rd_T49 x8_3 x109_4).f0))).setCell ⟨gb155, 1, none⟩ (.bool true))) ?hg ?ho ?hn ?hr ?_; (case ho => rfl); (case hg => rfl); (case hn => rfl); (case hr => first | (go_simp; done) | (go_simp; rfl)); intro w101 hw; have n0_ : Aside0 (Kd.R k49 49 w101 w.heap.size (fun k_ => k_ ≠ gb125 ∧ k_ ≠ gb155) (.slice (some ad154) x8_3.length co14) x8_3) := ⟨(by rw [hw]; exact (by (with_reducible repeat (first | apply Kd.R_alloc | apply Kd.R_drewN | apply Kd.R_drew)); exact Kd.R_mono (Kd.R_far (p := ⟨gb155, 1, none⟩) (Kd.R_far (p := ⟨gb155, 0, none⟩) (Kd.R_mono HO_107.out (fun k_ hk => (⟨hk, hk.2⟩ : _ ∧ k_ ≠ gb155))) (fun _ hk => hk.2) (.int .i64 ((rd_T49 x8_3 x109_4).f0))) (fun _ hk => hk.2) (.bool true)) (fun _ hk => ⟨hk.1.1, hk.1.2⟩)))⟩; have n1_ : Aside0 (Kd.R (Kd.int .i64) 3 w101 w.heap.size (fun _ => True) u154000 x154000_4) := ⟨(by rw [hw]; exact (by (with_reducible repeat (first | apply Kd.R_alloc | apply Kd.R_drewN | apply Kd.R_drew)); exact Kd.R_mono (Kd.R_far (p := ⟨gb155, 1, none⟩) (Kd.R_far (p := ⟨gb155, 0, none⟩) (Kd.R_types HO_154000.out BK155.out (by decide)) (fun _ hk => hk.2) (.int .i64 ((rd_T49 x8_3 x109_4).f0))) (fun _ hk => hk.2) (.bool true)) (fun _ hk => trivial)))⟩; have n2_ : Aside0 (w101.heap[gb116]? = some (.cells #[.slice none 0 0, .int .i64 x117001_4] 27 (0, 0))) := ⟨(by rw [hw]; exact (by (with_reducible repeat (first | refine blk_drewN ?_ _ | refine blk_drew ?_ | refine blk_alloc ?_ _)); refine blk_far ?_ NB116_155.out _; (with_reducible repeat (first | refine blk_drewN ?_ _ | refine blk_drew ?_ | refine blk_alloc ?_ _)); refine blk_far ?_ NB116_155.out _; (with_reducible repeat (first | refine blk_drewN ?_ _ | refine blk_drew ?_ | refine blk_alloc ?_ _)); exact BK116.out))⟩; have n3_ : Aside0 (w101.heap[gb125]? = some (.cells #[.int .i64 x126000_3, .bool x126001_3] 49 (0, 0))) := ⟨(by rw [hw]; exact (by (with_reducible repeat (first | refine blk_drewN ?_ _ | refine blk_drew ?_ | refine blk_alloc ?_ _)); refine blk_far ?_ NB125_155.out _; (with_reducible repeat (first | refine blk_drewN ?_ _ | refine blk_drew ?_ | refine blk_alloc ?_ _)); refine blk_far ?_ NB125_155.out _; (with_reducible repeat (first | refine blk_drewN ?_ _ | refine blk_drew ?_ | refine blk_alloc ?_ _)); exact BK125.out))⟩; have n4_ : Aside0 (w101.heap[gb153]? = some (.cells #[u154000, .int .i64 x126000_3] 27 (0, 0))) := ⟨(by rw [hw]; exact (by (with_reducible repeat (first | refine blk_drewN ?_ _ | refine blk_drew ?_ | refine blk_alloc ?_ _)); refine blk_far ?_ NB153_155.out _; (with_reducible repeat (first | refine blk_drewN ?_ _ | refine blk_drew ?_ | refine blk_alloc ?_ _)); refine blk_far ?_ NB153_155.out _; (with_reducible repeat (first | refine blk_drewN ?_ _ | refine blk_drew ?_ | refine blk_alloc ?_ _)); exact BK153.out))⟩; have n5_ : Aside0 (w101.heap[gb155]? = some (.cells #[.int .i64 ((rd_T49 x8_3 x109_4).f0), .bool true] 49 (0, 0))) := ⟨(by rw [hw]; exact (by (with_reducible repeat (first | refine blk_drewN ?_ _ | refine blk_drew ?_ | refine blk_alloc ?_ _)); refine blk_put (cs := #[.int .i64 ((rd_T49 x8_3 x109_4).f0), .bool false]) ?_ 1 _ rfl; (with_reducible repeat (first | refine blk_drewN ?_ _ | refine blk_drew ?_ | refine blk_alloc ?_ _)); refine blk_put (cs := #[.int .i64 0, .bool false]) ?_ 0 _ rfl; (with_reducible repeat (first | refine blk_drewN ?_ _ | refine blk_drew ?_ | refine blk_alloc ?_ _)); exact BK155.out))⟩; have n6_ : Aside0 (Below w.heap.size w w101) := ⟨(by rw [hw]; exact (by repeat (first | (with_reducible first | exact HB.out | apply below_alloc | apply pw_below_drewN | apply below_drew1 | refine below_set ?_ GE116.out | refine below_set ?_ GE125.out | refine below_set ?_ GE153.out | refine below_set ?_ GE155.out) | exact HB.out)))⟩; clear hw; clear HO_107; clear HO_154000; clear BK116; clear BK125; clear BK153; clear BK155; clear HB; have HO_107 := n0_; have HO_154000 := n1_; have BK116 := n2_; have BK125 := n3_; have BK153 := n4_; have BK155 := n5_; have HB := n6_; clear n0_ n1_ n2_ n3_ n4_ n5_ n6_; have hcz102_0 : w101.cell? ⟨gb155, 0, none⟩ = some (.int .i64 ((rd_T49 x8_3 x109_4).f0)) := (blk_cell BK155.out 0).trans rfl; have hcz102_1 : w101.cell? ⟨gb155, 1, none⟩ = some (.bool true) := (blk_cell BK155.out 1).trans rfl; have hfz102_0 := blk_frozen BK155.out 0; have hfz102_1 := blk_frozen BK155.out 1; have hnb103 := NB153_116.out; have hnc103 := NB116_153.out; have hnb104 := NB153_125.out; have hnc104 := NB125_153.out; have hcz105_0 : w101.cell? ⟨gb153, 0, none⟩ = some (u154000) := (blk_cell BK153.out 0).trans rfl; have hcz105_1 : w101.cell? ⟨gb153, 1, none⟩ = some (.int .i64 x126000_3) := (blk_cell BK153.out 1).trans rfl; have hfz105_0 := blk_frozen BK153.out 0; have hfz105_1 := blk_frozen BK153.out 1; have p95 : 0 ≤ (x109_4 : Int) := of_decide_eq_true (by first | (with_reducible assumption) | assumption); have q95 : (x109_4 : Int) < ((x154000_4.length : Int) : Int) := of_decide_eq_true (by first | (with_reducible assumption) | assumption); obtain ⟨go95, co95, eo95, gb95, gl95, cl95, HG95⟩ := Kd.R_form HO_154000.out (by omega); (first | cases eo95 | (injection eo95 with ea_ en_ ec_; (first | subst ea_ | (injection ea_ with ea_; subst ea_)); subst ec_; clear en_)); have GB95 := Aside0.mk gb95; have GG95 := Aside0.mk HG95; clear gb95 gl95 HG95; obtain ⟨hx95_0, hf95_0⟩ := Kd.R_celln 0 HO_154000.out (x109_4 : Int) p95 q95; replace p95 := eq_true p95; replace q95 := eq_true q95; obtain ⟨hy106_, hz106_⟩ := Kd.R_celln 0 HO_154000.out (x109_4 : Int) (of_decide_eq_true (by first | (with_reducible assumption) | assumption)) (of_decide_eq_true (by first | (with_reducible assumption) | assumption)); have HP106 := Kd.R_putg HO_154000.out (x109_4 : Int) ((rd_T49 x8_3 x109_4).f0)) | ((with_reducible refine gate_store (t := 3) (p := 123) rfl ?_); refine store_event (t := 3) (p := 123) (v := ?vo_w107) (w1 := (w101.setCell ⟨go95, (x109_4 : Int).toNat, none⟩ (.int .i64 ((rd_T49 x8_3 x109_4).f0)))) ?hg ?ho ?hn ?hr ?_; (case ho => rfl); (case hg => rfl); (case hn => rfl); (case hr => first | (go_simp; done) | (go_simp; rfl)); intro w107 hw; have hg : w101.grownBy w107 (some go95) := (by rw [hw]; exact HP106.2); have hp_ : Kd.R (Kd.int .i64) 3 w107 w.heap.size (fun _ => True) (.slice (some ⟨go95, 0, none⟩) x154000_4.length co95) y156 := (by rw [hw, Ny156.out]; exact HP106.1); clear HP106; have n0_ := Aside0.mk (Kd.R_over' (v := (.slice (some ⟨go95, 0, none⟩) x154000_4.length co95)) (by (with_reducible repeat (first | apply Kd.R_alloc | apply Kd.R_drewN | apply Kd.R_drew)); exact HO_107.out) (Kd.R_typed HO_154000.out) (by decide) hg); have n1_ := Aside0.mk (hp_); have n2_ := Aside0.mk (blk_grown (g := gb116) (o := .cells #[.slice none 0 0, .int .i64 x117001_4] 27 (0, 0)) (by (with_reducible repeat (first | refine blk_drewN ?_ _ | refine blk_drew ?_ | refine blk_alloc ?_ _)); exact BK116.out) hg (Kd.R_ne HO_154000.out BK116.out (by decide))); have n3_ := Aside0.mk (blk_grown (g := gb125) (o := .cells #[.int .i64 x126000_3, .bool x126001_3] 49 (0, 0)) (by (with_reducible repeat (first | refine blk_drewN ?_ _ | refine blk_drew ?_ | refine blk_alloc ?_ _)); exact BK125.out) hg (Kd.R_ne HO_154000.out BK125.out (by decide))); have n4_ := Aside0.mk (blk_grown (g := gb153) (o := .cells #[.slice (some ⟨go95, 0, none⟩) x154000_4.length co95, .int .i64 x126000_3] 27 (0, 0)) (by (with_reducible repeat (first | refine blk_drewN ?_ _ | refine blk_drew ?_ | refine blk_alloc ?_ _)); exact BK153.out) hg (Kd.R_ne HO_154000.out BK153.out (by decide))); have n5_ := Aside0.mk (blk_grown (g := gb155) (o := .cells #[.int .i64 ((rd_T49 x8_3 x109_4).f0), .bool true] 49 (0, 0)) (by (with_reducible repeat (first | refine blk_drewN ?_ _ | refine blk_drew ?_ | refine blk_alloc ?_ _)); exact BK155.out) hg (Kd.R_ne HO_154000.out BK155.out (by decide))); have n6_ := Aside0.mk ((by rw [hw]; exact below_set (HB.out) GB95.out : Below w.heap.size w w107)); clear HO_107; clear HO_154000; clear BK116; clear BK125; clear BK153; clear BK155; clear HB; have HO_107 := n0_; have HO_154000 := n1_; have BK116 := n2_; have BK125 := n3_; have BK153 := n4_; have BK155 := n5_; have HB := n6_; clear n0_ n1_ n2_ n3_ n4_ n5_ n6_; clear hg hw hp_))
                                          go_roundg k4
                                          case measure => have := HJ3.out; have := HK2.out; have := HK3.out; have := HK4.out; omega
                                          case rel => exact ⟨(wrap64 (x109_4 + 1)), (x117001_4), (y156), (.slice (some ⟨go95, 0, none⟩) x154000_4.length co95), (by first | rfl | (simp; done) | (simp [*]; done)), H', ⟨by have := HJ3.out; have := HK2.out; have := HK3.out; have := HK4.out; omega⟩, ⟨by (try simp only [hl8_2]); (try simp only [hl8_3]); (with_reducible repeat (first | apply Kd.R_alloc | apply Kd.R_drewN | apply Kd.R_drew)); exact Kd.R_mono HO_107.out (fun _ hk => hk.1)⟩, ⟨by (try simp only [hl8_2]); (try simp only [hl8_3]); (with_reducible repeat (first | apply Kd.R_alloc | apply Kd.R_drewN | apply Kd.R_drew)); exact HO_154000.out⟩, ⟨by (try simp only [hl8_2]); (try simp only [hl8_3]); (with_reducible repeat (first | refine blk_drewN ?_ _ | refine blk_drew ?_ | refine blk_alloc ?_ _)); exact BK116.out⟩, ⟨by (try simp only [hl8_2]); (try simp only [hl8_3]); (with_reducible repeat (first | refine blk_drewN ?_ _ | refine blk_drew ?_ | refine blk_alloc ?_ _)); exact BK125.out⟩, ⟨by (try simp only [hl8_2]); (try simp only [hl8_3]); (with_reducible repeat (first | refine blk_drewN ?_ _ | refine blk_drew ?_ | refine blk_alloc ?_ _)); exact BK153.out⟩, ⟨by repeat (first | (with_reducible first | exact HB.out | apply below_alloc | apply pw_below_drewN | apply below_drew1 | refine below_set ?_ GE116.out | refine below_set ?_ GE125.out | refine below_set ?_ GE153.out | refine below_set ?_ GE155.out) | exact HB.out)⟩⟩
                                        · rw [if_neg c94] at H
                                          exact absurd H (by simp)
                                      · replace c93 := Bool.eq_false_iff.mpr c93
                                        subst c93
                                        have H1 : (some (([] : List Int), 0, 14)) = some (r1, r2, r3) := by rw [if_neg (show ¬ (false = true) by decide)] at H; exact H
                                        clear H
                                        have H := H1
                                        clear H1
                                        simp only [Option.some.injEq, Prod.mk.injEq] at H
                                        obtain ⟨rfl, rfl, rfl⟩ := H
                                        have p154 : 0 ≤ (x109_4 : Int) := of_decide_eq_true (by first | (with_reducible assumption) | assumption)
                                        have q154 : x109_4 < (x8_3.length : Int) := of_decide_eq_true (by first | (with_reducible assumption) | assumption)
                                        obtain ⟨ad154, e154, hx154_0, hx154_1⟩ := at_T49 (Kd.R_reads' HO_107.out).2.2 x109_4 p154 q154
                                        (try rw [← Nbq92.out] at hx154_1)
                                        cases e154
                                        replace p154 := eq_true p154
                                        replace q154 := eq_true q154
                                        go_wp2_with (first | ((with_reducible refine gate_dst (N := 17) rfl ?_); (try (refine gate_guard (by rfl) ?_; dsimp only)); refine box_event ?hg (N := 17) ?hd (cs := #[.int .i64 0, .bool false]) (t := 49) ?hr ?_; (case hd => rfl); (case hg => rfl); (case hr => first | (go_simp; done) | (go_simp; rfl)); intro gb155 hg w108 hbox hb; have n0_ := Aside0.mk (Kd.R_below (Kd.R_elderB (by (with_reducible repeat (first | apply Kd.R_alloc | apply Kd.R_drewN | apply Kd.R_drew)); exact HO_107.out) gb155 (Nat.le_of_eq hg.symm)) hb); have n1_ := Aside0.mk (Kd.R_below (by (with_reducible repeat (first | apply Kd.R_alloc | apply Kd.R_drewN | apply Kd.R_drew)); exact HO_154000.out) hb); have n2_ := Aside0.mk (blk_below (g := gb116) (o := .cells #[.slice none 0 0, .int .i64 x117001_4] 27 (0, 0)) (by (with_reducible repeat (first | refine blk_drewN ?_ _ | refine blk_drew ?_ | refine blk_alloc ?_ _)); exact BK116.out) hb); have n3_ := Aside0.mk (blk_below (g := gb125) (o := .cells #[.int .i64 x126000_3, .bool x126001_3] 49 (0, 0)) (by (with_reducible repeat (first | refine blk_drewN ?_ _ | refine blk_drew ?_ | refine blk_alloc ?_ _)); exact BK125.out) hb); have n4_ := Aside0.mk (blk_below (g := gb153) (o := .cells #[u154000, .int .i64 x126000_3] 27 (0, 0)) (by (with_reducible repeat (first | refine blk_drewN ?_ _ | refine blk_drew ?_ | refine blk_alloc ?_ _)); exact BK153.out) hb); have n5_ := Aside0.mk (below_step (by repeat (first | (with_reducible first | exact HB.out | apply below_alloc | apply pw_below_drewN | apply below_drew1 | refine below_set ?_ GE116.out | refine below_set ?_ GE125.out | refine below_set ?_ GE153.out) | exact HB.out)) hb); have n6_ := Aside0.mk (hbox); have n7_ := Aside0.mk ((by rw [hg]; exact (below_size (by repeat (first | (with_reducible first | exact HB.out | apply below_alloc | apply pw_below_drewN | apply below_drew1 | refine below_set ?_ GE116.out | refine below_set ?_ GE125.out | refine below_set ?_ GE153.out) | exact HB.out))) : w.heap.size ≤ gb155)); have n8_ := Aside0.mk ((by rw [hg]; exact (below_size (by repeat (first | (with_reducible first | exact HB.out | apply below_alloc | apply pw_below_drewN | apply below_drew1 | refine below_set ?_ GE116.out | refine below_set ?_ GE125.out | refine below_set ?_ GE153.out) | exact HB.out))) : w.heap.size ≤ gb155)); have n9_ := Aside0.mk ((by rw [hg]; exact Nat.ne_of_lt (blk_lt (g := gb116) (o := .cells #[.slice none 0 0, .int .i64 x117001_4] 27 (0, 0)) (by (with_reducible repeat (first | refine blk_drewN ?_ _ | refine blk_drew ?_ | refine blk_alloc ?_ _)); exact BK116.out)) : gb116 ≠ gb155)); have n10_ := Aside0.mk ((by rw [hg]; exact Nat.ne_of_gt (blk_lt (g := gb116) (o := .cells #[.slice none 0 0, .int .i64 x117001_4] 27 (0, 0)) (by (with_reducible repeat (first | refine blk_drewN ?_ _ | refine blk_drew ?_ | refine blk_alloc ?_ _)); exact BK116.out)) : gb155 ≠ gb116)); have n11_ := Aside0.mk ((by rw [hg]; exact Nat.ne_of_lt (blk_lt (g := gb125) (o := .cells #[.int .i64 x126000_3, .bool x126001_3] 49 (0, 0)) (by (with_reducible repeat (first | refine blk_drewN ?_ _ | refine blk_drew ?_ | refine blk_alloc ?_ _)); exact BK125.out)) : gb125 ≠ gb155)); have n12_ := Aside0.mk ((by rw [hg]; exact Nat.ne_of_gt (blk_lt (g := gb125) (o := .cells #[.int .i64 x126000_3, .bool x126001_3] 49 (0, 0)) (by (with_reducible repeat (first | refine blk_drewN ?_ _ | refine blk_drew ?_ | refine blk_alloc ?_ _)); exact BK125.out)) : gb155 ≠ gb125)); have n13_ := Aside0.mk ((by rw [hg]; exact Nat.ne_of_lt (blk_lt (g := gb153) (o := .cells #[u154000, .int .i64 x126000_3] 27 (0, 0)) (by (with_reducible repeat (first | refine blk_drewN ?_ _ | refine blk_drew ?_ | refine blk_alloc ?_ _)); exact BK153.out)) : gb153 ≠ gb155)); have n14_ := Aside0.mk ((by rw [hg]; exact Nat.ne_of_gt (blk_lt (g := gb153) (o := .cells #[u154000, .int .i64 x126000_3] 27 (0, 0)) (by (with_reducible repeat (first | refine blk_drewN ?_ _ | refine blk_drew ?_ | refine blk_alloc ?_ _)); exact BK153.out)) : gb155 ≠ gb153)); clear HO_107; clear HO_154000; clear BK116; clear BK125; clear BK153; clear HB; have HO_107 := n0_; have HO_154000 := n1_; have BK116 := n2_; have BK125 := n3_; have BK153 := n4_; have HB := n5_; have BK155 := n6_; have GW155 := n7_; have GE155 := n8_; have NB116_155 := n9_; have NB155_116 := n10_; have NB125_155 := n11_; have NB155_125 := n12_; have NB153_155 := n13_; have NB155_153 := n14_; clear n0_ n1_ n2_ n3_ n4_ n5_ n6_ n7_ n8_ n9_ n10_ n11_ n12_ n13_ n14_; clear hb hbox hg; have hnb109 := NB155_116.out; have hnc109 := NB116_155.out; have hnb110 := NB155_125.out; have hnc110 := NB125_155.out; have hnb111 := NB155_153.out; have hnc111 := NB153_155.out; have hcz112_0 : w108.cell? ⟨gb155, 0, none⟩ = some (.int .i64 0) := (blk_cell BK155.out 0).trans rfl; have hcz112_1 : w108.cell? ⟨gb155, 1, none⟩ = some (.bool false) := (blk_cell BK155.out 1).trans rfl; have hfz112_0 := blk_frozen BK155.out 0; have hfz112_1 := blk_frozen BK155.out 1; have hnb113 := NB116_125.out; have hnc113 := NB125_116.out; have hnb114 := NB116_153.out; have hnc114 := NB153_116.out; have hcz115_0 : w108.cell? ⟨gb116, 0, none⟩ = some (.slice none 0 0) := (blk_cell BK116.out 0).trans rfl; have hcz115_1 : w108.cell? ⟨gb116, 1, none⟩ = some (.int .i64 x117001_4) := (blk_cell BK116.out 1).trans rfl; have hfz115_0 := blk_frozen BK116.out 0; have hfz115_1 := blk_frozen BK116.out 1))
                                        refine bodyPost_ret (results_ct rfl _ _ gb116 27 #[.slice none 0 0, .int .i64 0] (0, 0) _ rfl (by (with_reducible repeat (first | refine blk_drewN ?_ _ | refine blk_drew ?_ | refine blk_alloc ?_ _)); refine blk_put (cs := #[.slice none 0 0, .int .i64 x117001_4]) ?_ 1 _ rfl; (with_reducible repeat (first | refine blk_drewN ?_ _ | refine blk_drew ?_ | refine blk_alloc ?_ _)); refine blk_put (cs := #[.slice none 0 0, .int .i64 x117001_4]) ?_ 0 _ rfl; (with_reducible repeat (first | refine blk_drewN ?_ _ | refine blk_drew ?_ | refine blk_alloc ?_ _)); refine blk_far ?_ NB116_155.out _; (with_reducible repeat (first | refine blk_drewN ?_ _ | refine blk_drew ?_ | refine blk_alloc ?_ _)); refine blk_far ?_ NB116_155.out _; (with_reducible repeat (first | refine blk_drewN ?_ _ | refine blk_drew ?_ | refine blk_alloc ?_ _)); exact BK116.out) Try.underlying27 rfl (by kernel_rfl)) rfl ?_
                                        exact ⟨_, by first | rfl | (simp [errW_none, errW_some] <;> rfl) | (simp [*, errW_none, errW_some] <;> rfl), by first | exact Kd.R_nil _ _ _ _ _ | exact Kd.N_nil _ _ _ _ _ | exact Kd.V_nil _ _ _ _ _ | exact Kd.Q_nil _ _ _ _ _ | exact Kd.S_nil _ _ _ _ _, by repeat (first | (with_reducible first | exact HB.out | apply below_alloc | apply pw_below_drewN | apply below_drew1 | refine below_set ?_ GE116.out | refine below_set ?_ GE125.out | refine below_set ?_ GE153.out | refine below_set ?_ GE155.out) | exact HB.out)⟩
                                    · rw [if_neg c91] at H
                                      exact absurd H (by simp)
                                  · rw [if_neg c90] at H
                                    exact absurd H (by simp)
                                · rw [if_neg c89] at H
                                  have c89b0 : decide (x109_4 < (x8_3.length : Int)) = false := decide_eq_false c89
                                  clear c89
                                  by_cases c116 : x126001_3 = true
                                  · subst c116
                                    have H1 : (some (x154000_4, x126000_3, 0)) = some (r1, r2, r3) := by rw [if_pos rfl] at H; exact H
                                    clear H
                                    have H := H1
                                    clear H1
                                    simp only [Option.some.injEq, Prod.mk.injEq] at H
                                    obtain ⟨rfl, rfl, rfl⟩ := H
                                    have hnb117 := NB125_116.out
                                    have hnc117 := NB116_125.out
                                    have hnb118 := NB125_153.out
                                    have hnc118 := NB153_125.out
                                    have hcz119_0 : wr.cell? ⟨gb125, 0, none⟩ = some (.int .i64 x126000_3) := (blk_cell BK125.out 0).trans rfl
                                    have hcz119_1 : wr.cell? ⟨gb125, 1, none⟩ = some (.bool true) := (blk_cell BK125.out 1).trans rfl
                                    have hfz119_0 := blk_frozen BK125.out 0
                                    have hfz119_1 := blk_frozen BK125.out 1
                                    have hnb120 := NB153_116.out
                                    have hnc120 := NB116_153.out
                                    have hcz121_0 : wr.cell? ⟨gb153, 0, none⟩ = some (u154000) := (blk_cell BK153.out 0).trans rfl
                                    have hcz121_1 : wr.cell? ⟨gb153, 1, none⟩ = some (.int .i64 x126000_3) := (blk_cell BK153.out 1).trans rfl
                                    have hfz121_0 := blk_frozen BK153.out 0
                                    have hfz121_1 := blk_frozen BK153.out 1
                                    obtain ⟨Ao122, co122, eo122⟩ := Kd.R_slice HO_154000.out
                                    subst eo122
                                    have hcz123_0 : wr.cell? ⟨gb116, 0, none⟩ = some (.slice none 0 0) := (blk_cell BK116.out 0).trans rfl
                                    have hcz123_1 : wr.cell? ⟨gb116, 1, none⟩ = some (.int .i64 x117001_4) := (blk_cell BK116.out 1).trans rfl
                                    have hfz123_0 := blk_frozen BK116.out 0
                                    have hfz123_1 := blk_frozen BK116.out 1
                                    go_wp2
                                    refine bodyPost_ret (results_ct rfl _ _ gb116 27 #[.slice Ao122 x154000_4.length co122, .int .i64 x126000_3] (0, 0) _ rfl (by (with_reducible repeat (first | refine blk_drewN ?_ _ | refine blk_drew ?_ | refine blk_alloc ?_ _)); refine blk_put (cs := #[.slice Ao122 x154000_4.length co122, .int .i64 x117001_4]) ?_ 1 _ rfl; (with_reducible repeat (first | refine blk_drewN ?_ _ | refine blk_drew ?_ | refine blk_alloc ?_ _)); refine blk_put (cs := #[.slice none 0 0, .int .i64 x117001_4]) ?_ 0 _ rfl; (with_reducible repeat (first | refine blk_drewN ?_ _ | refine blk_drew ?_ | refine blk_alloc ?_ _)); exact BK116.out) Try.underlying27 rfl (by kernel_rfl)) rfl ?_
                                    exact ⟨_, by first | rfl | (simp [errW_none, errW_some] <;> rfl) | (simp [*, errW_none, errW_some] <;> rfl), by (with_reducible repeat (first | apply Kd.R_alloc | apply Kd.R_drewN | apply Kd.R_drew)); exact Kd.R_mono (Kd.R_far (p := ⟨gb116, 1, none⟩) (Kd.R_far (p := ⟨gb116, 0, none⟩) (Kd.R_types HO_154000.out BK116.out (by decide)) (fun _ hk => hk.2) (.slice Ao122 x154000_4.length co122)) (fun _ hk => hk.2) (.int .i64 x126000_3)) (fun _ hk => trivial), by repeat (first | (with_reducible first | exact HB.out | apply below_alloc | apply pw_below_drewN | apply below_drew1 | refine below_set ?_ GE116.out | refine below_set ?_ GE125.out | refine below_set ?_ GE153.out) | exact HB.out)⟩
                                  · replace c116 := Bool.eq_false_iff.mpr c116
                                    subst c116
                                    have H1 : (some (([] : List Int), 0, 14)) = some (r1, r2, r3) := by rw [if_neg (show ¬ (false = true) by decide)] at H; exact H
                                    clear H
                                    have H := H1
                                    clear H1
                                    simp only [Option.some.injEq, Prod.mk.injEq] at H
                                    obtain ⟨rfl, rfl, rfl⟩ := H
                                    have hnb124 := NB125_116.out
                                    have hnc124 := NB116_125.out
                                    have hnb125 := NB125_153.out
                                    have hnc125 := NB153_125.out
                                    have hcz126_0 : wr.cell? ⟨gb125, 0, none⟩ = some (.int .i64 x126000_3) := (blk_cell BK125.out 0).trans rfl
                                    have hcz126_1 : wr.cell? ⟨gb125, 1, none⟩ = some (.bool false) := (blk_cell BK125.out 1).trans rfl
                                    have hfz126_0 := blk_frozen BK125.out 0
                                    have hfz126_1 := blk_frozen BK125.out 1
                                    have hnb127 := NB116_153.out
                                    have hnc127 := NB153_116.out
                                    have hcz128_0 : wr.cell? ⟨gb116, 0, none⟩ = some (.slice none 0 0) := (blk_cell BK116.out 0).trans rfl
                                    have hcz128_1 : wr.cell? ⟨gb116, 1, none⟩ = some (.int .i64 x117001_4) := (blk_cell BK116.out 1).trans rfl
                                    have hfz128_0 := blk_frozen BK116.out 0
                                    have hfz128_1 := blk_frozen BK116.out 1
                                    go_wp2
                                    refine bodyPost_ret (results_ct rfl _ _ gb116 27 #[.slice none 0 0, .int .i64 0] (0, 0) _ rfl (by (with_reducible repeat (first | refine blk_drewN ?_ _ | refine blk_drew ?_ | refine blk_alloc ?_ _)); refine blk_put (cs := #[.slice none 0 0, .int .i64 x117001_4]) ?_ 1 _ rfl; (with_reducible repeat (first | refine blk_drewN ?_ _ | refine blk_drew ?_ | refine blk_alloc ?_ _)); refine blk_put (cs := #[.slice none 0 0, .int .i64 x117001_4]) ?_ 0 _ rfl; (with_reducible repeat (first | refine blk_drewN ?_ _ | refine blk_drew ?_ | refine blk_alloc ?_ _)); exact BK116.out) Try.underlying27 rfl (by kernel_rfl)) rfl ?_
                                    exact ⟨_, by first | rfl | (simp [errW_none, errW_some] <;> rfl) | (simp [*, errW_none, errW_some] <;> rfl), by first | exact Kd.R_nil _ _ _ _ _ | exact Kd.N_nil _ _ _ _ _ | exact Kd.V_nil _ _ _ _ _ | exact Kd.Q_nil _ _ _ _ _ | exact Kd.S_nil _ _ _ _ _, by repeat (first | (with_reducible first | exact HB.out | apply below_alloc | apply pw_below_drewN | apply below_drew1 | refine below_set ?_ GE116.out | refine below_set ?_ GE125.out | refine below_set ?_ GE153.out) | exact HB.out)⟩
                          · rw [if_neg c79] at H
                            exact absurd H (by simp)
                        · rw [if_neg c78] at H
                          exact absurd H (by simp)
          · rw [if_neg c11] at H
            exact absurd H (by simp)
        · rw [if_neg c10] at H
          exact absurd H (by simp)

end Go.Proofs.Ythfkajolockcgaa.QLinSound
