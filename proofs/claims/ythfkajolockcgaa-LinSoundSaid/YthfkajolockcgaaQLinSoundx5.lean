-- Written by a program of ours (tools/mkprint.py) over the kit's printing program, for the law LinSound: some functions' texts are ours.
import Derived.Test.YthfkajolockcgaaQLinSoundx0
import Derived.Test.YthfkajolockcgaaQLinSoundx3
import Derived.Test.YthfkajolockcgaaQLinSoundx4
namespace Go.Proofs.Ythfkajolockcgaa.QLinSound
open Go.RowKit Go.Proofs.YthfkajolockcgaaW.PrintWords Go.Proofs.YthfkajolockcgaaW.PrintLast Go.Proofs.YthfkajolockcgaaW.PrintMore
attribute [local go_sem] max2_int min2_int max_two min_two max_three min_three max_four min_four   -- for this text's walks alone
set_option linter.unusedVariables false
set_option linter.unusedSimpArgs false

/-! ### plimsolllaw14_LinSound: function 6 -/
mutual
def plimsolllaw14_LinSound.j0 : Nat → List (S27) → List Int → List Int → Bool → List Int → Int → Option (Bool)
  | 0, _, _, _, _, _, _ => none
  | k + 1, x0, x1, x3, x26, x189000, x189001 => if x26 = true then ((plimsolllaw14_awake.f k).bind fun t189 => (some t189)) else (plimsolllaw14_LinSound.l0 k x0 x1 x3 (([] : List Int)) 0 x189000 x189001)
def plimsolllaw14_LinSound.l0 : Nat → List (S27) → List Int → List Int → List Int → Int → List Int → Int → Option (Bool)
  | 0, _, _, _, _, _, _, _ => none
  | k + 1, x0, x1, x3, x9, x10, x189000, x189001 => if x10 < (x3.length : Int) then (if 0 ≤ x10 then (if x9.length < 17592186044416 then (plimsolllaw14_LinSound.l0 k x0 x1 x3 (x9 ++ [wrap64 (rd x3 x10)]) (wrap64 (x10 + 1)) x189000 x189001) else (none)) else (none)) else (plimsolllaw14_LinSound.l1 k x0 x1 x9 (([] : List Int)) 0 x189000 x189001)
def plimsolllaw14_LinSound.l1 : Nat → List (S27) → List Int → List Int → List Int → Int → List Int → Int → Option (Bool)
  | 0, _, _, _, _, _, _, _ => none
  | k + 1, x0, x1, x9, x11, x12, x189000, x189001 => if x12 < (x0.length : Int) then (if 0 ≤ x12 then (if (((rd_T27 x0 x12).f0).length : Int) = (x9.length : Int) then (if ((rd_T27 x0 x12).f1) > 1099511627776 then (plimsolllaw14_LinSound.j3 k x0 x1 x9 x11 x12 true x189000 x189001) else (plimsolllaw14_LinSound.j3 k x0 x1 x9 x11 x12 (decide (((rd_T27 x0 x12).f1) < (-1099511627776))) x189000 x189001)) else (plimsolllaw14_LinSound.j3 k x0 x1 x9 x11 x12 true x189000 x189001)) else (none)) else (if (x189000.length : Int) = (x9.length : Int) then ((lin_Proves.f k x0 x11 x189000 x189001).bind fun t221 => (plimsolllaw14_LinSound.j6 k x9 (!t221) x189000 x189001)) else (plimsolllaw14_LinSound.j6 k x9 true x189000 x189001))
def plimsolllaw14_LinSound.j3 : Nat → List (S27) → List Int → List Int → List Int → Int → Bool → List Int → Int → Option (Bool)
  | 0, _, _, _, _, _, _, _, _ => none
  | k + 1, x0, x1, x9, x11, x12, x74, x189000, x189001 => if x74 = true then ((plimsolllaw14_awake.f k).bind fun t203 => (some t203)) else (plimsolllaw14_LinSound.l2 k x0 x1 x9 x11 x12 0 x189000 x189001)
def plimsolllaw14_LinSound.l2 : Nat → List (S27) → List Int → List Int → List Int → Int → Int → List Int → Int → Option (Bool)
  | 0, _, _, _, _, _, _, _, _ => none
  | k + 1, x0, x1, x9, x11, x12, x13, x189000, x189001 => if x13 < (x9.length : Int) then (if 0 ≤ x12 then (if x12 < (x0.length : Int) then (if 0 ≤ x13 then (if x13 < (((rd_T27 x0 x12).f0).length : Int) then (if (rd ((rd_T27 x0 x12).f0) x13) > 1048576 then ((plimsolllaw14_awake.f k).bind fun t206 => (some t206)) else (if (rd ((rd_T27 x0 x12).f0) x13) < (-1048576) then ((plimsolllaw14_awake.f k).bind fun t209 => (some t209)) else (plimsolllaw14_LinSound.l2 k x0 x1 x9 x11 x12 (wrap64 (x13 + 1)) x189000 x189001))) else (none)) else (none)) else (none)) else (none)) else (if 0 ≤ x12 then (if x12 < (x0.length : Int) then ((lin_Holds.f k ((rd_T27 x0 x12).f0) ((rd_T27 x0 x12).f1) x9).bind fun bt211 => (if bt211.2 = 0 then (plimsolllaw14_LinSound.j5 k x0 x1 x9 x11 x12 bt211.2 (!bt211.1) x189000 x189001) else (plimsolllaw14_LinSound.j5 k x0 x1 x9 x11 x12 bt211.2 true x189000 x189001))) else (none)) else (none))
def plimsolllaw14_LinSound.j5 : Nat → List (S27) → List Int → List Int → List Int → Int → Int → Bool → List Int → Int → Option (Bool)
  | 0, _, _, _, _, _, _, _, _, _ => none
  | k + 1, x0, x1, x9, x11, x12, x15, x117, x189000, x189001 => if x117 = true then ((plimsolllaw14_awake.f k).bind fun t213 => (if t213 = true then (some (x15 == 0)) else (some false))) else (if x12 < (x1.length : Int) then (if 0 ≤ x12 then (if x11.length < 17592186044416 then (plimsolllaw14_LinSound.l1 k x0 x1 x9 (x11 ++ [wrap64 (rd x1 x12)]) (wrap64 (x12 + 1)) x189000 x189001) else (none)) else (none)) else (if x11.length < 17592186044416 then (plimsolllaw14_LinSound.l1 k x0 x1 x9 (x11 ++ [0]) (wrap64 (x12 + 1)) x189000 x189001) else (none)))
def plimsolllaw14_LinSound.j6 : Nat → List Int → Bool → List Int → Int → Option (Bool)
  | 0, _, _, _, _ => none
  | k + 1, x9, x148, x189000, x189001 => if x148 = true then ((plimsolllaw14_awake.f k).bind fun t222 => (some t222)) else ((lin_Holds.f k x189000 x189001 x9).bind fun bt223 => ((plimsolllaw14_awake.f k).bind fun t225 => (if t225 = true then (if bt223.2 = 0 then (some bt223.1) else (some false)) else (some false))))
end
def plimsolllaw14_LinSound.f (k : Nat) (l0 : List (S27)) (l1 : List Int) (l2_0 : List Int) (a2_1 : Int) (l3 : List Int) : Option (Bool) := if (l0.length : Int) > 20 then (plimsolllaw14_LinSound.j0 k l0 l1 l3 true l2_0 a2_1) else (plimsolllaw14_LinSound.j0 k l0 l1 l3 (decide ((l3.length : Int) > 20)) l2_0 a2_1)
theorem plimsolllaw14_LinSound.mono_l : ∀ k, (∀ y0 y1 y2 y3 y4 y5, LeO (plimsolllaw14_LinSound.j0 k y0 y1 y2 y3 y4 y5) (plimsolllaw14_LinSound.j0 (k + 1) y0 y1 y2 y3 y4 y5)) ∧ (∀ y0 y1 y2 y3 y4 y5 y6, LeO (plimsolllaw14_LinSound.l0 k y0 y1 y2 y3 y4 y5 y6) (plimsolllaw14_LinSound.l0 (k + 1) y0 y1 y2 y3 y4 y5 y6)) ∧ (∀ y0 y1 y2 y3 y4 y5 y6, LeO (plimsolllaw14_LinSound.l1 k y0 y1 y2 y3 y4 y5 y6) (plimsolllaw14_LinSound.l1 (k + 1) y0 y1 y2 y3 y4 y5 y6)) ∧ (∀ y0 y1 y2 y3 y4 y5 y6 y7, LeO (plimsolllaw14_LinSound.j3 k y0 y1 y2 y3 y4 y5 y6 y7) (plimsolllaw14_LinSound.j3 (k + 1) y0 y1 y2 y3 y4 y5 y6 y7)) ∧ (∀ y0 y1 y2 y3 y4 y5 y6 y7, LeO (plimsolllaw14_LinSound.l2 k y0 y1 y2 y3 y4 y5 y6 y7) (plimsolllaw14_LinSound.l2 (k + 1) y0 y1 y2 y3 y4 y5 y6 y7)) ∧ (∀ y0 y1 y2 y3 y4 y5 y6 y7 y8, LeO (plimsolllaw14_LinSound.j5 k y0 y1 y2 y3 y4 y5 y6 y7 y8) (plimsolllaw14_LinSound.j5 (k + 1) y0 y1 y2 y3 y4 y5 y6 y7 y8)) ∧ (∀ y0 y1 y2 y3, LeO (plimsolllaw14_LinSound.j6 k y0 y1 y2 y3) (plimsolllaw14_LinSound.j6 (k + 1) y0 y1 y2 y3))
  | 0 => ⟨fun _ _ _ _ _ _ r h => by simp [plimsolllaw14_LinSound.j0] at h, fun _ _ _ _ _ _ _ r h => by simp [plimsolllaw14_LinSound.l0] at h, fun _ _ _ _ _ _ _ r h => by simp [plimsolllaw14_LinSound.l1] at h, fun _ _ _ _ _ _ _ _ r h => by simp [plimsolllaw14_LinSound.j3] at h, fun _ _ _ _ _ _ _ _ r h => by simp [plimsolllaw14_LinSound.l2] at h, fun _ _ _ _ _ _ _ _ _ r h => by simp [plimsolllaw14_LinSound.j5] at h, fun _ _ _ _ r h => by simp [plimsolllaw14_LinSound.j6] at h⟩
  | k + 1 => by
    obtain ⟨ih0, ih1, ih2, ih3, ih4, ih5, ih6⟩ := plimsolllaw14_LinSound.mono_l k
    refine ⟨?_, ?_, ?_, ?_, ?_, ?_, ?_⟩
    · intro y0 y1 y2 y3 y4 y5
      unfold plimsolllaw14_LinSound.j0
      repeat' first
      | (with_reducible exact ih0 _ _ _ _ _ _)
      | (with_reducible exact ih1 _ _ _ _ _ _ _)
      | (with_reducible exact ih2 _ _ _ _ _ _ _)
      | (with_reducible exact ih3 _ _ _ _ _ _ _ _)
      | (with_reducible exact ih4 _ _ _ _ _ _ _ _)
      | (with_reducible exact ih5 _ _ _ _ _ _ _ _ _)
      | (with_reducible exact ih6 _ _ _ _)
      | (with_reducible exact lin_Holds.mono _ _ _ _)
      | (with_reducible exact lin_Proves.mono _ _ _ _ _)
      | (with_reducible exact plimsolllaw14_awake.mono _)
      | (with_reducible exact LeO.refl _)
      | (with_reducible exact LeO.none _)
      | (with_reducible refine LeO.ite ?_ ?_)
      | (with_reducible refine LeO.bind ?_ (fun _ => ?_))
      | exact ih0 _ _ _ _ _ _
      | exact ih1 _ _ _ _ _ _ _
      | exact ih2 _ _ _ _ _ _ _
      | exact ih3 _ _ _ _ _ _ _ _
      | exact ih4 _ _ _ _ _ _ _ _
      | exact ih5 _ _ _ _ _ _ _ _ _
      | exact ih6 _ _ _ _
      | exact lin_Holds.mono _ _ _ _
      | exact lin_Proves.mono _ _ _ _ _
      | exact plimsolllaw14_awake.mono _
      | exact LeO.none _
      | refine LeO.ite ?_ ?_
      | refine LeO.bind ?_ (fun _ => ?_)
    · intro y0 y1 y2 y3 y4 y5 y6
      unfold plimsolllaw14_LinSound.l0
      repeat' first
      | (with_reducible exact ih0 _ _ _ _ _ _)
      | (with_reducible exact ih1 _ _ _ _ _ _ _)
      | (with_reducible exact ih2 _ _ _ _ _ _ _)
      | (with_reducible exact ih3 _ _ _ _ _ _ _ _)
      | (with_reducible exact ih4 _ _ _ _ _ _ _ _)
      | (with_reducible exact ih5 _ _ _ _ _ _ _ _ _)
      | (with_reducible exact ih6 _ _ _ _)
      | (with_reducible exact lin_Holds.mono _ _ _ _)
      | (with_reducible exact lin_Proves.mono _ _ _ _ _)
      | (with_reducible exact plimsolllaw14_awake.mono _)
      | (with_reducible exact LeO.refl _)
      | (with_reducible exact LeO.none _)
      | (with_reducible refine LeO.ite ?_ ?_)
      | (with_reducible refine LeO.bind ?_ (fun _ => ?_))
      | exact ih0 _ _ _ _ _ _
      | exact ih1 _ _ _ _ _ _ _
      | exact ih2 _ _ _ _ _ _ _
      | exact ih3 _ _ _ _ _ _ _ _
      | exact ih4 _ _ _ _ _ _ _ _
      | exact ih5 _ _ _ _ _ _ _ _ _
      | exact ih6 _ _ _ _
      | exact lin_Holds.mono _ _ _ _
      | exact lin_Proves.mono _ _ _ _ _
      | exact plimsolllaw14_awake.mono _
      | exact LeO.none _
      | refine LeO.ite ?_ ?_
      | refine LeO.bind ?_ (fun _ => ?_)
    · intro y0 y1 y2 y3 y4 y5 y6
      unfold plimsolllaw14_LinSound.l1
      repeat' first
      | (with_reducible exact ih0 _ _ _ _ _ _)
      | (with_reducible exact ih1 _ _ _ _ _ _ _)
      | (with_reducible exact ih2 _ _ _ _ _ _ _)
      | (with_reducible exact ih3 _ _ _ _ _ _ _ _)
      | (with_reducible exact ih4 _ _ _ _ _ _ _ _)
      | (with_reducible exact ih5 _ _ _ _ _ _ _ _ _)
      | (with_reducible exact ih6 _ _ _ _)
      | (with_reducible exact lin_Holds.mono _ _ _ _)
      | (with_reducible exact lin_Proves.mono _ _ _ _ _)
      | (with_reducible exact plimsolllaw14_awake.mono _)
      | (with_reducible exact LeO.refl _)
      | (with_reducible exact LeO.none _)
      | (with_reducible refine LeO.ite ?_ ?_)
      | (with_reducible refine LeO.bind ?_ (fun _ => ?_))
      | exact ih0 _ _ _ _ _ _
      | exact ih1 _ _ _ _ _ _ _
      | exact ih2 _ _ _ _ _ _ _
      | exact ih3 _ _ _ _ _ _ _ _
      | exact ih4 _ _ _ _ _ _ _ _
      | exact ih5 _ _ _ _ _ _ _ _ _
      | exact ih6 _ _ _ _
      | exact lin_Holds.mono _ _ _ _
      | exact lin_Proves.mono _ _ _ _ _
      | exact plimsolllaw14_awake.mono _
      | exact LeO.none _
      | refine LeO.ite ?_ ?_
      | refine LeO.bind ?_ (fun _ => ?_)
    · intro y0 y1 y2 y3 y4 y5 y6 y7
      unfold plimsolllaw14_LinSound.j3
      repeat' first
      | (with_reducible exact ih0 _ _ _ _ _ _)
      | (with_reducible exact ih1 _ _ _ _ _ _ _)
      | (with_reducible exact ih2 _ _ _ _ _ _ _)
      | (with_reducible exact ih3 _ _ _ _ _ _ _ _)
      | (with_reducible exact ih4 _ _ _ _ _ _ _ _)
      | (with_reducible exact ih5 _ _ _ _ _ _ _ _ _)
      | (with_reducible exact ih6 _ _ _ _)
      | (with_reducible exact lin_Holds.mono _ _ _ _)
      | (with_reducible exact lin_Proves.mono _ _ _ _ _)
      | (with_reducible exact plimsolllaw14_awake.mono _)
      | (with_reducible exact LeO.refl _)
      | (with_reducible exact LeO.none _)
      | (with_reducible refine LeO.ite ?_ ?_)
      | (with_reducible refine LeO.bind ?_ (fun _ => ?_))
      | exact ih0 _ _ _ _ _ _
      | exact ih1 _ _ _ _ _ _ _
      | exact ih2 _ _ _ _ _ _ _
      | exact ih3 _ _ _ _ _ _ _ _
      | exact ih4 _ _ _ _ _ _ _ _
      | exact ih5 _ _ _ _ _ _ _ _ _
      | exact ih6 _ _ _ _
      | exact lin_Holds.mono _ _ _ _
      | exact lin_Proves.mono _ _ _ _ _
      | exact plimsolllaw14_awake.mono _
      | exact LeO.none _
      | refine LeO.ite ?_ ?_
      | refine LeO.bind ?_ (fun _ => ?_)
    · intro y0 y1 y2 y3 y4 y5 y6 y7
      unfold plimsolllaw14_LinSound.l2
      repeat' first
      | (with_reducible exact ih0 _ _ _ _ _ _)
      | (with_reducible exact ih1 _ _ _ _ _ _ _)
      | (with_reducible exact ih2 _ _ _ _ _ _ _)
      | (with_reducible exact ih3 _ _ _ _ _ _ _ _)
      | (with_reducible exact ih4 _ _ _ _ _ _ _ _)
      | (with_reducible exact ih5 _ _ _ _ _ _ _ _ _)
      | (with_reducible exact ih6 _ _ _ _)
      | (with_reducible exact lin_Holds.mono _ _ _ _)
      | (with_reducible exact lin_Proves.mono _ _ _ _ _)
      | (with_reducible exact plimsolllaw14_awake.mono _)
      | (with_reducible exact LeO.refl _)
      | (with_reducible exact LeO.none _)
      | (with_reducible refine LeO.ite ?_ ?_)
      | (with_reducible refine LeO.bind ?_ (fun _ => ?_))
      | exact ih0 _ _ _ _ _ _
      | exact ih1 _ _ _ _ _ _ _
      | exact ih2 _ _ _ _ _ _ _
      | exact ih3 _ _ _ _ _ _ _ _
      | exact ih4 _ _ _ _ _ _ _ _
      | exact ih5 _ _ _ _ _ _ _ _ _
      | exact ih6 _ _ _ _
      | exact lin_Holds.mono _ _ _ _
      | exact lin_Proves.mono _ _ _ _ _
      | exact plimsolllaw14_awake.mono _
      | exact LeO.none _
      | refine LeO.ite ?_ ?_
      | refine LeO.bind ?_ (fun _ => ?_)
    · intro y0 y1 y2 y3 y4 y5 y6 y7 y8
      unfold plimsolllaw14_LinSound.j5
      repeat' first
      | (with_reducible exact ih0 _ _ _ _ _ _)
      | (with_reducible exact ih1 _ _ _ _ _ _ _)
      | (with_reducible exact ih2 _ _ _ _ _ _ _)
      | (with_reducible exact ih3 _ _ _ _ _ _ _ _)
      | (with_reducible exact ih4 _ _ _ _ _ _ _ _)
      | (with_reducible exact ih5 _ _ _ _ _ _ _ _ _)
      | (with_reducible exact ih6 _ _ _ _)
      | (with_reducible exact lin_Holds.mono _ _ _ _)
      | (with_reducible exact lin_Proves.mono _ _ _ _ _)
      | (with_reducible exact plimsolllaw14_awake.mono _)
      | (with_reducible exact LeO.refl _)
      | (with_reducible exact LeO.none _)
      | (with_reducible refine LeO.ite ?_ ?_)
      | (with_reducible refine LeO.bind ?_ (fun _ => ?_))
      | exact ih0 _ _ _ _ _ _
      | exact ih1 _ _ _ _ _ _ _
      | exact ih2 _ _ _ _ _ _ _
      | exact ih3 _ _ _ _ _ _ _ _
      | exact ih4 _ _ _ _ _ _ _ _
      | exact ih5 _ _ _ _ _ _ _ _ _
      | exact ih6 _ _ _ _
      | exact lin_Holds.mono _ _ _ _
      | exact lin_Proves.mono _ _ _ _ _
      | exact plimsolllaw14_awake.mono _
      | exact LeO.none _
      | refine LeO.ite ?_ ?_
      | refine LeO.bind ?_ (fun _ => ?_)
    · intro y0 y1 y2 y3
      unfold plimsolllaw14_LinSound.j6
      repeat' first
      | (with_reducible exact ih0 _ _ _ _ _ _)
      | (with_reducible exact ih1 _ _ _ _ _ _ _)
      | (with_reducible exact ih2 _ _ _ _ _ _ _)
      | (with_reducible exact ih3 _ _ _ _ _ _ _ _)
      | (with_reducible exact ih4 _ _ _ _ _ _ _ _)
      | (with_reducible exact ih5 _ _ _ _ _ _ _ _ _)
      | (with_reducible exact ih6 _ _ _ _)
      | (with_reducible exact lin_Holds.mono _ _ _ _)
      | (with_reducible exact lin_Proves.mono _ _ _ _ _)
      | (with_reducible exact plimsolllaw14_awake.mono _)
      | (with_reducible exact LeO.refl _)
      | (with_reducible exact LeO.none _)
      | (with_reducible refine LeO.ite ?_ ?_)
      | (with_reducible refine LeO.bind ?_ (fun _ => ?_))
      | exact ih0 _ _ _ _ _ _
      | exact ih1 _ _ _ _ _ _ _
      | exact ih2 _ _ _ _ _ _ _
      | exact ih3 _ _ _ _ _ _ _ _
      | exact ih4 _ _ _ _ _ _ _ _
      | exact ih5 _ _ _ _ _ _ _ _ _
      | exact ih6 _ _ _ _
      | exact lin_Holds.mono _ _ _ _
      | exact lin_Proves.mono _ _ _ _ _
      | exact plimsolllaw14_awake.mono _
      | exact LeO.none _
      | refine LeO.ite ?_ ?_
      | refine LeO.bind ?_ (fun _ => ?_)
theorem plimsolllaw14_LinSound.mono : ∀ a0 a1 a2 a3 a4 k, LeO (plimsolllaw14_LinSound.f k a0 a1 a2 a3 a4) (plimsolllaw14_LinSound.f (k + 1) a0 a1 a2 a3 a4) := by
  intro a0 a1 a2 a3 a4 k
  obtain ⟨ih0, ih1, ih2, ih3, ih4, ih5, ih6⟩ := plimsolllaw14_LinSound.mono_l k
  unfold plimsolllaw14_LinSound.f
  repeat' first
      | (with_reducible exact ih0 _ _ _ _ _ _)
      | (with_reducible exact ih1 _ _ _ _ _ _ _)
      | (with_reducible exact ih2 _ _ _ _ _ _ _)
      | (with_reducible exact ih3 _ _ _ _ _ _ _ _)
      | (with_reducible exact ih4 _ _ _ _ _ _ _ _)
      | (with_reducible exact ih5 _ _ _ _ _ _ _ _ _)
      | (with_reducible exact ih6 _ _ _ _)
      | (with_reducible exact lin_Holds.mono _ _ _ _)
      | (with_reducible exact lin_Proves.mono _ _ _ _ _)
      | (with_reducible exact plimsolllaw14_awake.mono _)
      | (with_reducible exact LeO.refl _)
      | (with_reducible exact LeO.none _)
      | (with_reducible refine LeO.ite ?_ ?_)
      | (with_reducible refine LeO.bind ?_ (fun _ => ?_))
      | exact ih0 _ _ _ _ _ _
      | exact ih1 _ _ _ _ _ _ _
      | exact ih2 _ _ _ _ _ _ _
      | exact ih3 _ _ _ _ _ _ _ _
      | exact ih4 _ _ _ _ _ _ _ _
      | exact ih5 _ _ _ _ _ _ _ _ _
      | exact ih6 _ _ _ _
      | exact lin_Holds.mono _ _ _ _
      | exact lin_Proves.mono _ _ _ _ _
      | exact plimsolllaw14_awake.mono _
      | exact LeO.none _
      | refine LeO.ite ?_ ?_
      | refine LeO.bind ?_ (fun _ => ?_)
set_option maxHeartbeats 8000000 in
set_option maxRecDepth 100000 in
theorem plimsolllaw14_LinSound.calls (k : Nat) (A0 : Option Addr) (c0 : Nat) (l0 : List (S27)) (A1 : Option Addr) (c1 : Nat) (l1 : List Int) (A2_0 : Option Addr) (c2_0 : Nat) (l2_0 : List Int) (a2_1 : Int) (A3 : Option Addr) (c3 : Nat) (l3 : List Int) (r : Bool) (w : World) (hr0 : Kd.C k27 w A0 l0.length l0) (hc0 : l0.length ≤ c0) (hr1 : Kd.C (Kd.int .u8) w A1 l1.length l1) (hc1 : l1.length ≤ c1) (hr2_0 : Kd.C (Kd.int .i64) w A2_0 l2_0.length l2_0) (hc2_0 : l2_0.length ≤ c2_0) (hr3 : Kd.C (Kd.int .i16) w A3 l3.length l3) (hc3 : l3.length ≤ c3) (h : plimsolllaw14_LinSound.f k l0 l1 l2_0 a2_1 l3 = some r) :
    Calls Try.prog 6 #[.slice A0 l0.length c0, .slice A1 l1.length c1, .agg #[.slice A2_0 l2_0.length c2_0, .int .i64 a2_1], .slice A3 l3.length c3] w fun e w' => e = .returned (.bool r) ∧ Below w.heap.size w w' := by
  have hu27 := Try.underlying27
  have HR0 := Aside0.mk hr0
  have HC0 := Aside0.mk hc0
  clear hr0 hc0
  have HR1 := Aside0.mk hr1
  have HC1 := Aside0.mk hc1
  clear hr1 hc1
  have HR2_0 := Aside0.mk hr2_0
  have HC2_0 := Aside0.mk hc2_0
  clear hr2_0 hc2_0
  have HR3 := Aside0.mk hr3
  have HC3 := Aside0.mk hc3
  clear hr3 hc3
  have HB := Aside0.mk (Below.refl w.heap.size w)
  have H : (if (l0.length : Int) > 20 then (plimsolllaw14_LinSound.j0 k l0 l1 l3 true l2_0 a2_1) else (plimsolllaw14_LinSound.j0 k l0 l1 l3 (decide ((l3.length : Int) > 20)) l2_0 a2_1)) = some r := h
  clear h
  have HC5 := Aside0.mk H
  clear H
  go_enter Try.func6, Try.ntmps6
  go_upto_region 1 with (first | ((with_reducible refine gate_dst (N := 6) rfl ?_); (try (refine gate_guard (by rfl) ?_; dsimp only)); refine box_event ?hg (N := 6) ?hd (cs := #[.slice A2_0 l2_0.length c2_0, .int .i64 a2_1]) (t := 27) ?hr ?_; (case hd => rfl); (case hg => rfl); (case hr => first | (go_simp; done) | (go_simp; rfl)); intro gb188 hg w6 hbox hb; have n0_ := Aside0.mk (below_step (by repeat (first | (with_reducible first | exact HB.out | apply below_alloc | apply pw_below_drewN | apply below_drew1) | exact HB.out)) hb); have n1_ := Aside0.mk (hbox); have n2_ := Aside0.mk ((by rw [hg]; exact (below_size (by repeat (first | (with_reducible first | exact HB.out | apply below_alloc | apply pw_below_drewN | apply below_drew1) | exact HB.out))) : w.heap.size ≤ gb188)); have n3_ := Aside0.mk ((by rw [hg]; exact (below_size (by repeat (first | (with_reducible first | exact HB.out | apply below_alloc | apply pw_below_drewN | apply below_drew1) | exact HB.out))) : w.heap.size ≤ gb188)); clear HB; have HB := n0_; have BK188 := n1_; have GW188 := n2_; have GE188 := n3_; clear n0_ n1_ n2_ n3_; clear hb hbox hg))
  (try simp only [Act.put, List.setIfInBounds_toArray, List.set_cons_zero, List.set_cons_succ])
  go_cut [26] (fun v26 wc => ∃ (kq : Nat) (x26_4 : Bool), v26 = .bool x26_4 ∧ Aside0 (plimsolllaw14_LinSound.j0 kq l0 l1 l3 x26_4 l2_0 a2_1 = some r) ∧ Aside0 (kq ≤ k) ∧ Aside0 (wc.heap[gb188]? = some (.cells #[(.slice A2_0 l2_0.length c2_0), .int .i64 a2_1] 27 (0, 0))) ∧ Aside0 (Below w.heap.size w wc))
  case first =>
    have H := HC5.out
    clear HC5
    by_cases c7 : (l0.length : Int) > 20
    · rw [if_pos c7] at H
      have c7b0 : decide (20 < (l0.length : Int)) = true := decide_eq_true c7
      have c7b1 : decide (20 < l0.length) = true := decide_eq_true (by omega)
      clear c7
      (first | rw [c7b0] | (simp only [i64_w, i32_w]; rw [c7b0]) | skip)
      have H' := Aside0.mk H
      clear H
      go_wp2
      go_meet
      case rel => exact ⟨_, (true), (by first | rfl | (simp; done) | (simp [*]; done)), H', ⟨by first | omega | exact Nat.le_refl _⟩, ⟨by (with_reducible repeat (first | refine blk_drewN ?_ _ | refine blk_drew ?_ | refine blk_alloc ?_ _)); exact BK188.out⟩, ⟨by repeat (first | (with_reducible first | exact HB.out | apply below_alloc | apply pw_below_drewN | apply below_drew1 | refine below_set ?_ GE188.out) | exact HB.out)⟩⟩
    · rw [if_neg c7] at H
      have c7b0 : decide (20 < (l0.length : Int)) = false := decide_eq_false c7
      have c7b1 : decide (20 < l0.length) = false := decide_eq_false (by omega)
      clear c7
      (first | rw [c7b0] | (simp only [i64_w, i32_w]; rw [c7b0]) | skip)
      have H' := Aside0.mk H
      clear H
      go_wp2
      go_meet
      case rel => exact ⟨_, (decide ((l3.length : Int) > 20)), (by first | rfl | (simp; done) | (simp [*]; done)), H', ⟨by first | omega | exact Nat.le_refl _⟩, ⟨by (with_reducible repeat (first | refine blk_drewN ?_ _ | refine blk_drew ?_ | refine blk_alloc ?_ _)); exact BK188.out⟩, ⟨by repeat (first | (with_reducible first | exact HB.out | apply below_alloc | apply pw_below_drewN | apply below_drew1 | refine below_set ?_ GE188.out) | exact HB.out)⟩⟩
  case rest =>
    clear HC5
    try clear c1
    try clear c2
    try clear p2
    try clear c3
    try clear c6
    try clear c7
    try clear c7b0
    try clear c7b1
    obtain ⟨kq, x26_4, rfl, HA, HJ4, BK188, HB⟩ := hcut
    cases kq with
    | zero => exact absurd HA.out (by simp [plimsolllaw14_LinSound.j0])
    | succ kj4 =>
      have H := HA.out
      clear HA
      simp only [plimsolllaw14_LinSound.j0] at H
      by_cases c8 : x26_4 = true
      · subst c8
        have H1 : ((plimsolllaw14_awake.f kj4).bind fun t189 => (some t189)) = some r := by rw [if_pos rfl] at H; exact H
        clear H
        have H := H1
        clear H1
        replace H := Option.bind_eq_some_iff.mp H
        obtain ⟨t189, A90, H⟩ := H
        replace H : (some t189) = some r := H
        have A9 := Aside0.mk A90
        clear A90
        obtain rfl := Option.some.inj H
        go_wp2_with (first | ((with_reducible refine gate_callee (f := 10) rfl ?_); refine goesL_ (some 27) rfl rfl Try.func10 (by kernel_rfl) rfl #[] rfl (by (try simp only [List.map_toArray, List.map_cons, List.map_nil]); first | done | rfl | (simp only [List.length_drop, List.length_take]; rfl)) ?_; (with_reducible refine (plimsolllaw14_awake.calls kj4  t189 _ A9.out).mono ?_); rintro e w10 ⟨rfl, hb⟩; refine ⟨_, rfl, ?_⟩; have n0_ := Aside0.mk (blk_below (g := gb188) (o := .cells #[.slice A2_0 l2_0.length c2_0, .int .i64 a2_1] 27 (0, 0)) (by (with_reducible repeat (first | refine blk_drewN ?_ _ | refine blk_drew ?_ | refine blk_alloc ?_ _)); exact BK188.out) hb); have n1_ := Aside0.mk (below_step (by repeat (first | (with_reducible first | exact HB.out | apply below_alloc | apply pw_below_drewN | apply below_drew1 | refine below_set ?_ GE188.out) | exact HB.out)) hb); clear BK188; clear HB; have BK188 := n0_; have HB := n1_; clear n0_ n1_; (try clear hb); (try clear hb2); (try clear hk); (try clear hi)))
        go_ret
        exact ⟨by first | rfl | (simp [errW_none, errW_some] <;> rfl) | (simp [*, errW_none, errW_some] <;> rfl), by repeat (first | (with_reducible first | exact HB.out | apply below_alloc | apply pw_below_drewN | apply below_drew1 | refine below_set ?_ GE188.out) | exact HB.out)⟩
      · replace c8 := Bool.eq_false_iff.mpr c8
        subst c8
        have H1 : (plimsolllaw14_LinSound.l0 kj4 l0 l1 l3 (([] : List Int)) 0 l2_0 a2_1) = some r := by rw [if_neg (show ¬ (false = true) by decide)] at H; exact H
        clear H
        have H := H1
        clear H1
        obtain ⟨y190, hy190⟩ : ∃ y_ : List Int, y_ = (([] : List Int)) := ⟨_, rfl⟩
        replace H : (plimsolllaw14_LinSound.l0 kj4 l0 l1 l3 y190 0 l2_0 a2_1) = some r := by first | (rw [hy190]; with_reducible exact H) | (have H2_ := (Option.bind_some _ _).symm.trans H; rw [hy190]; with_reducible exact H2_) | (have H2_ := (Option.bind_some _ _).symm.trans H; with_reducible exact H2_) | with_reducible exact H | (rw [hy190]; exact H) | exact H
        have Ny190 := Aside0.mk hy190
        clear hy190
        have H' := Aside0.mk H
        clear H
        go_wp2_with (first | ((with_reducible refine gate_dst (N := 28) rfl ?_); (try (refine gate_guard (by rfl) ?_; dsimp only)); refine Kd.R_lit (Kd.int .i64) _ 3 ?hg (N := 28) ?hd (xs := ([] : List Int)) (inner := []) (ok := fun _ => True) (okp := fun _ => True) ?hr ?hp (fun _ hk => hk) trivial (Below.refl _ _) (Nat.le_refl _) (by simp) ?_; (case hd => rfl); (case hg => rfl); (case hr => first | (go_simp; done) | (go_simp; rfl)); (case hp => exact (Reps.none _ _)); intro v191 w11 ho12 hb hg_ hnew_; clear hg_ hnew_; (first | rw [← Ny190.out] at ho12 | (simp only [Int.reduceToNat] at ho12; rw [← Ny190.out] at ho12)); have n0_ := Aside0.mk (Kd.R_lower ho12 (below_size (by repeat (first | (with_reducible first | exact HB.out | apply below_alloc | apply pw_below_drewN | apply below_drew1 | refine below_set ?_ GE188.out) | exact HB.out)))); have n1_ := Aside0.mk (blk_below (g := gb188) (o := .cells #[.slice A2_0 l2_0.length c2_0, .int .i64 a2_1] 27 (0, 0)) (by (with_reducible repeat (first | refine blk_drewN ?_ _ | refine blk_drew ?_ | refine blk_alloc ?_ _)); exact BK188.out) hb); have n2_ := Aside0.mk (below_step (by repeat (first | (with_reducible first | exact HB.out | apply below_alloc | apply pw_below_drewN | apply below_drew1 | refine below_set ?_ GE188.out) | exact HB.out)) hb); clear BK188; clear HB; have HO192 := n0_; have BK188 := n1_; have HB := n2_; clear n0_ n1_ n2_; clear hb ho12))
        go_loopg [9, 10] kj4 (fun kq v9 v10 w' => ∃ (x9_2 : List Int) (x10_2 : Int), v10 = .int .i64 x10_2 ∧ Aside0 (plimsolllaw14_LinSound.l0 kq l0 l1 l3 x9_2 x10_2 l2_0 a2_1 = some r) ∧ Aside0 (kq ≤ kj4) ∧ Aside0 (Kd.R (Kd.int .i64) 3 w' w.heap.size (fun _ => True) v9 x9_2) ∧ Aside0 (w'.heap[gb188]? = some (.cells #[(.slice A2_0 l2_0.length c2_0), .int .i64 a2_1] 27 (0, 0))) ∧ Aside0 (Below w.heap.size w w'))
        case atStart => exact ⟨(y190), (0), (by first | rfl | (simp; done) | (simp [*]; done)), H', ⟨Nat.le_refl _⟩, ⟨by (with_reducible repeat (first | apply Kd.R_alloc | apply Kd.R_drewN | apply Kd.R_drew)); exact HO192.out⟩, ⟨by (with_reducible repeat (first | refine blk_drewN ?_ _ | refine blk_drew ?_ | refine blk_alloc ?_ _)); exact BK188.out⟩, ⟨by repeat (first | (with_reducible first | exact HB.out | apply below_alloc | apply pw_below_drewN | apply below_drew1 | refine below_set ?_ GE188.out) | exact HB.out)⟩⟩
        case round =>
          clear H'
          try clear c1
          try clear c2
          try clear p2
          try clear c3
          try clear c6
          try clear c7
          try clear c7b0
          try clear c7b1
          try clear c8
          try clear c10
          try clear p2
          obtain ⟨x9_2, x10_2, rfl, HA, HK2, HO_9, BK188, HB⟩ := hrel
          cases gk with
          | zero => exact absurd HA.out (by simp [plimsolllaw14_LinSound.l0])
          | succ k2 =>
            have H := HA.out
            clear HA
            simp only [plimsolllaw14_LinSound.l0] at H
            by_cases c13 : x10_2 < (l3.length : Int)
            · rw [if_pos c13] at H
              have c13b0 : decide (x10_2 < (l3.length : Int)) = true := decide_eq_true c13
              clear c13
              by_cases c14 : 0 ≤ x10_2
              · rw [if_pos c14] at H
                have c14b0 : decide (0 ≤ x10_2) = true := decide_eq_true c14
                clear c14
                by_cases c15 : x9_2.length < 17592186044416
                · rw [if_pos c15] at H
                  have LMc15 := Aside0.mk c15
                  clear c15
                  obtain ⟨y194, hy194⟩ : ∃ y_ : List Int, y_ = (x9_2 ++ [wrap64 (rd l3 x10_2)]) := ⟨_, rfl⟩
                  replace H : (plimsolllaw14_LinSound.l0 k2 l0 l1 l3 y194 (wrap64 (x10_2 + 1)) l2_0 a2_1) = some r := by first | (rw [hy194]; with_reducible exact H) | (have H2_ := (Option.bind_some _ _).symm.trans H; rw [hy194]; with_reducible exact H2_) | (have H2_ := (Option.bind_some _ _).symm.trans H; with_reducible exact H2_) | with_reducible exact H | (rw [hy194]; exact H) | exact H
                  have Ny194 := Aside0.mk hy194
                  clear hy194
                  have H' := Aside0.mk H
                  clear H
                  have p193 : 0 ≤ (x10_2 : Int) := of_decide_eq_true (by first | (with_reducible assumption) | assumption)
                  have q193 : x10_2 < (l3.length : Int) := of_decide_eq_true (by first | (with_reducible assumption) | assumption)
                  obtain ⟨ad193, e193, hx193_0⟩ := Kd.at_int HR3.out x10_2 p193 q193
                  cases e193
                  replace hx193_0 := (HB.out.cell (World.block_lt_of_cell? w _ hx193_0)).trans hx193_0
                  replace p193 := eq_true p193
                  replace q193 := eq_true q193
                  go_wp2_with (first | ((with_reducible refine gate_builtin (b := .append) (xs := #[.tmp 35, .tmp 41]) rfl ?_); (try (refine gate_guard (by rfl) ?_; dsimp only)); at_builtin; refine Kd.R_append (Kd.int .i64) (w0 := w) w.heap.size rfl (.tmp 35) (.tmp 41) 23 3 (.int .i64 0) 8 rfl Try.underlying23 info3 rfl (by decide) (by omega) u9 x9_2 (wrap64 (rd l3 x10_2)) [.int .i64 (wrap64 (rd l3 x10_2))] (fun _ => True) (fun _ => False) rfl rfl ?aP (fun _ hk => hk.elim) ?aF ?aO ?aB ?aS ?aL ?_; (case aP => exact rfl); (case aB => exact (by repeat (first | (with_reducible first | exact HB.out | apply below_alloc | apply pw_below_drewN | apply below_drew1 | refine below_set ?_ GE188.out) | exact HB.out))); (case aF => exact (fun _ _ => trivial)); (case aO => exact (by (with_reducible repeat (first | apply Kd.R_alloc | apply Kd.R_drewN | apply Kd.R_drew)); exact HO_9.out)); (case aS => exact (below_size (by repeat (first | (with_reducible first | exact HB.out | apply below_alloc | apply pw_below_drewN | apply below_drew1 | refine below_set ?_ GE188.out) | exact HB.out)))); (case aL => have := LMc15.out; omega); intro v195 w16 ho hb hg hat; rw [← Ny194.out] at ho; have n0_ := Aside0.mk (blk_grown (g := gb188) (o := .cells #[.slice A2_0 l2_0.length c2_0, .int .i64 a2_1] 27 (0, 0)) (by (with_reducible repeat (first | refine blk_drewN ?_ _ | refine blk_drew ?_ | refine blk_alloc ?_ _)); exact BK188.out) hg (Kd.R_ne HO_9.out BK188.out (by decide))); have n1_ := Aside0.mk (hb); have n2_ := Aside0.mk (ho); clear BK188; clear HB; clear HO_9; have BK188 := n0_; have HB := n1_; have HO196 := n2_; clear n0_ n1_ n2_; clear ho hb hg hat))
                  go_roundg k2
                  case measure => have := HJ4.out; have := HK2.out; omega
                  case rel => exact ⟨(y194), (wrap64 (x10_2 + 1)), (by first | rfl | (simp; done) | (simp [*]; done)), H', ⟨by have := HJ4.out; have := HK2.out; omega⟩, ⟨by (with_reducible repeat (first | apply Kd.R_alloc | apply Kd.R_drewN | apply Kd.R_drew)); exact HO196.out⟩, ⟨by (with_reducible repeat (first | refine blk_drewN ?_ _ | refine blk_drew ?_ | refine blk_alloc ?_ _)); exact BK188.out⟩, ⟨by repeat (first | (with_reducible first | exact HB.out | apply below_alloc | apply pw_below_drewN | apply below_drew1 | refine below_set ?_ GE188.out) | exact HB.out)⟩⟩
                · rw [if_neg c15] at H
                  exact absurd H (by simp)
              · rw [if_neg c14] at H
                exact absurd H (by simp)
            · rw [if_neg c13] at H
              have c13b0 : decide (x10_2 < (l3.length : Int)) = false := decide_eq_false c13
              clear c13
              obtain ⟨y197, hy197⟩ : ∃ y_ : List Int, y_ = (([] : List Int)) := ⟨_, rfl⟩
              replace H : (plimsolllaw14_LinSound.l1 k2 l0 l1 x9_2 y197 0 l2_0 a2_1) = some r := by first | (rw [hy197]; with_reducible exact H) | (have H2_ := (Option.bind_some _ _).symm.trans H; rw [hy197]; with_reducible exact H2_) | (have H2_ := (Option.bind_some _ _).symm.trans H; with_reducible exact H2_) | with_reducible exact H | (rw [hy197]; exact H) | exact H
              have Ny197 := Aside0.mk hy197
              clear hy197
              have H' := Aside0.mk H
              clear H
              go_wp2_with (first | ((with_reducible refine gate_dst (N := 43) rfl ?_); (try (refine gate_guard (by rfl) ?_; dsimp only)); refine Kd.R_lit (Kd.int .i64) _ 3 ?hg (N := 43) ?hd (xs := ([] : List Int)) (inner := []) (ok := fun _ => True) (okp := fun _ => True) ?hr ?hp (fun _ hk => hk) trivial (Below.refl _ _) (Nat.le_refl _) (by simp) ?_; (case hd => rfl); (case hg => rfl); (case hr => first | (go_simp; done) | (go_simp; rfl)); (case hp => exact (Reps.none _ _)); intro v198 w17 ho18 hb hg_ hnew_; clear hg_ hnew_; (first | rw [← Ny197.out] at ho18 | (simp only [Int.reduceToNat] at ho18; rw [← Ny197.out] at ho18)); have n0_ := Aside0.mk (Kd.R_elder' (by (with_reducible repeat (first | apply Kd.R_alloc | apply Kd.R_drewN | apply Kd.R_drew)); exact HO_9.out) (Kd.R_base ho18) hb); have n1_ := Aside0.mk (Kd.R_lower (Kd.R_new' ho18 (Kd.R_lt (by (with_reducible repeat (first | apply Kd.R_alloc | apply Kd.R_drewN | apply Kd.R_drew)); exact HO_9.out))) (below_size (by repeat (first | (with_reducible first | exact HB.out | apply below_alloc | apply pw_below_drewN | apply below_drew1 | refine below_set ?_ GE188.out) | exact HB.out)))); have n2_ := Aside0.mk (blk_below (g := gb188) (o := .cells #[.slice A2_0 l2_0.length c2_0, .int .i64 a2_1] 27 (0, 0)) (by (with_reducible repeat (first | refine blk_drewN ?_ _ | refine blk_drew ?_ | refine blk_alloc ?_ _)); exact BK188.out) hb); have n3_ := Aside0.mk (below_step (by repeat (first | (with_reducible first | exact HB.out | apply below_alloc | apply pw_below_drewN | apply below_drew1 | refine below_set ?_ GE188.out) | exact HB.out)) hb); clear HO_9; clear BK188; clear HB; have HO_9 := n0_; have HO199 := n1_; have BK188 := n2_; have HB := n3_; clear n0_ n1_ n2_ n3_; clear hb ho18))
              go_loopg [11, 12] k2 (fun kq v11 v12 w' => ∃ (x11_3 : List Int) (x12_3 : Int), v12 = .int .i64 x12_3 ∧ Aside0 (plimsolllaw14_LinSound.l1 kq l0 l1 x9_2 x11_3 x12_3 l2_0 a2_1 = some r) ∧ Aside0 (kq ≤ k2) ∧ Aside0 (Kd.R (Kd.int .i64) 3 w' w.heap.size (fun k_ => some k_ ≠ (v11 : Value).ownBlock) u9 x9_2) ∧ Aside0 (Kd.R (Kd.int .i64) 3 w' w.heap.size (fun k_ => some k_ ≠ (u9 : Value).ownBlock) v11 x11_3) ∧ Aside0 (w'.heap[gb188]? = some (.cells #[(.slice A2_0 l2_0.length c2_0), .int .i64 a2_1] 27 (0, 0))) ∧ Aside0 (Below w.heap.size w w'))
              case atStart => exact ⟨(y197), (0), (by first | rfl | (simp; done) | (simp [*]; done)), H', ⟨Nat.le_refl _⟩, ⟨by (with_reducible repeat (first | apply Kd.R_alloc | apply Kd.R_drewN | apply Kd.R_drew)); exact Kd.R_mono HO_9.out (fun _ hk => hk.2)⟩, ⟨by (with_reducible repeat (first | apply Kd.R_alloc | apply Kd.R_drewN | apply Kd.R_drew)); exact Kd.R_mono HO199.out (fun _ hk => hk.2)⟩, ⟨by (with_reducible repeat (first | refine blk_drewN ?_ _ | refine blk_drew ?_ | refine blk_alloc ?_ _)); exact BK188.out⟩, ⟨by repeat (first | (with_reducible first | exact HB.out | apply below_alloc | apply pw_below_drewN | apply below_drew1 | refine below_set ?_ GE188.out) | exact HB.out)⟩⟩
              case round =>
                clear H'
                try clear c1
                try clear p1
                try clear q1
                try clear hx1
                try clear c2
                try clear p2
                try clear c3
                try clear c6
                try clear p6
                try clear c7
                try clear c7b0
                try clear c7b1
                try clear c8
                try clear c10
                try clear c13
                try clear c13b0
                try clear c14
                try clear c14b0
                try clear c15
                try clear hx193_0
                try clear p193
                try clear p2
                try clear q193
                obtain ⟨x11_3, x12_3, rfl, HA, HK3, HO_9, HO_11, BK188, HB⟩ := hrel
                cases gk with
                | zero => exact absurd HA.out (by simp [plimsolllaw14_LinSound.l1])
                | succ k3 =>
                  have H := HA.out
                  clear HA
                  simp only [plimsolllaw14_LinSound.l1] at H
                  by_cases c19 : x12_3 < (l0.length : Int)
                  · rw [if_pos c19] at H
                    have c19b0 : decide (x12_3 < (l0.length : Int)) = true := decide_eq_true c19
                    clear c19
                    have HC20 := Aside0.mk H
                    clear H
                    go_upto_region 12 with (fail)
                    go_cut [74] (fun v74 wc => ∃ (kq : Nat) (x74_19 : Bool), v74 = .bool x74_19 ∧ Aside0 (plimsolllaw14_LinSound.j3 kq l0 l1 x9_2 x11_3 x12_3 x74_19 l2_0 a2_1 = some r) ∧ Aside0 (kq ≤ k3) ∧ Aside0 (Kd.R (Kd.int .i64) 3 wc w.heap.size (fun k_ => some k_ ≠ (u11 : Value).ownBlock) u9 x9_2) ∧ Aside0 (Kd.R (Kd.int .i64) 3 wc w.heap.size (fun k_ => some k_ ≠ (u9 : Value).ownBlock) u11 x11_3) ∧ Aside0 (wc.heap[gb188]? = some (.cells #[(.slice A2_0 l2_0.length c2_0), .int .i64 a2_1] 27 (0, 0))) ∧ Aside0 (Below w.heap.size w wc))
                    case first =>
                      have H := HC20.out
                      clear HC20
                      by_cases c21 : 0 ≤ x12_3
                      · rw [if_pos c21] at H
                        have c21b0 : decide (0 ≤ x12_3) = true := decide_eq_true c21
                        clear c21
                        (first | rw [c21b0] | (simp only [i64_w, i32_w]; rw [c21b0]) | skip)
                        by_cases c22 : (((rd_T27 l0 x12_3).f0).length : Int) = (x9_2.length : Int)
                        · rw [if_pos c22] at H
                          have c22b0 : ((((rd_T27 l0 x12_3).f0).length : Int) == (x9_2.length : Int)) = true := beq_iff_eq.mpr c22
                          have c22b1 : ((((rd_T27 l0 x12_3).f0).length : Int) != (x9_2.length : Int)) = false := bne_eq_false_iff_eq.mpr c22
                          have c22b2 : (((rd_T27 l0 x12_3).f0).length == x9_2.length) = true := by first | simpa using c22 | (simp at c22 ⊢; omega)
                          clear c22
                          by_cases c23 : ((rd_T27 l0 x12_3).f1) > 1099511627776
                          · rw [if_pos c23] at H
                            have c23b0 : decide (1099511627776 < ((rd_T27 l0 x12_3).f1)) = true := decide_eq_true c23
                            clear c23
                            have H' := Aside0.mk H
                            clear H
                            have p200 : 0 ≤ (x12_3 : Int) := of_decide_eq_true (by first | (with_reducible assumption) | assumption)
                            have q200 : x12_3 < (l0.length : Int) := of_decide_eq_true (by first | (with_reducible assumption) | assumption)
                            obtain ⟨ad200, A200_0, c200_0, e200, hx200_0, hx200_1, hl200_0, hi200_0⟩ := at_T27 HR0.out x12_3 p200 q200
                            cases e200
                            replace hx200_0 := (HB.out.cell (World.block_lt_of_cell? w _ hx200_0)).trans hx200_0
                            replace hx200_1 := (HB.out.cell (World.block_lt_of_cell? w _ hx200_1)).trans hx200_1
                            have HR200_0 := Aside0.mk hi200_0
                            have HC200_0 := Aside0.mk hl200_0
                            clear hi200_0 hl200_0
                            replace p200 := eq_true p200
                            replace q200 := eq_true q200
                            obtain ⟨Ao24, co24, eo24⟩ := Kd.R_slice HO_9.out
                            subst eo24
                            have p201 : 0 ≤ (x12_3 : Int) := of_decide_eq_true (by first | (with_reducible assumption) | assumption)
                            have q201 : x12_3 < (l0.length : Int) := of_decide_eq_true (by first | (with_reducible assumption) | assumption)
                            obtain ⟨ad201, A201_0, c201_0, e201, hx201_0, hx201_1, hl201_0, hi201_0⟩ := at_T27 HR0.out x12_3 p201 q201
                            obtain rfl : ad200 = ad201 := (by injection e201)
                            replace hx201_0 := (HB.out.cell (World.block_lt_of_cell? w _ hx201_0)).trans hx201_0
                            replace hx201_1 := (HB.out.cell (World.block_lt_of_cell? w _ hx201_1)).trans hx201_1
                            have HR201_0 := Aside0.mk hi201_0
                            have HC201_0 := Aside0.mk hl201_0
                            clear hi201_0 hl201_0
                            replace p201 := eq_true p201
                            replace q201 := eq_true q201
                            have ea_ := Option.some.inj (hx200_0.symm.trans hx201_0)
                            injection ea_ with ea_ en_ ec_
                            subst ea_
                            subst ec_
                            clear en_
                            go_wp2
                            go_meet
                            case rel => exact ⟨_, (true), (by first | rfl | (simp; done) | (simp [*]; done)), H', ⟨by have := HJ4.out; have := HK2.out; have := HK3.out; first | omega | exact Nat.le_refl _⟩, ⟨by (with_reducible repeat (first | apply Kd.R_alloc | apply Kd.R_drewN | apply Kd.R_drew)); exact HO_9.out⟩, ⟨by (with_reducible repeat (first | apply Kd.R_alloc | apply Kd.R_drewN | apply Kd.R_drew)); exact HO_11.out⟩, ⟨by (with_reducible repeat (first | refine blk_drewN ?_ _ | refine blk_drew ?_ | refine blk_alloc ?_ _)); exact BK188.out⟩, ⟨by repeat (first | (with_reducible first | exact HB.out | apply below_alloc | apply pw_below_drewN | apply below_drew1 | refine below_set ?_ GE188.out) | exact HB.out)⟩⟩
                          · rw [if_neg c23] at H
                            have c23b0 : decide (1099511627776 < ((rd_T27 l0 x12_3).f1)) = false := decide_eq_false c23
                            clear c23
                            have H' := Aside0.mk H
                            clear H
                            have p200 : 0 ≤ (x12_3 : Int) := of_decide_eq_true (by first | (with_reducible assumption) | assumption)
                            have q200 : x12_3 < (l0.length : Int) := of_decide_eq_true (by first | (with_reducible assumption) | assumption)
                            obtain ⟨ad200, A200_0, c200_0, e200, hx200_0, hx200_1, hl200_0, hi200_0⟩ := at_T27 HR0.out x12_3 p200 q200
                            cases e200
                            replace hx200_0 := (HB.out.cell (World.block_lt_of_cell? w _ hx200_0)).trans hx200_0
                            replace hx200_1 := (HB.out.cell (World.block_lt_of_cell? w _ hx200_1)).trans hx200_1
                            have HR200_0 := Aside0.mk hi200_0
                            have HC200_0 := Aside0.mk hl200_0
                            clear hi200_0 hl200_0
                            replace p200 := eq_true p200
                            replace q200 := eq_true q200
                            obtain ⟨Ao25, co25, eo25⟩ := Kd.R_slice HO_9.out
                            subst eo25
                            have p201 : 0 ≤ (x12_3 : Int) := of_decide_eq_true (by first | (with_reducible assumption) | assumption)
                            have q201 : x12_3 < (l0.length : Int) := of_decide_eq_true (by first | (with_reducible assumption) | assumption)
                            obtain ⟨ad201, A201_0, c201_0, e201, hx201_0, hx201_1, hl201_0, hi201_0⟩ := at_T27 HR0.out x12_3 p201 q201
                            obtain rfl : ad200 = ad201 := (by injection e201)
                            replace hx201_0 := (HB.out.cell (World.block_lt_of_cell? w _ hx201_0)).trans hx201_0
                            replace hx201_1 := (HB.out.cell (World.block_lt_of_cell? w _ hx201_1)).trans hx201_1
                            have HR201_0 := Aside0.mk hi201_0
                            have HC201_0 := Aside0.mk hl201_0
                            clear hi201_0 hl201_0
                            replace p201 := eq_true p201
                            replace q201 := eq_true q201
                            have ea_ := Option.some.inj (hx200_0.symm.trans hx201_0)
                            injection ea_ with ea_ en_ ec_
                            subst ea_
                            subst ec_
                            clear en_
                            have p202 : 0 ≤ (x12_3 : Int) := of_decide_eq_true (by first | (with_reducible assumption) | assumption)
                            have q202 : x12_3 < (l0.length : Int) := of_decide_eq_true (by first | (with_reducible assumption) | assumption)
                            obtain ⟨ad202, A202_0, c202_0, e202, hx202_0, hx202_1, hl202_0, hi202_0⟩ := at_T27 HR0.out x12_3 p202 q202
                            obtain rfl : ad200 = ad202 := (by injection e202)
                            replace hx202_0 := (HB.out.cell (World.block_lt_of_cell? w _ hx202_0)).trans hx202_0
                            replace hx202_1 := (HB.out.cell (World.block_lt_of_cell? w _ hx202_1)).trans hx202_1
                            have HR202_0 := Aside0.mk hi202_0
                            have HC202_0 := Aside0.mk hl202_0
                            clear hi202_0 hl202_0
                            replace p202 := eq_true p202
                            replace q202 := eq_true q202
                            have ea_ := Option.some.inj (hx200_0.symm.trans hx202_0)
                            injection ea_ with ea_ en_ ec_
                            subst ea_
                            subst ec_
                            clear en_
                            go_wp2
                            go_meet
                            case rel => exact ⟨_, (decide (((rd_T27 l0 x12_3).f1) < (-1099511627776))), (by first | rfl | (simp; done) | (simp [*]; done)), H', ⟨by have := HJ4.out; have := HK2.out; have := HK3.out; first | omega | exact Nat.le_refl _⟩, ⟨by (with_reducible repeat (first | apply Kd.R_alloc | apply Kd.R_drewN | apply Kd.R_drew)); exact HO_9.out⟩, ⟨by (with_reducible repeat (first | apply Kd.R_alloc | apply Kd.R_drewN | apply Kd.R_drew)); exact HO_11.out⟩, ⟨by (with_reducible repeat (first | refine blk_drewN ?_ _ | refine blk_drew ?_ | refine blk_alloc ?_ _)); exact BK188.out⟩, ⟨by repeat (first | (with_reducible first | exact HB.out | apply below_alloc | apply pw_below_drewN | apply below_drew1 | refine below_set ?_ GE188.out) | exact HB.out)⟩⟩
                        · rw [if_neg c22] at H
                          have c22b0 : ((((rd_T27 l0 x12_3).f0).length : Int) == (x9_2.length : Int)) = false := beq_eq_false_iff_ne.mpr c22
                          have c22b1 : ((((rd_T27 l0 x12_3).f0).length : Int) != (x9_2.length : Int)) = true := bne_iff_ne.mpr c22
                          have c22b2 : (((rd_T27 l0 x12_3).f0).length == x9_2.length) = false := by first | simpa using c22 | (simp at c22 ⊢; omega)
                          have H' := Aside0.mk H
                          clear H
                          have p200 : 0 ≤ (x12_3 : Int) := of_decide_eq_true (by first | (with_reducible assumption) | assumption)
                          have q200 : x12_3 < (l0.length : Int) := of_decide_eq_true (by first | (with_reducible assumption) | assumption)
                          obtain ⟨ad200, A200_0, c200_0, e200, hx200_0, hx200_1, hl200_0, hi200_0⟩ := at_T27 HR0.out x12_3 p200 q200
                          cases e200
                          replace hx200_0 := (HB.out.cell (World.block_lt_of_cell? w _ hx200_0)).trans hx200_0
                          replace hx200_1 := (HB.out.cell (World.block_lt_of_cell? w _ hx200_1)).trans hx200_1
                          have HR200_0 := Aside0.mk hi200_0
                          have HC200_0 := Aside0.mk hl200_0
                          clear hi200_0 hl200_0
                          replace p200 := eq_true p200
                          replace q200 := eq_true q200
                          obtain ⟨Ao26, co26, eo26⟩ := Kd.R_slice HO_9.out
                          subst eo26
                          go_wp2
                          go_meet
                          case rel => exact ⟨_, (true), (by first | rfl | (simp; done) | (simp [*]; done)), H', ⟨by have := HJ4.out; have := HK2.out; have := HK3.out; first | omega | exact Nat.le_refl _⟩, ⟨by (with_reducible repeat (first | apply Kd.R_alloc | apply Kd.R_drewN | apply Kd.R_drew)); exact HO_9.out⟩, ⟨by (with_reducible repeat (first | apply Kd.R_alloc | apply Kd.R_drewN | apply Kd.R_drew)); exact HO_11.out⟩, ⟨by (with_reducible repeat (first | refine blk_drewN ?_ _ | refine blk_drew ?_ | refine blk_alloc ?_ _)); exact BK188.out⟩, ⟨by repeat (first | (with_reducible first | exact HB.out | apply below_alloc | apply pw_below_drewN | apply below_drew1 | refine below_set ?_ GE188.out) | exact HB.out)⟩⟩
                      · rw [if_neg c21] at H
                        exact absurd H (by simp)
                    case rest =>
                      clear HC20
                      try clear c1
                      try clear p1
                      try clear q1
                      try clear hx1
                      try clear c2
                      try clear p2
                      try clear q2
                      try clear hx2
                      try clear c3
                      try clear c6
                      try clear p6
                      try clear c7
                      try clear c7b0
                      try clear c7b1
                      try clear c8
                      try clear c10
                      try clear c13
                      try clear c13b0
                      try clear c14
                      try clear c14b0
                      try clear c15
                      try clear c19
                      try clear c19b0
                      try clear p19
                      try clear q19
                      try clear hx19
                      try clear c20
                      try clear p20
                      try clear q20
                      try clear hx20
                      try clear c21
                      try clear c21b0
                      try clear c22
                      try clear c22b0
                      try clear c22b1
                      try clear c22b2
                      try clear c23
                      try clear c23b0
                      try clear hx193_0
                      try clear hx200_0
                      try clear hx200_1
                      try clear hx201_0
                      try clear hx201_1
                      try clear hx202_0
                      try clear hx202_1
                      try clear p1
                      try clear p193
                      try clear p2
                      try clear p200
                      try clear p201
                      try clear p202
                      try clear p6
                      try clear q1
                      try clear q193
                      try clear q200
                      try clear q201
                      try clear q202
                      obtain ⟨kq, x74_19, rfl, HA, HJ19, HO_9, HO_11, BK188, HB⟩ := hcut
                      cases kq with
                      | zero => exact absurd HA.out (by simp [plimsolllaw14_LinSound.j3])
                      | succ kj19 =>
                        have H := HA.out
                        clear HA
                        simp only [plimsolllaw14_LinSound.j3] at H
                        by_cases c27 : x74_19 = true
                        · subst c27
                          have H1 : ((plimsolllaw14_awake.f kj19).bind fun t203 => (some t203)) = some r := by rw [if_pos rfl] at H; exact H
                          clear H
                          have H := H1
                          clear H1
                          replace H := Option.bind_eq_some_iff.mp H
                          obtain ⟨t203, A280, H⟩ := H
                          replace H : (some t203) = some r := H
                          have A28 := Aside0.mk A280
                          clear A280
                          obtain rfl := Option.some.inj H
                          go_wp2_with (first | ((with_reducible refine gate_callee (f := 10) rfl ?_); refine goesL_ (some 75) rfl rfl Try.func10 (by kernel_rfl) rfl #[] rfl (by (try simp only [List.map_toArray, List.map_cons, List.map_nil]); first | done | rfl | (simp only [List.length_drop, List.length_take]; rfl)) ?_; (with_reducible refine (plimsolllaw14_awake.calls kj19  t203 _ A28.out).mono ?_); rintro e w29 ⟨rfl, hb⟩; refine ⟨_, rfl, ?_⟩; have n0_ := Aside0.mk (Kd.R_below (by (with_reducible repeat (first | apply Kd.R_alloc | apply Kd.R_drewN | apply Kd.R_drew)); exact HO_9.out) hb); have n1_ := Aside0.mk (Kd.R_below (by (with_reducible repeat (first | apply Kd.R_alloc | apply Kd.R_drewN | apply Kd.R_drew)); exact HO_11.out) hb); have n2_ := Aside0.mk (blk_below (g := gb188) (o := .cells #[.slice A2_0 l2_0.length c2_0, .int .i64 a2_1] 27 (0, 0)) (by (with_reducible repeat (first | refine blk_drewN ?_ _ | refine blk_drew ?_ | refine blk_alloc ?_ _)); exact BK188.out) hb); have n3_ := Aside0.mk (below_step (by repeat (first | (with_reducible first | exact HB.out | apply below_alloc | apply pw_below_drewN | apply below_drew1 | refine below_set ?_ GE188.out) | exact HB.out)) hb); clear HO_9; clear HO_11; clear BK188; clear HB; have HO_9 := n0_; have HO_11 := n1_; have BK188 := n2_; have HB := n3_; clear n0_ n1_ n2_ n3_; (try clear hb); (try clear hb2); (try clear hk); (try clear hi)))
                          go_ret
                          exact ⟨by first | rfl | (simp [errW_none, errW_some] <;> rfl) | (simp [*, errW_none, errW_some] <;> rfl), by repeat (first | (with_reducible first | exact HB.out | apply below_alloc | apply pw_below_drewN | apply below_drew1 | refine below_set ?_ GE188.out) | exact HB.out)⟩
                        · replace c27 := Bool.eq_false_iff.mpr c27
                          subst c27
                          have H1 : (plimsolllaw14_LinSound.l2 kj19 l0 l1 x9_2 x11_3 x12_3 0 l2_0 a2_1) = some r := by rw [if_neg (show ¬ (false = true) by decide)] at H; exact H
                          clear H
                          have H := H1
                          clear H1
                          have H' := Aside0.mk H
                          clear H
                          go_wp2
                          go_loopg [13] kj19 (fun kq v13 w' => ∃ (x13_5 : Int), v13 = .int .i64 x13_5 ∧ Aside0 (plimsolllaw14_LinSound.l2 kq l0 l1 x9_2 x11_3 x12_3 x13_5 l2_0 a2_1 = some r) ∧ Aside0 (kq ≤ kj19) ∧ Aside0 (Kd.R (Kd.int .i64) 3 w' w.heap.size (fun k_ => some k_ ≠ (u11 : Value).ownBlock) u9 x9_2) ∧ Aside0 (Kd.R (Kd.int .i64) 3 w' w.heap.size (fun k_ => some k_ ≠ (u9 : Value).ownBlock) u11 x11_3) ∧ Aside0 (w'.heap[gb188]? = some (.cells #[(.slice A2_0 l2_0.length c2_0), .int .i64 a2_1] 27 (0, 0))) ∧ Aside0 (Below w.heap.size w w'))
                          case atStart => exact ⟨(0), (by first | rfl | (simp; done) | (simp [*]; done)), H', ⟨Nat.le_refl _⟩, ⟨by (with_reducible repeat (first | apply Kd.R_alloc | apply Kd.R_drewN | apply Kd.R_drew)); exact HO_9.out⟩, ⟨by (with_reducible repeat (first | apply Kd.R_alloc | apply Kd.R_drewN | apply Kd.R_drew)); exact HO_11.out⟩, ⟨by (with_reducible repeat (first | refine blk_drewN ?_ _ | refine blk_drew ?_ | refine blk_alloc ?_ _)); exact BK188.out⟩, ⟨by repeat (first | (with_reducible first | exact HB.out | apply below_alloc | apply pw_below_drewN | apply below_drew1 | refine below_set ?_ GE188.out) | exact HB.out)⟩⟩
                          case round =>
                            clear H'
                            try clear c1
                            try clear p1
                            try clear q1
                            try clear hx1
                            try clear c2
                            try clear p2
                            try clear q2
                            try clear hx2
                            try clear c3
                            try clear c6
                            try clear p6
                            try clear c7
                            try clear c7b0
                            try clear c7b1
                            try clear c8
                            try clear c10
                            try clear c13
                            try clear c13b0
                            try clear c14
                            try clear c14b0
                            try clear c15
                            try clear c19
                            try clear c19b0
                            try clear p19
                            try clear q19
                            try clear hx19
                            try clear c20
                            try clear p20
                            try clear q20
                            try clear hx20
                            try clear c21
                            try clear c21b0
                            try clear c22
                            try clear c22b0
                            try clear c22b1
                            try clear c22b2
                            try clear c23
                            try clear c23b0
                            try clear c27
                            try clear hx193_0
                            try clear hx200_0
                            try clear hx200_1
                            try clear hx201_0
                            try clear hx201_1
                            try clear hx202_0
                            try clear hx202_1
                            try clear p1
                            try clear p19
                            try clear p193
                            try clear p2
                            try clear p20
                            try clear p200
                            try clear p201
                            try clear p202
                            try clear p6
                            try clear q1
                            try clear q19
                            try clear q193
                            try clear q2
                            try clear q20
                            try clear q200
                            try clear q201
                            try clear q202
                            obtain ⟨x13_5, rfl, HA, HK5, HO_9, HO_11, BK188, HB⟩ := hrel
                            cases gk with
                            | zero => exact absurd HA.out (by simp [plimsolllaw14_LinSound.l2])
                            | succ k5 =>
                              have H := HA.out
                              clear HA
                              simp only [plimsolllaw14_LinSound.l2] at H
                              by_cases c30 : x13_5 < (x9_2.length : Int)
                              · rw [if_pos c30] at H
                                have c30b0 : decide (x13_5 < (x9_2.length : Int)) = true := decide_eq_true c30
                                clear c30
                                by_cases c31 : 0 ≤ x12_3
                                · rw [if_pos c31] at H
                                  have c31b0 : decide (0 ≤ x12_3) = true := decide_eq_true c31
                                  clear c31
                                  by_cases c32 : x12_3 < (l0.length : Int)
                                  · rw [if_pos c32] at H
                                    have c32b0 : decide (x12_3 < (l0.length : Int)) = true := decide_eq_true c32
                                    clear c32
                                    by_cases c33 : 0 ≤ x13_5
                                    · rw [if_pos c33] at H
                                      have c33b0 : decide (0 ≤ x13_5) = true := decide_eq_true c33
                                      clear c33
                                      by_cases c34 : x13_5 < (((rd_T27 l0 x12_3).f0).length : Int)
                                      · rw [if_pos c34] at H
                                        have c34b0 : decide (x13_5 < (((rd_T27 l0 x12_3).f0).length : Int)) = true := decide_eq_true c34
                                        clear c34
                                        by_cases c35 : (rd ((rd_T27 l0 x12_3).f0) x13_5) > 1048576
                                        · rw [if_pos c35] at H
                                          have c35b0 : decide (1048576 < (rd ((rd_T27 l0 x12_3).f0) x13_5)) = true := decide_eq_true c35
                                          clear c35
                                          replace H := Option.bind_eq_some_iff.mp H
                                          obtain ⟨t206, A360, H⟩ := H
                                          replace H : (some t206) = some r := H
                                          have A36 := Aside0.mk A360
                                          clear A360
                                          obtain rfl := Option.some.inj H
                                          obtain ⟨Ao37, co37, eo37⟩ := Kd.R_slice HO_9.out
                                          subst eo37
                                          have p204 : 0 ≤ (x12_3 : Int) := of_decide_eq_true (by first | (with_reducible assumption) | assumption)
                                          have q204 : x12_3 < (l0.length : Int) := of_decide_eq_true (by first | (with_reducible assumption) | assumption)
                                          obtain ⟨ad204, A204_0, c204_0, e204, hx204_0, hx204_1, hl204_0, hi204_0⟩ := at_T27 HR0.out x12_3 p204 q204
                                          cases e204
                                          replace hx204_0 := (HB.out.cell (World.block_lt_of_cell? w _ hx204_0)).trans hx204_0
                                          replace hx204_1 := (HB.out.cell (World.block_lt_of_cell? w _ hx204_1)).trans hx204_1
                                          have HR204_0 := Aside0.mk hi204_0
                                          have HC204_0 := Aside0.mk hl204_0
                                          clear hi204_0 hl204_0
                                          replace p204 := eq_true p204
                                          replace q204 := eq_true q204
                                          have p205 : 0 ≤ (x13_5 : Int) := of_decide_eq_true (by first | (with_reducible assumption) | assumption)
                                          have q205 : x13_5 < (((rd_T27 l0 x12_3).f0).length : Int) := of_decide_eq_true (by first | (with_reducible assumption) | assumption)
                                          obtain ⟨ad205, e205, hx205_0⟩ := Kd.at_int HR204_0.out x13_5 p205 q205
                                          cases e205
                                          replace hx205_0 := (HB.out.cell (World.block_lt_of_cell? w _ hx205_0)).trans hx205_0
                                          replace p205 := eq_true p205
                                          replace q205 := eq_true q205
                                          go_wp2_with (first | ((with_reducible refine gate_callee (f := 10) rfl ?_); refine goesL_ (some 102) rfl rfl Try.func10 (by kernel_rfl) rfl #[] rfl (by (try simp only [List.map_toArray, List.map_cons, List.map_nil]); first | done | rfl | (simp only [List.length_drop, List.length_take]; rfl)) ?_; (with_reducible refine (plimsolllaw14_awake.calls k5  t206 _ A36.out).mono ?_); rintro e w38 ⟨rfl, hb⟩; refine ⟨_, rfl, ?_⟩; have n0_ := Aside0.mk (Kd.R_below (by (with_reducible repeat (first | apply Kd.R_alloc | apply Kd.R_drewN | apply Kd.R_drew)); exact HO_9.out) hb); have n1_ := Aside0.mk (Kd.R_below (by (with_reducible repeat (first | apply Kd.R_alloc | apply Kd.R_drewN | apply Kd.R_drew)); exact HO_11.out) hb); have n2_ := Aside0.mk (blk_below (g := gb188) (o := .cells #[.slice A2_0 l2_0.length c2_0, .int .i64 a2_1] 27 (0, 0)) (by (with_reducible repeat (first | refine blk_drewN ?_ _ | refine blk_drew ?_ | refine blk_alloc ?_ _)); exact BK188.out) hb); have n3_ := Aside0.mk (below_step (by repeat (first | (with_reducible first | exact HB.out | apply below_alloc | apply pw_below_drewN | apply below_drew1 | refine below_set ?_ GE188.out) | exact HB.out)) hb); clear HO_9; clear HO_11; clear BK188; clear HB; have HO_9 := n0_; have HO_11 := n1_; have BK188 := n2_; have HB := n3_; clear n0_ n1_ n2_ n3_; (try clear hb); (try clear hb2); (try clear hk); (try clear hi)))
                                          go_ret
                                          exact ⟨by first | rfl | (simp [errW_none, errW_some] <;> rfl) | (simp [*, errW_none, errW_some] <;> rfl), by repeat (first | (with_reducible first | exact HB.out | apply below_alloc | apply pw_below_drewN | apply below_drew1 | refine below_set ?_ GE188.out) | exact HB.out)⟩
                                        · rw [if_neg c35] at H
                                          have c35b0 : decide (1048576 < (rd ((rd_T27 l0 x12_3).f0) x13_5)) = false := decide_eq_false c35
                                          clear c35
                                          by_cases c39 : (rd ((rd_T27 l0 x12_3).f0) x13_5) < (-1048576)
                                          · rw [if_pos c39] at H
                                            have c39b0 : decide ((rd ((rd_T27 l0 x12_3).f0) x13_5) < (-1048576)) = true := decide_eq_true c39
                                            clear c39
                                            replace H := Option.bind_eq_some_iff.mp H
                                            obtain ⟨t209, A400, H⟩ := H
                                            replace H : (some t209) = some r := H
                                            have A40 := Aside0.mk A400
                                            clear A400
                                            obtain rfl := Option.some.inj H
                                            obtain ⟨Ao41, co41, eo41⟩ := Kd.R_slice HO_9.out
                                            subst eo41
                                            have p204 : 0 ≤ (x12_3 : Int) := of_decide_eq_true (by first | (with_reducible assumption) | assumption)
                                            have q204 : x12_3 < (l0.length : Int) := of_decide_eq_true (by first | (with_reducible assumption) | assumption)
                                            obtain ⟨ad204, A204_0, c204_0, e204, hx204_0, hx204_1, hl204_0, hi204_0⟩ := at_T27 HR0.out x12_3 p204 q204
                                            cases e204
                                            replace hx204_0 := (HB.out.cell (World.block_lt_of_cell? w _ hx204_0)).trans hx204_0
                                            replace hx204_1 := (HB.out.cell (World.block_lt_of_cell? w _ hx204_1)).trans hx204_1
                                            have HR204_0 := Aside0.mk hi204_0
                                            have HC204_0 := Aside0.mk hl204_0
                                            clear hi204_0 hl204_0
                                            replace p204 := eq_true p204
                                            replace q204 := eq_true q204
                                            have p205 : 0 ≤ (x13_5 : Int) := of_decide_eq_true (by first | (with_reducible assumption) | assumption)
                                            have q205 : x13_5 < (((rd_T27 l0 x12_3).f0).length : Int) := of_decide_eq_true (by first | (with_reducible assumption) | assumption)
                                            obtain ⟨ad205, e205, hx205_0⟩ := Kd.at_int HR204_0.out x13_5 p205 q205
                                            cases e205
                                            replace hx205_0 := (HB.out.cell (World.block_lt_of_cell? w _ hx205_0)).trans hx205_0
                                            replace p205 := eq_true p205
                                            replace q205 := eq_true q205
                                            have p207 : 0 ≤ (x12_3 : Int) := of_decide_eq_true (by first | (with_reducible assumption) | assumption)
                                            have q207 : x12_3 < (l0.length : Int) := of_decide_eq_true (by first | (with_reducible assumption) | assumption)
                                            obtain ⟨ad207, A207_0, c207_0, e207, hx207_0, hx207_1, hl207_0, hi207_0⟩ := at_T27 HR0.out x12_3 p207 q207
                                            obtain rfl : ad204 = ad207 := (by injection e207)
                                            replace hx207_0 := (HB.out.cell (World.block_lt_of_cell? w _ hx207_0)).trans hx207_0
                                            replace hx207_1 := (HB.out.cell (World.block_lt_of_cell? w _ hx207_1)).trans hx207_1
                                            have HR207_0 := Aside0.mk hi207_0
                                            have HC207_0 := Aside0.mk hl207_0
                                            clear hi207_0 hl207_0
                                            replace p207 := eq_true p207
                                            replace q207 := eq_true q207
                                            have ea_ := Option.some.inj (hx204_0.symm.trans hx207_0)
                                            injection ea_ with ea_ en_ ec_
                                            subst ea_
                                            subst ec_
                                            clear en_
                                            have p208 : 0 ≤ (x13_5 : Int) := of_decide_eq_true (by first | (with_reducible assumption) | assumption)
                                            have q208 : x13_5 < (((rd_T27 l0 x12_3).f0).length : Int) := of_decide_eq_true (by first | (with_reducible assumption) | assumption)
                                            obtain ⟨ad208, e208, hx208_0⟩ := Kd.at_int HR207_0.out x13_5 p208 q208
                                            cases e208
                                            replace hx208_0 := (HB.out.cell (World.block_lt_of_cell? w _ hx208_0)).trans hx208_0
                                            replace p208 := eq_true p208
                                            replace q208 := eq_true q208
                                            go_wp2_with (first | ((with_reducible refine gate_callee (f := 10) rfl ?_); refine goesL_ (some 102) rfl rfl Try.func10 (by kernel_rfl) rfl #[] rfl (by (try simp only [List.map_toArray, List.map_cons, List.map_nil]); first | done | rfl | (simp only [List.length_drop, List.length_take]; rfl)) ?_; (with_reducible refine (plimsolllaw14_awake.calls k5  t209 _ A40.out).mono ?_); rintro e w42 ⟨rfl, hb⟩; refine ⟨_, rfl, ?_⟩; have n0_ := Aside0.mk (Kd.R_below (by (with_reducible repeat (first | apply Kd.R_alloc | apply Kd.R_drewN | apply Kd.R_drew)); exact HO_9.out) hb); have n1_ := Aside0.mk (Kd.R_below (by (with_reducible repeat (first | apply Kd.R_alloc | apply Kd.R_drewN | apply Kd.R_drew)); exact HO_11.out) hb); have n2_ := Aside0.mk (blk_below (g := gb188) (o := .cells #[.slice A2_0 l2_0.length c2_0, .int .i64 a2_1] 27 (0, 0)) (by (with_reducible repeat (first | refine blk_drewN ?_ _ | refine blk_drew ?_ | refine blk_alloc ?_ _)); exact BK188.out) hb); have n3_ := Aside0.mk (below_step (by repeat (first | (with_reducible first | exact HB.out | apply below_alloc | apply pw_below_drewN | apply below_drew1 | refine below_set ?_ GE188.out) | exact HB.out)) hb); clear HO_9; clear HO_11; clear BK188; clear HB; have HO_9 := n0_; have HO_11 := n1_; have BK188 := n2_; have HB := n3_; clear n0_ n1_ n2_ n3_; (try clear hb); (try clear hb2); (try clear hk); (try clear hi)))
                                            go_ret
                                            exact ⟨by first | rfl | (simp [errW_none, errW_some] <;> rfl) | (simp [*, errW_none, errW_some] <;> rfl), by repeat (first | (with_reducible first | exact HB.out | apply below_alloc | apply pw_below_drewN | apply below_drew1 | refine below_set ?_ GE188.out) | exact HB.out)⟩
                                          · rw [if_neg c39] at H
                                            have c39b0 : decide ((rd ((rd_T27 l0 x12_3).f0) x13_5) < (-1048576)) = false := decide_eq_false c39
                                            clear c39
                                            have H' := Aside0.mk H
                                            clear H
                                            obtain ⟨Ao43, co43, eo43⟩ := Kd.R_slice HO_9.out
                                            subst eo43
                                            have p204 : 0 ≤ (x12_3 : Int) := of_decide_eq_true (by first | (with_reducible assumption) | assumption)
                                            have q204 : x12_3 < (l0.length : Int) := of_decide_eq_true (by first | (with_reducible assumption) | assumption)
                                            obtain ⟨ad204, A204_0, c204_0, e204, hx204_0, hx204_1, hl204_0, hi204_0⟩ := at_T27 HR0.out x12_3 p204 q204
                                            cases e204
                                            replace hx204_0 := (HB.out.cell (World.block_lt_of_cell? w _ hx204_0)).trans hx204_0
                                            replace hx204_1 := (HB.out.cell (World.block_lt_of_cell? w _ hx204_1)).trans hx204_1
                                            have HR204_0 := Aside0.mk hi204_0
                                            have HC204_0 := Aside0.mk hl204_0
                                            clear hi204_0 hl204_0
                                            replace p204 := eq_true p204
                                            replace q204 := eq_true q204
                                            have p205 : 0 ≤ (x13_5 : Int) := of_decide_eq_true (by first | (with_reducible assumption) | assumption)
                                            have q205 : x13_5 < (((rd_T27 l0 x12_3).f0).length : Int) := of_decide_eq_true (by first | (with_reducible assumption) | assumption)
                                            obtain ⟨ad205, e205, hx205_0⟩ := Kd.at_int HR204_0.out x13_5 p205 q205
                                            cases e205
                                            replace hx205_0 := (HB.out.cell (World.block_lt_of_cell? w _ hx205_0)).trans hx205_0
                                            replace p205 := eq_true p205
                                            replace q205 := eq_true q205
                                            have p207 : 0 ≤ (x12_3 : Int) := of_decide_eq_true (by first | (with_reducible assumption) | assumption)
                                            have q207 : x12_3 < (l0.length : Int) := of_decide_eq_true (by first | (with_reducible assumption) | assumption)
                                            obtain ⟨ad207, A207_0, c207_0, e207, hx207_0, hx207_1, hl207_0, hi207_0⟩ := at_T27 HR0.out x12_3 p207 q207
                                            obtain rfl : ad204 = ad207 := (by injection e207)
                                            replace hx207_0 := (HB.out.cell (World.block_lt_of_cell? w _ hx207_0)).trans hx207_0
                                            replace hx207_1 := (HB.out.cell (World.block_lt_of_cell? w _ hx207_1)).trans hx207_1
                                            have HR207_0 := Aside0.mk hi207_0
                                            have HC207_0 := Aside0.mk hl207_0
                                            clear hi207_0 hl207_0
                                            replace p207 := eq_true p207
                                            replace q207 := eq_true q207
                                            have ea_ := Option.some.inj (hx204_0.symm.trans hx207_0)
                                            injection ea_ with ea_ en_ ec_
                                            subst ea_
                                            subst ec_
                                            clear en_
                                            have p208 : 0 ≤ (x13_5 : Int) := of_decide_eq_true (by first | (with_reducible assumption) | assumption)
                                            have q208 : x13_5 < (((rd_T27 l0 x12_3).f0).length : Int) := of_decide_eq_true (by first | (with_reducible assumption) | assumption)
                                            obtain ⟨ad208, e208, hx208_0⟩ := Kd.at_int HR207_0.out x13_5 p208 q208
                                            cases e208
                                            replace hx208_0 := (HB.out.cell (World.block_lt_of_cell? w _ hx208_0)).trans hx208_0
                                            replace p208 := eq_true p208
                                            replace q208 := eq_true q208
                                            go_wp2
                                            go_roundg k5
                                            case measure => have := HJ4.out; have := HK2.out; have := HK3.out; have := HJ19.out; have := HK5.out; omega
                                            case rel => exact ⟨(wrap64 (x13_5 + 1)), (by first | rfl | (simp; done) | (simp [*]; done)), H', ⟨by have := HJ4.out; have := HK2.out; have := HK3.out; have := HJ19.out; have := HK5.out; omega⟩, ⟨by (with_reducible repeat (first | apply Kd.R_alloc | apply Kd.R_drewN | apply Kd.R_drew)); exact HO_9.out⟩, ⟨by (with_reducible repeat (first | apply Kd.R_alloc | apply Kd.R_drewN | apply Kd.R_drew)); exact HO_11.out⟩, ⟨by (with_reducible repeat (first | refine blk_drewN ?_ _ | refine blk_drew ?_ | refine blk_alloc ?_ _)); exact BK188.out⟩, ⟨by repeat (first | (with_reducible first | exact HB.out | apply below_alloc | apply pw_below_drewN | apply below_drew1 | refine below_set ?_ GE188.out) | exact HB.out)⟩⟩
                                      · rw [if_neg c34] at H
                                        exact absurd H (by simp)
                                    · rw [if_neg c33] at H
                                      exact absurd H (by simp)
                                  · rw [if_neg c32] at H
                                    exact absurd H (by simp)
                                · rw [if_neg c31] at H
                                  exact absurd H (by simp)
                              · rw [if_neg c30] at H
                                have c30b0 : decide (x13_5 < (x9_2.length : Int)) = false := decide_eq_false c30
                                clear c30
                                by_cases c44 : 0 ≤ x12_3
                                · rw [if_pos c44] at H
                                  have c44b0 : decide (0 ≤ x12_3) = true := decide_eq_true c44
                                  clear c44
                                  by_cases c45 : x12_3 < (l0.length : Int)
                                  · rw [if_pos c45] at H
                                    have c45b0 : decide (x12_3 < (l0.length : Int)) = true := decide_eq_true c45
                                    clear c45
                                    replace H := Option.bind_eq_some_iff.mp H
                                    obtain ⟨⟨t211, t212⟩, A460, H⟩ := H
                                    replace H : (if t212 = 0 then (plimsolllaw14_LinSound.j5 k5 l0 l1 x9_2 x11_3 x12_3 t212 (!t211) l2_0 a2_1) else (plimsolllaw14_LinSound.j5 k5 l0 l1 x9_2 x11_3 x12_3 t212 true l2_0 a2_1)) = some r := H
                                    have A46 := Aside0.mk A460
                                    clear A460
                                    have HC47 := Aside0.mk H
                                    clear H
                                    obtain ⟨Ao48, co48, eo48⟩ := Kd.R_slice HO_9.out
                                    subst eo48
                                    have p210 : 0 ≤ (x12_3 : Int) := of_decide_eq_true (by first | (with_reducible assumption) | assumption)
                                    have q210 : x12_3 < (l0.length : Int) := of_decide_eq_true (by first | (with_reducible assumption) | assumption)
                                    obtain ⟨ad210, A210_0, c210_0, e210, hx210_0, hx210_1, hl210_0, hi210_0⟩ := at_T27 HR0.out x12_3 p210 q210
                                    cases e210
                                    replace hx210_0 := (HB.out.cell (World.block_lt_of_cell? w _ hx210_0)).trans hx210_0
                                    replace hx210_1 := (HB.out.cell (World.block_lt_of_cell? w _ hx210_1)).trans hx210_1
                                    have HR210_0 := Aside0.mk hi210_0
                                    have HC210_0 := Aside0.mk hl210_0
                                    clear hi210_0 hl210_0
                                    replace p210 := eq_true p210
                                    replace q210 := eq_true q210
                                    go_upto_region 20 with (first | ((with_reducible refine gate_callee (f := 15) rfl ?_); refine goesL_ (some 109) rfl rfl Try.func15 (by kernel_rfl) rfl #[.agg #[.slice A210_0 ((rd_T27 l0 x12_3).f0).length c210_0, .int .i64 ((rd_T27 l0 x12_3).f1)], .slice Ao48 x9_2.length co48] rfl (by (try simp only [List.map_toArray, List.map_cons, List.map_nil]); first | done | rfl | (simp only [List.length_drop, List.length_take]; rfl)) ?_; (with_reducible refine (lin_Holds.calls k5 _ _ ((rd_T27 l0 x12_3).f0) ((rd_T27 l0 x12_3).f1) _ _ x9_2 t211 t212 _ ?side1 ?side2 ?side3 ?side4 A46.out).mono ?_); (case side1 => repeat (first | exact (Kd.C_below HR210_0.out HB.out) | (with_reducible refine Kd.C_alloc ?_ _) | (with_reducible refine Kd.C_drewN ?_ _) | (with_reducible refine Kd.C_drew ?_))); (case side2 => exact HC210_0.out); (case side3 => repeat (first | exact (Kd.R_reads' HO_9.out).2.2 | (with_reducible refine Kd.C_alloc ?_ _) | (with_reducible refine Kd.C_drewN ?_ _) | (with_reducible refine Kd.C_drew ?_))); (case side4 => exact (Kd.R_reads' HO_9.out).2.1); rintro e w49 ⟨rfl, hb⟩; refine ⟨_, rfl, ?_⟩; have n0_ := Aside0.mk (Kd.R_below (by (with_reducible repeat (first | apply Kd.R_alloc | apply Kd.R_drewN | apply Kd.R_drew)); exact HO_9.out) hb); have n1_ := Aside0.mk (Kd.R_below (by (with_reducible repeat (first | apply Kd.R_alloc | apply Kd.R_drewN | apply Kd.R_drew)); exact HO_11.out) hb); have n2_ := Aside0.mk (blk_below (g := gb188) (o := .cells #[.slice A2_0 l2_0.length c2_0, .int .i64 a2_1] 27 (0, 0)) (by (with_reducible repeat (first | refine blk_drewN ?_ _ | refine blk_drew ?_ | refine blk_alloc ?_ _)); exact BK188.out) hb); have n3_ := Aside0.mk (below_step (by repeat (first | (with_reducible first | exact HB.out | apply below_alloc | apply pw_below_drewN | apply below_drew1 | refine below_set ?_ GE188.out) | exact HB.out)) hb); clear HO_9; clear HO_11; clear BK188; clear HB; have HO_9 := n0_; have HO_11 := n1_; have BK188 := n2_; have HB := n3_; clear n0_ n1_ n2_ n3_; (try clear hb); (try clear hb2); (try clear hk); (try clear hi)))
                                    (try simp only [Act.put, List.setIfInBounds_toArray, List.set_cons_zero, List.set_cons_succ])
                                    go_cut [117] (fun v117 wc => ∃ (kq : Nat) (x117_46 : Bool), v117 = .bool x117_46 ∧ Aside0 (plimsolllaw14_LinSound.j5 kq l0 l1 x9_2 x11_3 x12_3 t212 x117_46 l2_0 a2_1 = some r) ∧ Aside0 (kq ≤ k5) ∧ Aside0 (Kd.R (Kd.int .i64) 3 wc w.heap.size (fun k_ => some k_ ≠ (u11 : Value).ownBlock) (.slice Ao48 x9_2.length co48) x9_2) ∧ Aside0 (Kd.R (Kd.int .i64) 3 wc w.heap.size (fun k_ => some k_ ≠ ((.slice Ao48 x9_2.length co48) : Value).ownBlock) u11 x11_3) ∧ Aside0 (wc.heap[gb188]? = some (.cells #[(.slice A2_0 l2_0.length c2_0), .int .i64 a2_1] 27 (0, 0))) ∧ Aside0 (Below w.heap.size w wc))
                                    case first =>
                                      have H := HC47.out
                                      clear HC47
                                      by_cases c50 : t212 = 0
                                      · rw [if_pos c50] at H
                                        have c50b0 : (t212 == 0) = true := beq_iff_eq.mpr c50
                                        have c50b1 : (t212 != 0) = false := bne_eq_false_iff_eq.mpr c50
                                        clear c50
                                        (first | rw [c50b0] | (simp only [i64_w, i32_w]; rw [c50b0]) | skip)
                                        have H' := Aside0.mk H
                                        clear H
                                        go_wp2
                                        go_meet
                                        case rel => exact ⟨_, (!t211), (by first | rfl | (simp; done) | (simp [*]; done)), H', ⟨by have := HJ4.out; have := HK2.out; have := HK3.out; have := HJ19.out; have := HK5.out; first | omega | exact Nat.le_refl _⟩, ⟨by (with_reducible repeat (first | apply Kd.R_alloc | apply Kd.R_drewN | apply Kd.R_drew)); exact HO_9.out⟩, ⟨by (with_reducible repeat (first | apply Kd.R_alloc | apply Kd.R_drewN | apply Kd.R_drew)); exact HO_11.out⟩, ⟨by (with_reducible repeat (first | refine blk_drewN ?_ _ | refine blk_drew ?_ | refine blk_alloc ?_ _)); exact BK188.out⟩, ⟨by repeat (first | (with_reducible first | exact HB.out | apply below_alloc | apply pw_below_drewN | apply below_drew1 | refine below_set ?_ GE188.out) | exact HB.out)⟩⟩
                                      · rw [if_neg c50] at H
                                        have c50b0 : (t212 == 0) = false := beq_eq_false_iff_ne.mpr c50
                                        have c50b1 : (t212 != 0) = true := bne_iff_ne.mpr c50
                                        (first | rw [c50b0] | (simp only [i64_w, i32_w]; rw [c50b0]) | skip)
                                        have H' := Aside0.mk H
                                        clear H
                                        go_wp2
                                        go_meet
                                        case rel => exact ⟨_, (true), (by first | rfl | (simp; done) | (simp [*]; done)), H', ⟨by have := HJ4.out; have := HK2.out; have := HK3.out; have := HJ19.out; have := HK5.out; first | omega | exact Nat.le_refl _⟩, ⟨by (with_reducible repeat (first | apply Kd.R_alloc | apply Kd.R_drewN | apply Kd.R_drew)); exact HO_9.out⟩, ⟨by (with_reducible repeat (first | apply Kd.R_alloc | apply Kd.R_drewN | apply Kd.R_drew)); exact HO_11.out⟩, ⟨by (with_reducible repeat (first | refine blk_drewN ?_ _ | refine blk_drew ?_ | refine blk_alloc ?_ _)); exact BK188.out⟩, ⟨by repeat (first | (with_reducible first | exact HB.out | apply below_alloc | apply pw_below_drewN | apply below_drew1 | refine below_set ?_ GE188.out) | exact HB.out)⟩⟩
                                    case rest =>
                                      clear HC47
                                      try clear c1
                                      try clear p1
                                      try clear q1
                                      try clear hx1
                                      try clear c2
                                      try clear p2
                                      try clear q2
                                      try clear hx2
                                      try clear c3
                                      try clear c4
                                      try clear c5
                                      try clear c6
                                      try clear p6
                                      try clear c7
                                      try clear c7b0
                                      try clear c7b1
                                      try clear c8
                                      try clear c10
                                      try clear c13
                                      try clear c13b0
                                      try clear c14
                                      try clear c14b0
                                      try clear c15
                                      try clear c19
                                      try clear c19b0
                                      try clear p19
                                      try clear q19
                                      try clear hx19
                                      try clear c20
                                      try clear p20
                                      try clear q20
                                      try clear hx20
                                      try clear c21
                                      try clear c21b0
                                      try clear p21
                                      try clear q21
                                      try clear hx21
                                      try clear c22
                                      try clear c22b0
                                      try clear c22b1
                                      try clear c22b2
                                      try clear c23
                                      try clear c23b0
                                      try clear c27
                                      try clear c30
                                      try clear c30b0
                                      try clear c31
                                      try clear c31b0
                                      try clear c32
                                      try clear c32b0
                                      try clear c33
                                      try clear c33b0
                                      try clear c34
                                      try clear c34b0
                                      try clear c35
                                      try clear c35b0
                                      try clear c39
                                      try clear c39b0
                                      try clear c44
                                      try clear c44b0
                                      try clear c45
                                      try clear c45b0
                                      try clear c50
                                      try clear c50b0
                                      try clear c50b1
                                      try clear hx193_0
                                      try clear hx200_0
                                      try clear hx200_1
                                      try clear hx201_0
                                      try clear hx201_1
                                      try clear hx202_0
                                      try clear hx202_1
                                      try clear hx204_0
                                      try clear hx204_1
                                      try clear hx205_0
                                      try clear hx207_0
                                      try clear hx207_1
                                      try clear hx208_0
                                      try clear hx210_0
                                      try clear hx210_1
                                      try clear p1
                                      try clear p19
                                      try clear p193
                                      try clear p2
                                      try clear p20
                                      try clear p200
                                      try clear p201
                                      try clear p202
                                      try clear p204
                                      try clear p205
                                      try clear p207
                                      try clear p208
                                      try clear p210
                                      try clear p6
                                      try clear q1
                                      try clear q19
                                      try clear q193
                                      try clear q2
                                      try clear q20
                                      try clear q200
                                      try clear q201
                                      try clear q202
                                      try clear q204
                                      try clear q205
                                      try clear q207
                                      try clear q208
                                      try clear q210
                                      obtain ⟨kq, x117_46, rfl, HA, HJ46, HO_9, HO_11, BK188, HB⟩ := hcut
                                      cases kq with
                                      | zero => exact absurd HA.out (by simp [plimsolllaw14_LinSound.j5])
                                      | succ kj46 =>
                                        have H := HA.out
                                        clear HA
                                        simp only [plimsolllaw14_LinSound.j5] at H
                                        by_cases c51 : x117_46 = true
                                        · subst c51
                                          have H1 : ((plimsolllaw14_awake.f kj46).bind fun t213 => (if t213 = true then (some (t212 == 0)) else (some false))) = some r := by rw [if_pos rfl] at H; exact H
                                          clear H
                                          have H := H1
                                          clear H1
                                          replace H := Option.bind_eq_some_iff.mp H
                                          obtain ⟨t213, A520, H⟩ := H
                                          replace H : (if t213 = true then (some (t212 == 0)) else (some false)) = some r := H
                                          have A52 := Aside0.mk A520
                                          clear A520
                                          by_cases c53 : t213 = true
                                          · subst c53
                                            have H1 : (some (t212 == 0)) = some r := by rw [if_pos rfl] at H; exact H
                                            clear H
                                            have H := H1
                                            clear H1
                                            obtain rfl := Option.some.inj H
                                            go_wp2_with (first | ((with_reducible refine gate_callee (f := 10) rfl ?_); refine goesL_ (some 118) rfl rfl Try.func10 (by kernel_rfl) rfl #[] rfl (by (try simp only [List.map_toArray, List.map_cons, List.map_nil]); first | done | rfl | (simp only [List.length_drop, List.length_take]; rfl)) ?_; (with_reducible refine (plimsolllaw14_awake.calls kj46  true _ A52.out).mono ?_); rintro e w54 ⟨rfl, hb⟩; refine ⟨_, rfl, ?_⟩; have n0_ := Aside0.mk (Kd.R_below (by (with_reducible repeat (first | apply Kd.R_alloc | apply Kd.R_drewN | apply Kd.R_drew)); exact HO_9.out) hb); have n1_ := Aside0.mk (Kd.R_below (by (with_reducible repeat (first | apply Kd.R_alloc | apply Kd.R_drewN | apply Kd.R_drew)); exact HO_11.out) hb); have n2_ := Aside0.mk (blk_below (g := gb188) (o := .cells #[.slice A2_0 l2_0.length c2_0, .int .i64 a2_1] 27 (0, 0)) (by (with_reducible repeat (first | refine blk_drewN ?_ _ | refine blk_drew ?_ | refine blk_alloc ?_ _)); exact BK188.out) hb); have n3_ := Aside0.mk (below_step (by repeat (first | (with_reducible first | exact HB.out | apply below_alloc | apply pw_below_drewN | apply below_drew1 | refine below_set ?_ GE188.out) | exact HB.out)) hb); clear HO_9; clear HO_11; clear BK188; clear HB; have HO_9 := n0_; have HO_11 := n1_; have BK188 := n2_; have HB := n3_; clear n0_ n1_ n2_ n3_; (try clear hb); (try clear hb2); (try clear hk); (try clear hi)))
                                            go_ret
                                            exact ⟨by first | rfl | (simp [errW_none, errW_some] <;> rfl) | (simp [*, errW_none, errW_some] <;> rfl), by repeat (first | (with_reducible first | exact HB.out | apply below_alloc | apply pw_below_drewN | apply below_drew1 | refine below_set ?_ GE188.out) | exact HB.out)⟩
                                          · replace c53 := Bool.eq_false_iff.mpr c53
                                            subst c53
                                            have H1 : (some false) = some r := by rw [if_neg (show ¬ (false = true) by decide)] at H; exact H
                                            clear H
                                            have H := H1
                                            clear H1
                                            obtain rfl := Option.some.inj H
                                            go_wp2_with (first | ((with_reducible refine gate_callee (f := 10) rfl ?_); refine goesL_ (some 118) rfl rfl Try.func10 (by kernel_rfl) rfl #[] rfl (by (try simp only [List.map_toArray, List.map_cons, List.map_nil]); first | done | rfl | (simp only [List.length_drop, List.length_take]; rfl)) ?_; (with_reducible refine (plimsolllaw14_awake.calls kj46  false _ A52.out).mono ?_); rintro e w55 ⟨rfl, hb⟩; refine ⟨_, rfl, ?_⟩; have n0_ := Aside0.mk (Kd.R_below (by (with_reducible repeat (first | apply Kd.R_alloc | apply Kd.R_drewN | apply Kd.R_drew)); exact HO_9.out) hb); have n1_ := Aside0.mk (Kd.R_below (by (with_reducible repeat (first | apply Kd.R_alloc | apply Kd.R_drewN | apply Kd.R_drew)); exact HO_11.out) hb); have n2_ := Aside0.mk (blk_below (g := gb188) (o := .cells #[.slice A2_0 l2_0.length c2_0, .int .i64 a2_1] 27 (0, 0)) (by (with_reducible repeat (first | refine blk_drewN ?_ _ | refine blk_drew ?_ | refine blk_alloc ?_ _)); exact BK188.out) hb); have n3_ := Aside0.mk (below_step (by repeat (first | (with_reducible first | exact HB.out | apply below_alloc | apply pw_below_drewN | apply below_drew1 | refine below_set ?_ GE188.out) | exact HB.out)) hb); clear HO_9; clear HO_11; clear BK188; clear HB; have HO_9 := n0_; have HO_11 := n1_; have BK188 := n2_; have HB := n3_; clear n0_ n1_ n2_ n3_; (try clear hb); (try clear hb2); (try clear hk); (try clear hi)))
                                            go_ret
                                            exact ⟨by first | rfl | (simp [errW_none, errW_some] <;> rfl) | (simp [*, errW_none, errW_some] <;> rfl), by repeat (first | (with_reducible first | exact HB.out | apply below_alloc | apply pw_below_drewN | apply below_drew1 | refine below_set ?_ GE188.out) | exact HB.out)⟩
                                        · replace c51 := Bool.eq_false_iff.mpr c51
                                          subst c51
                                          have H1 : (if x12_3 < (l1.length : Int) then (if 0 ≤ x12_3 then (if x11_3.length < 17592186044416 then (plimsolllaw14_LinSound.l1 kj46 l0 l1 x9_2 (x11_3 ++ [wrap64 (rd l1 x12_3)]) (wrap64 (x12_3 + 1)) l2_0 a2_1) else (none)) else (none)) else (if x11_3.length < 17592186044416 then (plimsolllaw14_LinSound.l1 kj46 l0 l1 x9_2 (x11_3 ++ [0]) (wrap64 (x12_3 + 1)) l2_0 a2_1) else (none))) = some r := by rw [if_neg (show ¬ (false = true) by decide)] at H; exact H
                                          clear H
                                          have H := H1
                                          clear H1
                                          by_cases c56 : x12_3 < (l1.length : Int)
                                          · rw [if_pos c56] at H
                                            have c56b0 : decide (x12_3 < (l1.length : Int)) = true := decide_eq_true c56
                                            clear c56
                                            by_cases c57 : 0 ≤ x12_3
                                            · rw [if_pos c57] at H
                                              have c57b0 : decide (0 ≤ x12_3) = true := decide_eq_true c57
                                              clear c57
                                              by_cases c58 : x11_3.length < 17592186044416
                                              · rw [if_pos c58] at H
                                                have LMc58 := Aside0.mk c58
                                                clear c58
                                                obtain ⟨y215, hy215⟩ : ∃ y_ : List Int, y_ = (x11_3 ++ [wrap64 (rd l1 x12_3)]) := ⟨_, rfl⟩
                                                replace H : (plimsolllaw14_LinSound.l1 kj46 l0 l1 x9_2 y215 (wrap64 (x12_3 + 1)) l2_0 a2_1) = some r := by first | (rw [hy215]; with_reducible exact H) | (have H2_ := (Option.bind_some _ _).symm.trans H; rw [hy215]; with_reducible exact H2_) | (have H2_ := (Option.bind_some _ _).symm.trans H; with_reducible exact H2_) | with_reducible exact H | (rw [hy215]; exact H) | exact H
                                                have Ny215 := Aside0.mk hy215
                                                clear hy215
                                                have H' := Aside0.mk H
                                                clear H
                                                have p214 : 0 ≤ (x12_3 : Int) := of_decide_eq_true (by first | (with_reducible assumption) | assumption)
                                                have q214 : x12_3 < (l1.length : Int) := of_decide_eq_true (by first | (with_reducible assumption) | assumption)
                                                obtain ⟨ad214, e214, hx214_0⟩ := Kd.at_int HR1.out x12_3 p214 q214
                                                cases e214
                                                replace hx214_0 := (HB.out.cell (World.block_lt_of_cell? w _ hx214_0)).trans hx214_0
                                                replace p214 := eq_true p214
                                                replace q214 := eq_true q214
                                                go_wp2_with (first | ((with_reducible refine gate_builtin (b := .append) (xs := #[.tmp 132, .tmp 134]) rfl ?_); (try (refine gate_guard (by rfl) ?_; dsimp only)); at_builtin; refine Kd.R_append (Kd.int .i64) (w0 := w) w.heap.size rfl (.tmp 132) (.tmp 134) 23 3 (.int .i64 0) 8 rfl Try.underlying23 info3 rfl (by decide) (by omega) u11 x11_3 (wrap64 (rd l1 x12_3)) [.int .i64 (wrap64 (rd l1 x12_3))] (fun k_ => some k_ ≠ (.slice Ao48 x9_2.length co48 : Value).ownBlock) (fun _ => False) rfl rfl ?aP (fun _ hk => hk.elim) ?aF ?aO ?aB ?aS ?aL ?_; (case aP => exact rfl); (case aB => exact (by repeat (first | (with_reducible first | exact HB.out | apply below_alloc | apply pw_below_drewN | apply below_drew1 | refine below_set ?_ GE188.out) | exact HB.out))); (case aF => exact (fun k_ hk => Kd.fresh' (Kd.R_lt (by (with_reducible repeat (first | apply Kd.R_alloc | apply Kd.R_drewN | apply Kd.R_drew)); exact HO_9.out)) k_ hk)); (case aO => exact (by (with_reducible repeat (first | apply Kd.R_alloc | apply Kd.R_drewN | apply Kd.R_drew)); exact HO_11.out)); (case aS => exact (below_size (by repeat (first | (with_reducible first | exact HB.out | apply below_alloc | apply pw_below_drewN | apply below_drew1 | refine below_set ?_ GE188.out) | exact HB.out)))); (case aL => have := LMc58.out; omega); intro v216 w59 ho hb hg hat; rw [← Ny215.out] at ho; have n0_ := Aside0.mk (Kd.R_after (ok := (fun _ => True)) (by (with_reducible repeat (first | apply Kd.R_alloc | apply Kd.R_drewN | apply Kd.R_drew)); exact Kd.R_mono HO_9.out (fun _ hk => ⟨trivial, hk⟩)) hg hat); have n1_ := Aside0.mk (blk_grown (g := gb188) (o := .cells #[.slice A2_0 l2_0.length c2_0, .int .i64 a2_1] 27 (0, 0)) (by (with_reducible repeat (first | refine blk_drewN ?_ _ | refine blk_drew ?_ | refine blk_alloc ?_ _)); exact BK188.out) hg (Kd.R_ne HO_11.out BK188.out (by decide))); have n2_ := Aside0.mk (hb); have n3_ := Aside0.mk (ho); clear HO_9; clear BK188; clear HB; clear HO_11; have HO_9 := n0_; have BK188 := n1_; have HB := n2_; have HO217 := n3_; clear n0_ n1_ n2_ n3_; clear ho hb hg hat))
                                                go_roundg kj46
                                                case measure => have := HJ4.out; have := HK2.out; have := HK3.out; have := HJ19.out; have := HK5.out; have := HJ46.out; omega
                                                case rel => exact ⟨(y215), (wrap64 (x12_3 + 1)), (by first | rfl | (simp; done) | (simp [*]; done)), H', ⟨by have := HJ4.out; have := HK2.out; have := HK3.out; have := HJ19.out; have := HK5.out; have := HJ46.out; omega⟩, ⟨by (with_reducible repeat (first | apply Kd.R_alloc | apply Kd.R_drewN | apply Kd.R_drew)); exact Kd.R_mono HO_9.out (fun _ hk => hk.2)⟩, ⟨by (with_reducible repeat (first | apply Kd.R_alloc | apply Kd.R_drewN | apply Kd.R_drew)); exact HO217.out⟩, ⟨by (with_reducible repeat (first | refine blk_drewN ?_ _ | refine blk_drew ?_ | refine blk_alloc ?_ _)); exact BK188.out⟩, ⟨by repeat (first | (with_reducible first | exact HB.out | apply below_alloc | apply pw_below_drewN | apply below_drew1 | refine below_set ?_ GE188.out) | exact HB.out)⟩⟩
                                              · rw [if_neg c58] at H
                                                exact absurd H (by simp)
                                            · rw [if_neg c57] at H
                                              exact absurd H (by simp)
                                          · rw [if_neg c56] at H
                                            have c56b0 : decide (x12_3 < (l1.length : Int)) = false := decide_eq_false c56
                                            clear c56
                                            by_cases c60 : x11_3.length < 17592186044416
                                            · rw [if_pos c60] at H
                                              have LMc60 := Aside0.mk c60
                                              clear c60
                                              obtain ⟨y218, hy218⟩ : ∃ y_ : List Int, y_ = (x11_3 ++ [0]) := ⟨_, rfl⟩
                                              replace H : (plimsolllaw14_LinSound.l1 kj46 l0 l1 x9_2 y218 (wrap64 (x12_3 + 1)) l2_0 a2_1) = some r := by first | (rw [hy218]; with_reducible exact H) | (have H2_ := (Option.bind_some _ _).symm.trans H; rw [hy218]; with_reducible exact H2_) | (have H2_ := (Option.bind_some _ _).symm.trans H; with_reducible exact H2_) | with_reducible exact H | (rw [hy218]; exact H) | exact H
                                              have Ny218 := Aside0.mk hy218
                                              clear hy218
                                              have H' := Aside0.mk H
                                              clear H
                                              go_wp2_with (first | ((with_reducible refine gate_builtin (b := .append) (xs := #[.tmp 132, .tmp 134]) rfl ?_); (try (refine gate_guard (by rfl) ?_; dsimp only)); at_builtin; refine Kd.R_append (Kd.int .i64) (w0 := w) w.heap.size rfl (.tmp 132) (.tmp 134) 23 3 (.int .i64 0) 8 rfl Try.underlying23 info3 rfl (by decide) (by omega) u11 x11_3 0 [.int .i64 0] (fun k_ => some k_ ≠ (.slice Ao48 x9_2.length co48 : Value).ownBlock) (fun _ => False) rfl rfl ?aP (fun _ hk => hk.elim) ?aF ?aO ?aB ?aS ?aL ?_; (case aP => exact rfl); (case aB => exact (by repeat (first | (with_reducible first | exact HB.out | apply below_alloc | apply pw_below_drewN | apply below_drew1 | refine below_set ?_ GE188.out) | exact HB.out))); (case aF => exact (fun k_ hk => Kd.fresh' (Kd.R_lt (by (with_reducible repeat (first | apply Kd.R_alloc | apply Kd.R_drewN | apply Kd.R_drew)); exact HO_9.out)) k_ hk)); (case aO => exact (by (with_reducible repeat (first | apply Kd.R_alloc | apply Kd.R_drewN | apply Kd.R_drew)); exact HO_11.out)); (case aS => exact (below_size (by repeat (first | (with_reducible first | exact HB.out | apply below_alloc | apply pw_below_drewN | apply below_drew1 | refine below_set ?_ GE188.out) | exact HB.out)))); (case aL => have := LMc60.out; omega); intro v219 w61 ho hb hg hat; rw [← Ny218.out] at ho; have n0_ := Aside0.mk (Kd.R_after (ok := (fun _ => True)) (by (with_reducible repeat (first | apply Kd.R_alloc | apply Kd.R_drewN | apply Kd.R_drew)); exact Kd.R_mono HO_9.out (fun _ hk => ⟨trivial, hk⟩)) hg hat); have n1_ := Aside0.mk (blk_grown (g := gb188) (o := .cells #[.slice A2_0 l2_0.length c2_0, .int .i64 a2_1] 27 (0, 0)) (by (with_reducible repeat (first | refine blk_drewN ?_ _ | refine blk_drew ?_ | refine blk_alloc ?_ _)); exact BK188.out) hg (Kd.R_ne HO_11.out BK188.out (by decide))); have n2_ := Aside0.mk (hb); have n3_ := Aside0.mk (ho); clear HO_9; clear BK188; clear HB; clear HO_11; have HO_9 := n0_; have BK188 := n1_; have HB := n2_; have HO220 := n3_; clear n0_ n1_ n2_ n3_; clear ho hb hg hat))
                                              go_roundg kj46
                                              case measure => have := HJ4.out; have := HK2.out; have := HK3.out; have := HJ19.out; have := HK5.out; have := HJ46.out; omega
                                              case rel => exact ⟨(y218), (wrap64 (x12_3 + 1)), (by first | rfl | (simp; done) | (simp [*]; done)), H', ⟨by have := HJ4.out; have := HK2.out; have := HK3.out; have := HJ19.out; have := HK5.out; have := HJ46.out; omega⟩, ⟨by (with_reducible repeat (first | apply Kd.R_alloc | apply Kd.R_drewN | apply Kd.R_drew)); exact Kd.R_mono HO_9.out (fun _ hk => hk.2)⟩, ⟨by (with_reducible repeat (first | apply Kd.R_alloc | apply Kd.R_drewN | apply Kd.R_drew)); exact HO220.out⟩, ⟨by (with_reducible repeat (first | refine blk_drewN ?_ _ | refine blk_drew ?_ | refine blk_alloc ?_ _)); exact BK188.out⟩, ⟨by repeat (first | (with_reducible first | exact HB.out | apply below_alloc | apply pw_below_drewN | apply below_drew1 | refine below_set ?_ GE188.out) | exact HB.out)⟩⟩
                                            · rw [if_neg c60] at H
                                              exact absurd H (by simp)
                                  · rw [if_neg c45] at H
                                    exact absurd H (by simp)
                                · rw [if_neg c44] at H
                                  exact absurd H (by simp)
                  · rw [if_neg c19] at H
                    have c19b0 : decide (x12_3 < (l0.length : Int)) = false := decide_eq_false c19
                    clear c19
                    have HC62 := Aside0.mk H
                    clear H
                    go_upto_region 26 with (fail)
                    go_cut [148] (fun v148 wc => ∃ (kq : Nat) (x148_61 : Bool), v148 = .bool x148_61 ∧ Aside0 (plimsolllaw14_LinSound.j6 kq x9_2 x148_61 l2_0 a2_1 = some r) ∧ Aside0 (kq ≤ k3) ∧ Aside0 (Kd.R (Kd.int .i64) 3 wc w.heap.size (fun _ => True) u9 x9_2) ∧ Aside0 (wc.heap[gb188]? = some (.cells #[(.slice A2_0 l2_0.length c2_0), .int .i64 a2_1] 27 (0, 0))) ∧ Aside0 (Below w.heap.size w wc))
                    case first =>
                      have H := HC62.out
                      clear HC62
                      by_cases c63 : (l2_0.length : Int) = (x9_2.length : Int)
                      · rw [if_pos c63] at H
                        have c63b0 : ((l2_0.length : Int) == (x9_2.length : Int)) = true := beq_iff_eq.mpr c63
                        have c63b1 : ((l2_0.length : Int) != (x9_2.length : Int)) = false := bne_eq_false_iff_eq.mpr c63
                        have c63b2 : (l2_0.length == x9_2.length) = true := by first | simpa using c63 | (simp at c63 ⊢; omega)
                        clear c63
                        (first | rw [c63b0] | (simp only [i64_w, i32_w]; rw [c63b0]) | skip)
                        replace H := Option.bind_eq_some_iff.mp H
                        obtain ⟨t221, A640, H⟩ := H
                        replace H : (plimsolllaw14_LinSound.j6 k3 x9_2 (!t221) l2_0 a2_1) = some r := H
                        have A64 := Aside0.mk A640
                        clear A640
                        have H' := Aside0.mk H
                        clear H
                        have hcz65_0 : wr.cell? ⟨gb188, 0, none⟩ = some (.slice A2_0 l2_0.length c2_0) := (blk_cell BK188.out 0).trans rfl
                        have hcz65_1 : wr.cell? ⟨gb188, 1, none⟩ = some (.int .i64 a2_1) := (blk_cell BK188.out 1).trans rfl
                        have hfz65_0 := blk_frozen BK188.out 0
                        have hfz65_1 := blk_frozen BK188.out 1
                        obtain ⟨Ao66, co66, eo66⟩ := Kd.R_slice HO_9.out
                        subst eo66
                        obtain ⟨Ao67, co67, eo67⟩ := Kd.R_slice HO_11.out
                        subst eo67
                        go_wp2_with (first | (go_at_call 14; (with_reducible refine (lin_Proves.calls k3 _ _ l0 _ _ x11_3 _ _ l2_0 a2_1 t221 _ ?side1 ?side2 ?side3 ?side4 ?side5 ?side6 A64.out).mono ?_); (case side1 => repeat (first | exact (Kd.C_below HR0.out HB.out) | (with_reducible refine Kd.C_alloc ?_ _) | (with_reducible refine Kd.C_drewN ?_ _) | (with_reducible refine Kd.C_drew ?_))); (case side2 => exact HC0.out); (case side3 => repeat (first | exact (Kd.R_reads' HO_11.out).2.2 | (with_reducible refine Kd.C_alloc ?_ _) | (with_reducible refine Kd.C_drewN ?_ _) | (with_reducible refine Kd.C_drew ?_))); (case side4 => exact (Kd.R_reads' HO_11.out).2.1); (case side5 => repeat (first | exact (Kd.C_below HR2_0.out HB.out) | (with_reducible refine Kd.C_alloc ?_ _) | (with_reducible refine Kd.C_drewN ?_ _) | (with_reducible refine Kd.C_drew ?_))); (case side6 => exact HC2_0.out); rintro e w68 ⟨rfl, hb⟩; have n0_ := Aside0.mk (Kd.R_below (by (with_reducible repeat (first | apply Kd.R_alloc | apply Kd.R_drewN | apply Kd.R_drew)); exact HO_9.out) hb); have n1_ := Aside0.mk (Kd.R_below (by (with_reducible repeat (first | apply Kd.R_alloc | apply Kd.R_drewN | apply Kd.R_drew)); exact HO_11.out) hb); have n2_ := Aside0.mk (blk_below (g := gb188) (o := .cells #[.slice A2_0 l2_0.length c2_0, .int .i64 a2_1] 27 (0, 0)) (by (with_reducible repeat (first | refine blk_drewN ?_ _ | refine blk_drew ?_ | refine blk_alloc ?_ _)); exact BK188.out) hb); have n3_ := Aside0.mk (below_step (by repeat (first | (with_reducible first | exact HB.out | apply below_alloc | apply pw_below_drewN | apply below_drew1 | refine below_set ?_ GE188.out) | exact HB.out)) hb); clear HO_9; clear HO_11; clear BK188; clear HB; have HO_9 := n0_; have HO_11 := n1_; have BK188 := n2_; have HB := n3_; clear n0_ n1_ n2_ n3_; (try clear hb); (try clear hb2); (try clear hk); (try clear hi)))
                        go_meet
                        case rel => exact ⟨_, (!t221), (by first | rfl | (simp; done) | (simp [*]; done)), H', ⟨by have := HJ4.out; have := HK2.out; have := HK3.out; first | omega | exact Nat.le_refl _⟩, ⟨by (with_reducible repeat (first | apply Kd.R_alloc | apply Kd.R_drewN | apply Kd.R_drew)); exact Kd.R_mono HO_9.out (fun _ hk => trivial)⟩, ⟨by (with_reducible repeat (first | refine blk_drewN ?_ _ | refine blk_drew ?_ | refine blk_alloc ?_ _)); exact BK188.out⟩, ⟨by repeat (first | (with_reducible first | exact HB.out | apply below_alloc | apply pw_below_drewN | apply below_drew1 | refine below_set ?_ GE188.out) | exact HB.out)⟩⟩
                      · rw [if_neg c63] at H
                        have c63b0 : ((l2_0.length : Int) == (x9_2.length : Int)) = false := beq_eq_false_iff_ne.mpr c63
                        have c63b1 : ((l2_0.length : Int) != (x9_2.length : Int)) = true := bne_iff_ne.mpr c63
                        have c63b2 : (l2_0.length == x9_2.length) = false := by first | simpa using c63 | (simp at c63 ⊢; omega)
                        (first | rw [c63b0] | (simp only [i64_w, i32_w]; rw [c63b0]) | skip)
                        have H' := Aside0.mk H
                        clear H
                        have hcz69_0 : wr.cell? ⟨gb188, 0, none⟩ = some (.slice A2_0 l2_0.length c2_0) := (blk_cell BK188.out 0).trans rfl
                        have hcz69_1 : wr.cell? ⟨gb188, 1, none⟩ = some (.int .i64 a2_1) := (blk_cell BK188.out 1).trans rfl
                        have hfz69_0 := blk_frozen BK188.out 0
                        have hfz69_1 := blk_frozen BK188.out 1
                        obtain ⟨Ao70, co70, eo70⟩ := Kd.R_slice HO_9.out
                        subst eo70
                        go_wp2
                        go_meet
                        case rel => exact ⟨_, (true), (by first | rfl | (simp; done) | (simp [*]; done)), H', ⟨by have := HJ4.out; have := HK2.out; have := HK3.out; first | omega | exact Nat.le_refl _⟩, ⟨by (with_reducible repeat (first | apply Kd.R_alloc | apply Kd.R_drewN | apply Kd.R_drew)); exact Kd.R_mono HO_9.out (fun _ hk => trivial)⟩, ⟨by (with_reducible repeat (first | refine blk_drewN ?_ _ | refine blk_drew ?_ | refine blk_alloc ?_ _)); exact BK188.out⟩, ⟨by repeat (first | (with_reducible first | exact HB.out | apply below_alloc | apply pw_below_drewN | apply below_drew1 | refine below_set ?_ GE188.out) | exact HB.out)⟩⟩
                    case rest =>
                      clear HC62
                      try clear c1
                      try clear p1
                      try clear q1
                      try clear hx1
                      try clear c2
                      try clear p2
                      try clear q2
                      try clear hx2
                      try clear c3
                      try clear c4
                      try clear c5
                      try clear c6
                      try clear p6
                      try clear c7
                      try clear c7b0
                      try clear c7b1
                      try clear c8
                      try clear c10
                      try clear c13
                      try clear c13b0
                      try clear c14
                      try clear c14b0
                      try clear c15
                      try clear c19
                      try clear c19b0
                      try clear p19
                      try clear q19
                      try clear hx19
                      try clear c20
                      try clear p20
                      try clear q20
                      try clear hx20
                      try clear c21
                      try clear c21b0
                      try clear p21
                      try clear q21
                      try clear hx21
                      try clear c22
                      try clear c22b0
                      try clear c22b1
                      try clear c22b2
                      try clear c23
                      try clear c23b0
                      try clear c27
                      try clear c30
                      try clear c30b0
                      try clear c31
                      try clear c31b0
                      try clear c32
                      try clear c32b0
                      try clear c33
                      try clear c33b0
                      try clear c34
                      try clear c34b0
                      try clear c35
                      try clear c35b0
                      try clear c39
                      try clear c39b0
                      try clear c44
                      try clear c44b0
                      try clear c45
                      try clear c45b0
                      try clear c50
                      try clear c50b0
                      try clear c50b1
                      try clear c51
                      try clear c53
                      try clear c56
                      try clear c56b0
                      try clear c57
                      try clear c57b0
                      try clear c58
                      try clear c60
                      try clear c63
                      try clear c63b0
                      try clear c63b1
                      try clear c63b2
                      try clear p64
                      try clear hcz65_0
                      try clear hcz65_1
                      try clear hcz69_0
                      try clear hcz69_1
                      try clear hfz65_0
                      try clear hfz65_1
                      try clear hfz69_0
                      try clear hfz69_1
                      try clear hx193_0
                      try clear hx200_0
                      try clear hx200_1
                      try clear hx201_0
                      try clear hx201_1
                      try clear hx202_0
                      try clear hx202_1
                      try clear hx204_0
                      try clear hx204_1
                      try clear hx205_0
                      try clear hx207_0
                      try clear hx207_1
                      try clear hx208_0
                      try clear hx210_0
                      try clear hx210_1
                      try clear hx214_0
                      try clear p1
                      try clear p19
                      try clear p193
                      try clear p2
                      try clear p20
                      try clear p200
                      try clear p201
                      try clear p202
                      try clear p204
                      try clear p205
                      try clear p207
                      try clear p208
                      try clear p21
                      try clear p210
                      try clear p214
                      try clear p6
                      try clear q1
                      try clear q19
                      try clear q193
                      try clear q2
                      try clear q20
                      try clear q200
                      try clear q201
                      try clear q202
                      try clear q204
                      try clear q205
                      try clear q207
                      try clear q208
                      try clear q21
                      try clear q210
                      try clear q214
                      obtain ⟨kq, x148_61, rfl, HA, HJ61, HO_9, BK188, HB⟩ := hcut
                      cases kq with
                      | zero => exact absurd HA.out (by simp [plimsolllaw14_LinSound.j6])
                      | succ kj61 =>
                        have H := HA.out
                        clear HA
                        simp only [plimsolllaw14_LinSound.j6] at H
                        by_cases c71 : x148_61 = true
                        · subst c71
                          have H1 : ((plimsolllaw14_awake.f kj61).bind fun t222 => (some t222)) = some r := by rw [if_pos rfl] at H; exact H
                          clear H
                          have H := H1
                          clear H1
                          replace H := Option.bind_eq_some_iff.mp H
                          obtain ⟨t222, A720, H⟩ := H
                          replace H : (some t222) = some r := H
                          have A72 := Aside0.mk A720
                          clear A720
                          obtain rfl := Option.some.inj H
                          go_wp2_with (first | ((with_reducible refine gate_callee (f := 10) rfl ?_); refine goesL_ (some 149) rfl rfl Try.func10 (by kernel_rfl) rfl #[] rfl (by (try simp only [List.map_toArray, List.map_cons, List.map_nil]); first | done | rfl | (simp only [List.length_drop, List.length_take]; rfl)) ?_; (with_reducible refine (plimsolllaw14_awake.calls kj61  t222 _ A72.out).mono ?_); rintro e w73 ⟨rfl, hb⟩; refine ⟨_, rfl, ?_⟩; have n0_ := Aside0.mk (Kd.R_below (by (with_reducible repeat (first | apply Kd.R_alloc | apply Kd.R_drewN | apply Kd.R_drew)); exact HO_9.out) hb); have n1_ := Aside0.mk (blk_below (g := gb188) (o := .cells #[.slice A2_0 l2_0.length c2_0, .int .i64 a2_1] 27 (0, 0)) (by (with_reducible repeat (first | refine blk_drewN ?_ _ | refine blk_drew ?_ | refine blk_alloc ?_ _)); exact BK188.out) hb); have n2_ := Aside0.mk (below_step (by repeat (first | (with_reducible first | exact HB.out | apply below_alloc | apply pw_below_drewN | apply below_drew1 | refine below_set ?_ GE188.out) | exact HB.out)) hb); clear HO_9; clear BK188; clear HB; have HO_9 := n0_; have BK188 := n1_; have HB := n2_; clear n0_ n1_ n2_; (try clear hb); (try clear hb2); (try clear hk); (try clear hi)))
                          go_ret
                          exact ⟨by first | rfl | (simp [errW_none, errW_some] <;> rfl) | (simp [*, errW_none, errW_some] <;> rfl), by repeat (first | (with_reducible first | exact HB.out | apply below_alloc | apply pw_below_drewN | apply below_drew1 | refine below_set ?_ GE188.out) | exact HB.out)⟩
                        · replace c71 := Bool.eq_false_iff.mpr c71
                          subst c71
                          have H1 : ((lin_Holds.f kj61 l2_0 a2_1 x9_2).bind fun bt223 => ((plimsolllaw14_awake.f kj61).bind fun t225 => (if t225 = true then (if bt223.2 = 0 then (some bt223.1) else (some false)) else (some false)))) = some r := by rw [if_neg (show ¬ (false = true) by decide)] at H; exact H
                          clear H
                          have H := H1
                          clear H1
                          replace H := Option.bind_eq_some_iff.mp H
                          obtain ⟨⟨t223, t224⟩, A740, H⟩ := H
                          replace H : ((plimsolllaw14_awake.f kj61).bind fun t225 => (if t225 = true then (if t224 = 0 then (some t223) else (some false)) else (some false))) = some r := H
                          have A74 := Aside0.mk A740
                          clear A740
                          replace H := Option.bind_eq_some_iff.mp H
                          obtain ⟨t225, A750, H⟩ := H
                          replace H : (if t225 = true then (if t224 = 0 then (some t223) else (some false)) else (some false)) = some r := H
                          have A75 := Aside0.mk A750
                          clear A750
                          by_cases c76 : t225 = true
                          · subst c76
                            have H1 : (if t224 = 0 then (some t223) else (some false)) = some r := by rw [if_pos rfl] at H; exact H
                            clear H
                            have H := H1
                            clear H1
                            by_cases c77 : t224 = 0
                            · rw [if_pos c77] at H
                              have c77b0 : (t224 == 0) = true := beq_iff_eq.mpr c77
                              have c77b1 : (t224 != 0) = false := bne_eq_false_iff_eq.mpr c77
                              clear c77
                              obtain rfl := Option.some.inj H
                              have hcz78_0 : wc.cell? ⟨gb188, 0, none⟩ = some (.slice A2_0 l2_0.length c2_0) := (blk_cell BK188.out 0).trans rfl
                              have hcz78_1 : wc.cell? ⟨gb188, 1, none⟩ = some (.int .i64 a2_1) := (blk_cell BK188.out 1).trans rfl
                              have hfz78_0 := blk_frozen BK188.out 0
                              have hfz78_1 := blk_frozen BK188.out 1
                              obtain ⟨Ao79, co79, eo79⟩ := Kd.R_slice HO_9.out
                              subst eo79
                              go_wp2_with (first | ((with_reducible refine gate_callee (f := 15) rfl ?_); refine goesL_ (some 153) rfl rfl Try.func15 (by kernel_rfl) rfl #[.agg #[.slice A2_0 l2_0.length c2_0, .int .i64 a2_1], .slice Ao79 x9_2.length co79] rfl (by (try simp only [List.map_toArray, List.map_cons, List.map_nil]); first | done | rfl | (simp only [List.length_drop, List.length_take]; rfl)) ?_; (with_reducible refine (lin_Holds.calls kj61 _ _ l2_0 a2_1 _ _ x9_2 t223 t224 _ ?side1 ?side2 ?side3 ?side4 A74.out).mono ?_); (case side1 => repeat (first | exact (Kd.C_below HR2_0.out HB.out) | (with_reducible refine Kd.C_alloc ?_ _) | (with_reducible refine Kd.C_drewN ?_ _) | (with_reducible refine Kd.C_drew ?_))); (case side2 => exact HC2_0.out); (case side3 => repeat (first | exact (Kd.R_reads' HO_9.out).2.2 | (with_reducible refine Kd.C_alloc ?_ _) | (with_reducible refine Kd.C_drewN ?_ _) | (with_reducible refine Kd.C_drew ?_))); (case side4 => exact (Kd.R_reads' HO_9.out).2.1); rintro e w80 ⟨rfl, hb⟩; refine ⟨_, rfl, ?_⟩; have n0_ := Aside0.mk (Kd.R_below (by (with_reducible repeat (first | apply Kd.R_alloc | apply Kd.R_drewN | apply Kd.R_drew)); exact HO_9.out) hb); have n1_ := Aside0.mk (blk_below (g := gb188) (o := .cells #[.slice A2_0 l2_0.length c2_0, .int .i64 a2_1] 27 (0, 0)) (by (with_reducible repeat (first | refine blk_drewN ?_ _ | refine blk_drew ?_ | refine blk_alloc ?_ _)); exact BK188.out) hb); have n2_ := Aside0.mk (below_step (by repeat (first | (with_reducible first | exact HB.out | apply below_alloc | apply pw_below_drewN | apply below_drew1 | refine below_set ?_ GE188.out) | exact HB.out)) hb); clear HO_9; clear BK188; clear HB; have HO_9 := n0_; have BK188 := n1_; have HB := n2_; clear n0_ n1_ n2_; (try clear hb); (try clear hb2); (try clear hk); (try clear hi)) | ((with_reducible refine gate_callee (f := 10) rfl ?_); refine goesL_ (some 156) rfl rfl Try.func10 (by kernel_rfl) rfl #[] rfl (by (try simp only [List.map_toArray, List.map_cons, List.map_nil]); first | done | rfl | (simp only [List.length_drop, List.length_take]; rfl)) ?_; (with_reducible refine (plimsolllaw14_awake.calls kj61  true _ A75.out).mono ?_); rintro e w81 ⟨rfl, hb⟩; refine ⟨_, rfl, ?_⟩; have n0_ := Aside0.mk (Kd.R_below (by (with_reducible repeat (first | apply Kd.R_alloc | apply Kd.R_drewN | apply Kd.R_drew)); exact HO_9.out) hb); have n1_ := Aside0.mk (blk_below (g := gb188) (o := .cells #[.slice A2_0 l2_0.length c2_0, .int .i64 a2_1] 27 (0, 0)) (by (with_reducible repeat (first | refine blk_drewN ?_ _ | refine blk_drew ?_ | refine blk_alloc ?_ _)); exact BK188.out) hb); have n2_ := Aside0.mk (below_step (by repeat (first | (with_reducible first | exact HB.out | apply below_alloc | apply pw_below_drewN | apply below_drew1 | refine below_set ?_ GE188.out) | exact HB.out)) hb); clear HO_9; clear BK188; clear HB; have HO_9 := n0_; have BK188 := n1_; have HB := n2_; clear n0_ n1_ n2_; (try clear hb); (try clear hb2); (try clear hk); (try clear hi)))
                              go_ret
                              exact ⟨by first | rfl | (simp [errW_none, errW_some] <;> rfl) | (simp [*, errW_none, errW_some] <;> rfl), by repeat (first | (with_reducible first | exact HB.out | apply below_alloc | apply pw_below_drewN | apply below_drew1 | refine below_set ?_ GE188.out) | exact HB.out)⟩
                            · rw [if_neg c77] at H
                              have c77b0 : (t224 == 0) = false := beq_eq_false_iff_ne.mpr c77
                              have c77b1 : (t224 != 0) = true := bne_iff_ne.mpr c77
                              obtain rfl := Option.some.inj H
                              have hcz82_0 : wc.cell? ⟨gb188, 0, none⟩ = some (.slice A2_0 l2_0.length c2_0) := (blk_cell BK188.out 0).trans rfl
                              have hcz82_1 : wc.cell? ⟨gb188, 1, none⟩ = some (.int .i64 a2_1) := (blk_cell BK188.out 1).trans rfl
                              have hfz82_0 := blk_frozen BK188.out 0
                              have hfz82_1 := blk_frozen BK188.out 1
                              obtain ⟨Ao83, co83, eo83⟩ := Kd.R_slice HO_9.out
                              subst eo83
                              go_wp2_with (first | ((with_reducible refine gate_callee (f := 15) rfl ?_); refine goesL_ (some 153) rfl rfl Try.func15 (by kernel_rfl) rfl #[.agg #[.slice A2_0 l2_0.length c2_0, .int .i64 a2_1], .slice Ao83 x9_2.length co83] rfl (by (try simp only [List.map_toArray, List.map_cons, List.map_nil]); first | done | rfl | (simp only [List.length_drop, List.length_take]; rfl)) ?_; (with_reducible refine (lin_Holds.calls kj61 _ _ l2_0 a2_1 _ _ x9_2 t223 t224 _ ?side1 ?side2 ?side3 ?side4 A74.out).mono ?_); (case side1 => repeat (first | exact (Kd.C_below HR2_0.out HB.out) | (with_reducible refine Kd.C_alloc ?_ _) | (with_reducible refine Kd.C_drewN ?_ _) | (with_reducible refine Kd.C_drew ?_))); (case side2 => exact HC2_0.out); (case side3 => repeat (first | exact (Kd.R_reads' HO_9.out).2.2 | (with_reducible refine Kd.C_alloc ?_ _) | (with_reducible refine Kd.C_drewN ?_ _) | (with_reducible refine Kd.C_drew ?_))); (case side4 => exact (Kd.R_reads' HO_9.out).2.1); rintro e w84 ⟨rfl, hb⟩; refine ⟨_, rfl, ?_⟩; have n0_ := Aside0.mk (Kd.R_below (by (with_reducible repeat (first | apply Kd.R_alloc | apply Kd.R_drewN | apply Kd.R_drew)); exact HO_9.out) hb); have n1_ := Aside0.mk (blk_below (g := gb188) (o := .cells #[.slice A2_0 l2_0.length c2_0, .int .i64 a2_1] 27 (0, 0)) (by (with_reducible repeat (first | refine blk_drewN ?_ _ | refine blk_drew ?_ | refine blk_alloc ?_ _)); exact BK188.out) hb); have n2_ := Aside0.mk (below_step (by repeat (first | (with_reducible first | exact HB.out | apply below_alloc | apply pw_below_drewN | apply below_drew1 | refine below_set ?_ GE188.out) | exact HB.out)) hb); clear HO_9; clear BK188; clear HB; have HO_9 := n0_; have BK188 := n1_; have HB := n2_; clear n0_ n1_ n2_; (try clear hb); (try clear hb2); (try clear hk); (try clear hi)) | ((with_reducible refine gate_callee (f := 10) rfl ?_); refine goesL_ (some 156) rfl rfl Try.func10 (by kernel_rfl) rfl #[] rfl (by (try simp only [List.map_toArray, List.map_cons, List.map_nil]); first | done | rfl | (simp only [List.length_drop, List.length_take]; rfl)) ?_; (with_reducible refine (plimsolllaw14_awake.calls kj61  true _ A75.out).mono ?_); rintro e w85 ⟨rfl, hb⟩; refine ⟨_, rfl, ?_⟩; have n0_ := Aside0.mk (Kd.R_below (by (with_reducible repeat (first | apply Kd.R_alloc | apply Kd.R_drewN | apply Kd.R_drew)); exact HO_9.out) hb); have n1_ := Aside0.mk (blk_below (g := gb188) (o := .cells #[.slice A2_0 l2_0.length c2_0, .int .i64 a2_1] 27 (0, 0)) (by (with_reducible repeat (first | refine blk_drewN ?_ _ | refine blk_drew ?_ | refine blk_alloc ?_ _)); exact BK188.out) hb); have n2_ := Aside0.mk (below_step (by repeat (first | (with_reducible first | exact HB.out | apply below_alloc | apply pw_below_drewN | apply below_drew1 | refine below_set ?_ GE188.out) | exact HB.out)) hb); clear HO_9; clear BK188; clear HB; have HO_9 := n0_; have BK188 := n1_; have HB := n2_; clear n0_ n1_ n2_; (try clear hb); (try clear hb2); (try clear hk); (try clear hi)))
                              go_ret
                              exact ⟨by first | rfl | (simp [errW_none, errW_some] <;> rfl) | (simp [*, errW_none, errW_some] <;> rfl), by repeat (first | (with_reducible first | exact HB.out | apply below_alloc | apply pw_below_drewN | apply below_drew1 | refine below_set ?_ GE188.out) | exact HB.out)⟩
                          · replace c76 := Bool.eq_false_iff.mpr c76
                            subst c76
                            have H1 : (some false) = some r := by rw [if_neg (show ¬ (false = true) by decide)] at H; exact H
                            clear H
                            have H := H1
                            clear H1
                            obtain rfl := Option.some.inj H
                            have hcz86_0 : wc.cell? ⟨gb188, 0, none⟩ = some (.slice A2_0 l2_0.length c2_0) := (blk_cell BK188.out 0).trans rfl
                            have hcz86_1 : wc.cell? ⟨gb188, 1, none⟩ = some (.int .i64 a2_1) := (blk_cell BK188.out 1).trans rfl
                            have hfz86_0 := blk_frozen BK188.out 0
                            have hfz86_1 := blk_frozen BK188.out 1
                            obtain ⟨Ao87, co87, eo87⟩ := Kd.R_slice HO_9.out
                            subst eo87
                            go_wp2_with (first | ((with_reducible refine gate_callee (f := 15) rfl ?_); refine goesL_ (some 153) rfl rfl Try.func15 (by kernel_rfl) rfl #[.agg #[.slice A2_0 l2_0.length c2_0, .int .i64 a2_1], .slice Ao87 x9_2.length co87] rfl (by (try simp only [List.map_toArray, List.map_cons, List.map_nil]); first | done | rfl | (simp only [List.length_drop, List.length_take]; rfl)) ?_; (with_reducible refine (lin_Holds.calls kj61 _ _ l2_0 a2_1 _ _ x9_2 t223 t224 _ ?side1 ?side2 ?side3 ?side4 A74.out).mono ?_); (case side1 => repeat (first | exact (Kd.C_below HR2_0.out HB.out) | (with_reducible refine Kd.C_alloc ?_ _) | (with_reducible refine Kd.C_drewN ?_ _) | (with_reducible refine Kd.C_drew ?_))); (case side2 => exact HC2_0.out); (case side3 => repeat (first | exact (Kd.R_reads' HO_9.out).2.2 | (with_reducible refine Kd.C_alloc ?_ _) | (with_reducible refine Kd.C_drewN ?_ _) | (with_reducible refine Kd.C_drew ?_))); (case side4 => exact (Kd.R_reads' HO_9.out).2.1); rintro e w88 ⟨rfl, hb⟩; refine ⟨_, rfl, ?_⟩; have n0_ := Aside0.mk (Kd.R_below (by (with_reducible repeat (first | apply Kd.R_alloc | apply Kd.R_drewN | apply Kd.R_drew)); exact HO_9.out) hb); have n1_ := Aside0.mk (blk_below (g := gb188) (o := .cells #[.slice A2_0 l2_0.length c2_0, .int .i64 a2_1] 27 (0, 0)) (by (with_reducible repeat (first | refine blk_drewN ?_ _ | refine blk_drew ?_ | refine blk_alloc ?_ _)); exact BK188.out) hb); have n2_ := Aside0.mk (below_step (by repeat (first | (with_reducible first | exact HB.out | apply below_alloc | apply pw_below_drewN | apply below_drew1 | refine below_set ?_ GE188.out) | exact HB.out)) hb); clear HO_9; clear BK188; clear HB; have HO_9 := n0_; have BK188 := n1_; have HB := n2_; clear n0_ n1_ n2_; (try clear hb); (try clear hb2); (try clear hk); (try clear hi)) | ((with_reducible refine gate_callee (f := 10) rfl ?_); refine goesL_ (some 156) rfl rfl Try.func10 (by kernel_rfl) rfl #[] rfl (by (try simp only [List.map_toArray, List.map_cons, List.map_nil]); first | done | rfl | (simp only [List.length_drop, List.length_take]; rfl)) ?_; (with_reducible refine (plimsolllaw14_awake.calls kj61  false _ A75.out).mono ?_); rintro e w89 ⟨rfl, hb⟩; refine ⟨_, rfl, ?_⟩; have n0_ := Aside0.mk (Kd.R_below (by (with_reducible repeat (first | apply Kd.R_alloc | apply Kd.R_drewN | apply Kd.R_drew)); exact HO_9.out) hb); have n1_ := Aside0.mk (blk_below (g := gb188) (o := .cells #[.slice A2_0 l2_0.length c2_0, .int .i64 a2_1] 27 (0, 0)) (by (with_reducible repeat (first | refine blk_drewN ?_ _ | refine blk_drew ?_ | refine blk_alloc ?_ _)); exact BK188.out) hb); have n2_ := Aside0.mk (below_step (by repeat (first | (with_reducible first | exact HB.out | apply below_alloc | apply pw_below_drewN | apply below_drew1 | refine below_set ?_ GE188.out) | exact HB.out)) hb); clear HO_9; clear BK188; clear HB; have HO_9 := n0_; have BK188 := n1_; have HB := n2_; clear n0_ n1_ n2_; (try clear hb); (try clear hb2); (try clear hk); (try clear hi)))
                            go_ret
                            exact ⟨by first | rfl | (simp [errW_none, errW_some] <;> rfl) | (simp [*, errW_none, errW_some] <;> rfl), by repeat (first | (with_reducible first | exact HB.out | apply below_alloc | apply pw_below_drewN | apply below_drew1 | refine below_set ?_ GE188.out) | exact HB.out)⟩

end Go.Proofs.Ythfkajolockcgaa.QLinSound
