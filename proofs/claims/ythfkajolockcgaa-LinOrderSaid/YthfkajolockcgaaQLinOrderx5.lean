-- Written by a program of ours (tools/mkprint.py) over the kit's printing program, for the law LinOrder: some functions' texts are ours.
import Derived.Test.YthfkajolockcgaaQLinOrderx0
import Derived.Test.YthfkajolockcgaaQLinOrderx1
import Derived.Test.YthfkajolockcgaaQLinOrderx2
import Derived.Test.YthfkajolockcgaaQLinOrderx3
import Derived.Test.YthfkajolockcgaaQLinOrderx4
namespace Go.Proofs.Ythfkajolockcgaa.QLinOrder
open Go.RowKit Go.Proofs.YthfkajolockcgaaW.PrintWords Go.Proofs.YthfkajolockcgaaW.PrintLast Go.Proofs.YthfkajolockcgaaW.PrintMore
attribute [local go_sem] max2_int min2_int max_two min_two max_three min_three max_four min_four   -- for this text's walks alone
set_option linter.unusedVariables false
set_option linter.unusedSimpArgs false

/-! ### plimsolllaw14_LinOrder: function 8 -/
mutual
def plimsolllaw14_LinOrder.j0 : Nat → List (S27) → List Int → Bool → Option (Bool)
  | 0, _, _, _ => none
  | k + 1, x0, x1, x30 => if x30 = true then ((plimsolllaw14_awake.f k).bind fun t190 => (some t190)) else (if (x0.length : Int) > 0 then (if 0 < (x0.length : Int) then (plimsolllaw14_LinOrder.j1 k x0 x1 (((rd_T27 x0 0).f0).length : Int)) else (none)) else (plimsolllaw14_LinOrder.j1 k x0 x1 0))
def plimsolllaw14_LinOrder.j1 : Nat → List (S27) → List Int → Int → Option (Bool)
  | 0, _, _, _ => none
  | k + 1, x0, x1, x5 => plimsolllaw14_LinOrder.l0 k x0 x1 x5 (([] : List (S27))) (([] : List Int)) (([] : List Int)) 0
def plimsolllaw14_LinOrder.l0 : Nat → List (S27) → List Int → Int → List (S27) → List Int → List Int → Int → Option (Bool)
  | 0, _, _, _, _, _, _, _ => none
  | k + 1, x0, x1, x5, x6, x7, x8, x9 => if x9 < (x0.length : Int) then (if 0 ≤ x9 then (if (((rd_T27 x0 x9).f0).length : Int) = x5 then (if x5 > 50 then (plimsolllaw14_LinOrder.j3 k x0 x1 x5 x6 x7 x8 x9 true) else (if ((rd_T27 x0 x9).f1) > 1099511627776 then (plimsolllaw14_LinOrder.j3 k x0 x1 x5 x6 x7 x8 x9 true) else (plimsolllaw14_LinOrder.j3 k x0 x1 x5 x6 x7 x8 x9 (decide (((rd_T27 x0 x9).f1) < (-1099511627776)))))) else (plimsolllaw14_LinOrder.j3 k x0 x1 x5 x6 x7 x8 x9 true)) else (none)) else ((lin_Sum.f k x0 x7 x5).bind fun bt232 => ((lin_Sum.f k x6 x8 x5).bind fun bt238 => ((plimsolllaw14_awake.f k).bind fun t244 => (if t244 = true then (if bt232.2.2 = 0 then (if bt238.2.2 = 0 then ((plimsollref14_Same.f k bt232.1 bt232.2.1 bt238.1 bt238.2.1).bind fun t245 => (some t245)) else (some false)) else (some false)) else (some false)))))
def plimsolllaw14_LinOrder.j3 : Nat → List (S27) → List Int → Int → List (S27) → List Int → List Int → Int → Bool → Option (Bool)
  | 0, _, _, _, _, _, _, _, _ => none
  | k + 1, x0, x1, x5, x6, x7, x8, x9, x76 => if x76 = true then ((plimsolllaw14_awake.f k).bind fun t204 => (some t204)) else (plimsolllaw14_LinOrder.l1 k x0 x1 x5 x6 x7 x8 x9 0)
def plimsolllaw14_LinOrder.l1 : Nat → List (S27) → List Int → Int → List (S27) → List Int → List Int → Int → Int → Option (Bool)
  | 0, _, _, _, _, _, _, _, _ => none
  | k + 1, x0, x1, x5, x6, x7, x8, x9, x10 => if x10 < x5 then (if 0 ≤ x9 then (if x9 < (x0.length : Int) then (if 0 ≤ x10 then (if x10 < (((rd_T27 x0 x9).f0).length : Int) then (if (rd ((rd_T27 x0 x9).f0) x10) > 1099511627776 then ((plimsolllaw14_awake.f k).bind fun t207 => (some t207)) else (if (rd ((rd_T27 x0 x9).f0) x10) < (-1099511627776) then ((plimsolllaw14_awake.f k).bind fun t210 => (some t210)) else (plimsolllaw14_LinOrder.l1 k x0 x1 x5 x6 x7 x8 x9 (wrap64 (x10 + 1))))) else (none)) else (none)) else (none)) else (none)) else (if 0 ≤ (wrap64 ((wrap64 ((x0.length : Int) - 1)) - x9)) then (if (wrap64 ((wrap64 ((x0.length : Int) - 1)) - x9)) < (x0.length : Int) then ((some (([(⟨(rd_T27 x0 (wrap64 ((wrap64 ((x0.length : Int) - 1)) - x9))).f0, (rd_T27 x0 (wrap64 ((wrap64 ((x0.length : Int) - 1)) - x9))).f1⟩ : S27)] : List (S27)) : List (S27))).bind fun y212 => (if x6.length + y212.length < 4398046511104 then (if 0 ≤ x9 then (if x9 < (x1.length : Int) then ((some (([wrap64 (rd x1 x9)] : List Int) : List Int)).bind fun y219 => (if x7.length + y219.length < 17592186044416 then (if (wrap64 ((wrap64 ((x0.length : Int) - 1)) - x9)) < (x1.length : Int) then ((some (([wrap64 (rd x1 (wrap64 ((wrap64 ((x0.length : Int) - 1)) - x9)))] : List Int) : List Int)).bind fun y226 => (if x8.length + y226.length < 17592186044416 then (plimsolllaw14_LinOrder.l0 k x0 x1 x5 (x6 ++ y212) (x7 ++ y219) (x8 ++ y226) (wrap64 (x9 + 1))) else (none))) else (none)) else (none))) else (none)) else (none)) else (none))) else (none)) else (none))
end
def plimsolllaw14_LinOrder.f (k : Nat) (l0 : List (S27)) (l1 : List Int) : Option (Bool) := (plimsolllaw14_few.f k l0).bind fun t189 => (if t189 = true then (if (l0.length : Int) > 10 then (plimsolllaw14_LinOrder.j0 k l0 l1 true) else (plimsolllaw14_LinOrder.j0 k l0 l1 (decide ((l1.length : Int) < (l0.length : Int))))) else (plimsolllaw14_LinOrder.j0 k l0 l1 true))
theorem plimsolllaw14_LinOrder.mono_l : ∀ k, (∀ y0 y1 y2, LeO (plimsolllaw14_LinOrder.j0 k y0 y1 y2) (plimsolllaw14_LinOrder.j0 (k + 1) y0 y1 y2)) ∧ (∀ y0 y1 y2, LeO (plimsolllaw14_LinOrder.j1 k y0 y1 y2) (plimsolllaw14_LinOrder.j1 (k + 1) y0 y1 y2)) ∧ (∀ y0 y1 y2 y3 y4 y5 y6, LeO (plimsolllaw14_LinOrder.l0 k y0 y1 y2 y3 y4 y5 y6) (plimsolllaw14_LinOrder.l0 (k + 1) y0 y1 y2 y3 y4 y5 y6)) ∧ (∀ y0 y1 y2 y3 y4 y5 y6 y7, LeO (plimsolllaw14_LinOrder.j3 k y0 y1 y2 y3 y4 y5 y6 y7) (plimsolllaw14_LinOrder.j3 (k + 1) y0 y1 y2 y3 y4 y5 y6 y7)) ∧ (∀ y0 y1 y2 y3 y4 y5 y6 y7, LeO (plimsolllaw14_LinOrder.l1 k y0 y1 y2 y3 y4 y5 y6 y7) (plimsolllaw14_LinOrder.l1 (k + 1) y0 y1 y2 y3 y4 y5 y6 y7))
  | 0 => ⟨fun _ _ _ r h => by simp [plimsolllaw14_LinOrder.j0] at h, fun _ _ _ r h => by simp [plimsolllaw14_LinOrder.j1] at h, fun _ _ _ _ _ _ _ r h => by simp [plimsolllaw14_LinOrder.l0] at h, fun _ _ _ _ _ _ _ _ r h => by simp [plimsolllaw14_LinOrder.j3] at h, fun _ _ _ _ _ _ _ _ r h => by simp [plimsolllaw14_LinOrder.l1] at h⟩
  | k + 1 => by
    obtain ⟨ih0, ih1, ih2, ih3, ih4⟩ := plimsolllaw14_LinOrder.mono_l k
    refine ⟨?_, ?_, ?_, ?_, ?_⟩
    · intro y0 y1 y2
      unfold plimsolllaw14_LinOrder.j0
      repeat' first
      | (with_reducible exact ih0 _ _ _)
      | (with_reducible exact ih1 _ _ _)
      | (with_reducible exact ih2 _ _ _ _ _ _ _)
      | (with_reducible exact ih3 _ _ _ _ _ _ _ _)
      | (with_reducible exact ih4 _ _ _ _ _ _ _ _)
      | (with_reducible exact lin_Sum.mono _ _ _ _)
      | (with_reducible exact plimsolllaw14_awake.mono _)
      | (with_reducible exact plimsolllaw14_few.mono _ _)
      | (with_reducible exact plimsollref14_Same.mono _ _ _ _ _)
      | (with_reducible exact LeO.refl _)
      | (with_reducible exact LeO.none _)
      | (with_reducible refine LeO.ite ?_ ?_)
      | (with_reducible refine LeO.bind ?_ (fun _ => ?_))
      | exact ih0 _ _ _
      | exact ih1 _ _ _
      | exact ih2 _ _ _ _ _ _ _
      | exact ih3 _ _ _ _ _ _ _ _
      | exact ih4 _ _ _ _ _ _ _ _
      | exact lin_Sum.mono _ _ _ _
      | exact plimsolllaw14_awake.mono _
      | exact plimsolllaw14_few.mono _ _
      | exact plimsollref14_Same.mono _ _ _ _ _
      | exact LeO.none _
      | refine LeO.ite ?_ ?_
      | refine LeO.bind ?_ (fun _ => ?_)
    · intro y0 y1 y2
      unfold plimsolllaw14_LinOrder.j1
      repeat' first
      | (with_reducible exact ih0 _ _ _)
      | (with_reducible exact ih1 _ _ _)
      | (with_reducible exact ih2 _ _ _ _ _ _ _)
      | (with_reducible exact ih3 _ _ _ _ _ _ _ _)
      | (with_reducible exact ih4 _ _ _ _ _ _ _ _)
      | (with_reducible exact lin_Sum.mono _ _ _ _)
      | (with_reducible exact plimsolllaw14_awake.mono _)
      | (with_reducible exact plimsolllaw14_few.mono _ _)
      | (with_reducible exact plimsollref14_Same.mono _ _ _ _ _)
      | (with_reducible exact LeO.refl _)
      | (with_reducible exact LeO.none _)
      | (with_reducible refine LeO.ite ?_ ?_)
      | (with_reducible refine LeO.bind ?_ (fun _ => ?_))
      | exact ih0 _ _ _
      | exact ih1 _ _ _
      | exact ih2 _ _ _ _ _ _ _
      | exact ih3 _ _ _ _ _ _ _ _
      | exact ih4 _ _ _ _ _ _ _ _
      | exact lin_Sum.mono _ _ _ _
      | exact plimsolllaw14_awake.mono _
      | exact plimsolllaw14_few.mono _ _
      | exact plimsollref14_Same.mono _ _ _ _ _
      | exact LeO.none _
      | refine LeO.ite ?_ ?_
      | refine LeO.bind ?_ (fun _ => ?_)
    · intro y0 y1 y2 y3 y4 y5 y6
      unfold plimsolllaw14_LinOrder.l0
      repeat' first
      | (with_reducible exact ih0 _ _ _)
      | (with_reducible exact ih1 _ _ _)
      | (with_reducible exact ih2 _ _ _ _ _ _ _)
      | (with_reducible exact ih3 _ _ _ _ _ _ _ _)
      | (with_reducible exact ih4 _ _ _ _ _ _ _ _)
      | (with_reducible exact lin_Sum.mono _ _ _ _)
      | (with_reducible exact plimsolllaw14_awake.mono _)
      | (with_reducible exact plimsolllaw14_few.mono _ _)
      | (with_reducible exact plimsollref14_Same.mono _ _ _ _ _)
      | (with_reducible exact LeO.refl _)
      | (with_reducible exact LeO.none _)
      | (with_reducible refine LeO.ite ?_ ?_)
      | (with_reducible refine LeO.bind ?_ (fun _ => ?_))
      | exact ih0 _ _ _
      | exact ih1 _ _ _
      | exact ih2 _ _ _ _ _ _ _
      | exact ih3 _ _ _ _ _ _ _ _
      | exact ih4 _ _ _ _ _ _ _ _
      | exact lin_Sum.mono _ _ _ _
      | exact plimsolllaw14_awake.mono _
      | exact plimsolllaw14_few.mono _ _
      | exact plimsollref14_Same.mono _ _ _ _ _
      | exact LeO.none _
      | refine LeO.ite ?_ ?_
      | refine LeO.bind ?_ (fun _ => ?_)
    · intro y0 y1 y2 y3 y4 y5 y6 y7
      unfold plimsolllaw14_LinOrder.j3
      repeat' first
      | (with_reducible exact ih0 _ _ _)
      | (with_reducible exact ih1 _ _ _)
      | (with_reducible exact ih2 _ _ _ _ _ _ _)
      | (with_reducible exact ih3 _ _ _ _ _ _ _ _)
      | (with_reducible exact ih4 _ _ _ _ _ _ _ _)
      | (with_reducible exact lin_Sum.mono _ _ _ _)
      | (with_reducible exact plimsolllaw14_awake.mono _)
      | (with_reducible exact plimsolllaw14_few.mono _ _)
      | (with_reducible exact plimsollref14_Same.mono _ _ _ _ _)
      | (with_reducible exact LeO.refl _)
      | (with_reducible exact LeO.none _)
      | (with_reducible refine LeO.ite ?_ ?_)
      | (with_reducible refine LeO.bind ?_ (fun _ => ?_))
      | exact ih0 _ _ _
      | exact ih1 _ _ _
      | exact ih2 _ _ _ _ _ _ _
      | exact ih3 _ _ _ _ _ _ _ _
      | exact ih4 _ _ _ _ _ _ _ _
      | exact lin_Sum.mono _ _ _ _
      | exact plimsolllaw14_awake.mono _
      | exact plimsolllaw14_few.mono _ _
      | exact plimsollref14_Same.mono _ _ _ _ _
      | exact LeO.none _
      | refine LeO.ite ?_ ?_
      | refine LeO.bind ?_ (fun _ => ?_)
    · intro y0 y1 y2 y3 y4 y5 y6 y7
      unfold plimsolllaw14_LinOrder.l1
      repeat' first
      | (with_reducible exact ih0 _ _ _)
      | (with_reducible exact ih1 _ _ _)
      | (with_reducible exact ih2 _ _ _ _ _ _ _)
      | (with_reducible exact ih3 _ _ _ _ _ _ _ _)
      | (with_reducible exact ih4 _ _ _ _ _ _ _ _)
      | (with_reducible exact lin_Sum.mono _ _ _ _)
      | (with_reducible exact plimsolllaw14_awake.mono _)
      | (with_reducible exact plimsolllaw14_few.mono _ _)
      | (with_reducible exact plimsollref14_Same.mono _ _ _ _ _)
      | (with_reducible exact LeO.refl _)
      | (with_reducible exact LeO.none _)
      | (with_reducible refine LeO.ite ?_ ?_)
      | (with_reducible refine LeO.bind ?_ (fun _ => ?_))
      | exact ih0 _ _ _
      | exact ih1 _ _ _
      | exact ih2 _ _ _ _ _ _ _
      | exact ih3 _ _ _ _ _ _ _ _
      | exact ih4 _ _ _ _ _ _ _ _
      | exact lin_Sum.mono _ _ _ _
      | exact plimsolllaw14_awake.mono _
      | exact plimsolllaw14_few.mono _ _
      | exact plimsollref14_Same.mono _ _ _ _ _
      | exact LeO.none _
      | refine LeO.ite ?_ ?_
      | refine LeO.bind ?_ (fun _ => ?_)
theorem plimsolllaw14_LinOrder.mono : ∀ a0 a1 k, LeO (plimsolllaw14_LinOrder.f k a0 a1) (plimsolllaw14_LinOrder.f (k + 1) a0 a1) := by
  intro a0 a1 k
  obtain ⟨ih0, ih1, ih2, ih3, ih4⟩ := plimsolllaw14_LinOrder.mono_l k
  unfold plimsolllaw14_LinOrder.f
  repeat' first
      | (with_reducible exact ih0 _ _ _)
      | (with_reducible exact ih1 _ _ _)
      | (with_reducible exact ih2 _ _ _ _ _ _ _)
      | (with_reducible exact ih3 _ _ _ _ _ _ _ _)
      | (with_reducible exact ih4 _ _ _ _ _ _ _ _)
      | (with_reducible exact lin_Sum.mono _ _ _ _)
      | (with_reducible exact plimsolllaw14_awake.mono _)
      | (with_reducible exact plimsolllaw14_few.mono _ _)
      | (with_reducible exact plimsollref14_Same.mono _ _ _ _ _)
      | (with_reducible exact LeO.refl _)
      | (with_reducible exact LeO.none _)
      | (with_reducible refine LeO.ite ?_ ?_)
      | (with_reducible refine LeO.bind ?_ (fun _ => ?_))
      | exact ih0 _ _ _
      | exact ih1 _ _ _
      | exact ih2 _ _ _ _ _ _ _
      | exact ih3 _ _ _ _ _ _ _ _
      | exact ih4 _ _ _ _ _ _ _ _
      | exact lin_Sum.mono _ _ _ _
      | exact plimsolllaw14_awake.mono _
      | exact plimsolllaw14_few.mono _ _
      | exact plimsollref14_Same.mono _ _ _ _ _
      | exact LeO.none _
      | refine LeO.ite ?_ ?_
      | refine LeO.bind ?_ (fun _ => ?_)
def plimsolllaw14_LinOrder.T20 : Bool × List (List Nat × List Nat) := (true, [([], []), ([], []), ([], []), ([1, 2], [1, 2]), ([3], [3]), ([4], [4]), ([5], [5]), ([0, 6], [0, 6]), ([], []), ([], []), ([], []), ([9, 10], [9, 10]), ([11], [11]), ([12], [12]), ([13], [13]), ([8, 14, 7], [8, 14]), ([7, 15, 0, 1, 2, 3, 4, 5, 6, 7], [0, 7]), ([15, 16, 0, 1, 2, 3, 4, 5, 6, 7, 8, 9, 10, 11, 12, 13, 14, 15, 16], [8, 15])])
def plimsolllaw14_LinOrder.B20 : List Nat := [0, 0, 0, 6, 14, 30, 62, 127, 0, 0, 0, 1536, 3584, 7680, 15872, 32767, 65535, 131071]
theorem plimsolllaw14_LinOrder.tab20 : rtab .any (opsOf Try.f8 20) = plimsolllaw14_LinOrder.T20 := by kernel_rfl
theorem plimsolllaw14_LinOrder.bits20 : waitsOk plimsolllaw14_LinOrder.T20.2 plimsolllaw14_LinOrder.B20 = true := by kernel_rfl
set_option maxHeartbeats 8000000 in
set_option maxRecDepth 100000 in
theorem plimsolllaw14_LinOrder.calls (k : Nat) (P0_ : Nat → Prop) (A0 : Option Addr) (c0 : Nat) (l0 : List (S27)) (A1 : Option Addr) (c1 : Nat) (l1 : List Int) (r : Bool) (w : World) (hs0 : Kd.V k27 27 w w.heap.size (fun k_ => P0_ k_) (.slice A0 l0.length c0) l0) (hr1 : Kd.C (Kd.int .u8) w A1 l1.length l1) (hc1 : l1.length ≤ c1) (hrt : Aside0 (r = true)) (h : plimsolllaw14_LinOrder.f k l0 l1 = some r) :
    Calls Try.prog 8 #[.slice A0 l0.length c0, .slice A1 l1.length c1] w fun e w' => e = .returned (.bool r) ∧ Below w.heap.size w w' := by
  have hu27 := Try.underlying27
  have HO0 := Aside0.mk (show Kd.V k27 27 w w.heap.size (fun k_ => (P0_ k_ ∨ w.heap.size ≤ k_)) (.slice A0 l0.length c0) l0 from Kd.V_mono hs0 (fun k_ hk => .inl hk))
  have HR1 := Aside0.mk hr1
  have HC1 := Aside0.mk hc1
  clear hr1 hc1
  have HB := Aside0.mk (Below.refl w.heap.size w)
  have H : ((plimsolllaw14_few.f k l0).bind fun t189 => (if t189 = true then (if (l0.length : Int) > 10 then (plimsolllaw14_LinOrder.j0 k l0 l1 true) else (plimsolllaw14_LinOrder.j0 k l0 l1 (decide ((l1.length : Int) < (l0.length : Int))))) else (plimsolllaw14_LinOrder.j0 k l0 l1 true))) = some r := h
  clear h
  have HC3 := Aside0.mk H
  clear H
  go_enter Try.func8, Try.ntmps8
  go_upto_region 1 with (fail)
  go_cut [30] (fun v30 wc => ∃ (kq : Nat) (x30_2 : Bool), v30 = .bool x30_2 ∧ Aside0 (plimsolllaw14_LinOrder.j0 kq l0 l1 x30_2 = some r) ∧ Aside0 (kq ≤ k) ∧ Aside0 (Kd.V k27 27 wc w.heap.size (fun k_ => (P0_ k_ ∨ w.heap.size ≤ k_)) (.slice A0 l0.length c0) l0) ∧ Aside0 (Below w.heap.size w wc))
  case first =>
    have H := HC3.out
    clear HC3
    replace H := Option.bind_eq_some_iff.mp H
    obtain ⟨t189, A40, H⟩ := H
    replace H : (if t189 = true then (if (l0.length : Int) > 10 then (plimsolllaw14_LinOrder.j0 k l0 l1 true) else (plimsolllaw14_LinOrder.j0 k l0 l1 (decide ((l1.length : Int) < (l0.length : Int))))) else (plimsolllaw14_LinOrder.j0 k l0 l1 true)) = some r := H
    have A4 := Aside0.mk A40
    clear A40
    by_cases c5 : t189 = true
    · subst c5
      have H1 : (if (l0.length : Int) > 10 then (plimsolllaw14_LinOrder.j0 k l0 l1 true) else (plimsolllaw14_LinOrder.j0 k l0 l1 (decide ((l1.length : Int) < (l0.length : Int))))) = some r := by rw [if_pos rfl] at H; exact H
      clear H
      have H := H1
      clear H1
      by_cases c6 : (l0.length : Int) > 10
      · rw [if_pos c6] at H
        have c6b0 : decide (10 < (l0.length : Int)) = true := decide_eq_true c6
        have c6b1 : decide (10 < l0.length) = true := decide_eq_true (by omega)
        clear c6
        (first | rw [c6b0] | rw [c6b1] | (simp only [i64_w, i32_w]; rw [c6b0]) | skip)
        have H' := Aside0.mk H
        clear H
        go_wp2_with (first | ((with_reducible refine gate_callee (f := 9) rfl ?_); refine goesL_ (some 17) rfl rfl Try.func9 (by kernel_rfl) rfl #[.slice A0 l0.length c0] rfl (by (try simp only [List.map_toArray, List.map_cons, List.map_nil]); first | done | rfl | (simp only [List.length_drop, List.length_take]; rfl)) ?_; (with_reducible refine (plimsolllaw14_few.calls k _ _ l0 true _ ?side1 ?side2 A4.out).mono ?_); (case side1 => repeat (first | exact (Kd.V_reads' HO0.out).2.2 | (with_reducible refine Kd.C_alloc ?_ _) | (with_reducible refine Kd.C_drewN ?_ _) | (with_reducible refine Kd.C_drew ?_))); (case side2 => exact (Kd.V_reads' HO0.out).2.1); rintro e w' ⟨rfl, ⟨nd, rfl⟩⟩; refine ⟨_, rfl, ?_⟩))
        go_meet
        case rel => exact ⟨_, (true), (by first | rfl | (simp; done) | (simp [*]; done)), H', ⟨by first | omega | exact Nat.le_refl _⟩, ⟨by (with_reducible repeat (first | apply Kd.V_alloc | apply Kd.V_drewN | apply Kd.V_drew)); exact HO0.out⟩, ⟨by repeat (first | (with_reducible first | exact HB.out | apply below_alloc | apply pw_below_drewN | apply below_drew1) | exact HB.out)⟩⟩
      · rw [if_neg c6] at H
        have c6b0 : decide (10 < (l0.length : Int)) = false := decide_eq_false c6
        have c6b1 : decide (10 < l0.length) = false := decide_eq_false (by omega)
        clear c6
        (first | rw [c6b0] | rw [c6b1] | (simp only [i64_w, i32_w]; rw [c6b0]) | skip)
        have H' := Aside0.mk H
        clear H
        go_wp2_with (first | ((with_reducible refine gate_callee (f := 9) rfl ?_); refine goesL_ (some 17) rfl rfl Try.func9 (by kernel_rfl) rfl #[.slice A0 l0.length c0] rfl (by (try simp only [List.map_toArray, List.map_cons, List.map_nil]); first | done | rfl | (simp only [List.length_drop, List.length_take]; rfl)) ?_; (with_reducible refine (plimsolllaw14_few.calls k _ _ l0 true _ ?side1 ?side2 A4.out).mono ?_); (case side1 => repeat (first | exact (Kd.V_reads' HO0.out).2.2 | (with_reducible refine Kd.C_alloc ?_ _) | (with_reducible refine Kd.C_drewN ?_ _) | (with_reducible refine Kd.C_drew ?_))); (case side2 => exact (Kd.V_reads' HO0.out).2.1); rintro e w' ⟨rfl, ⟨nd, rfl⟩⟩; refine ⟨_, rfl, ?_⟩))
        go_meet
        case rel => exact ⟨_, (decide ((l1.length : Int) < (l0.length : Int))), (by first | rfl | (simp; done) | (simp [*]; done)), H', ⟨by first | omega | exact Nat.le_refl _⟩, ⟨by (with_reducible repeat (first | apply Kd.V_alloc | apply Kd.V_drewN | apply Kd.V_drew)); exact HO0.out⟩, ⟨by repeat (first | (with_reducible first | exact HB.out | apply below_alloc | apply pw_below_drewN | apply below_drew1) | exact HB.out)⟩⟩
    · replace c5 := Bool.eq_false_iff.mpr c5
      subst c5
      have H1 : (plimsolllaw14_LinOrder.j0 k l0 l1 true) = some r := by rw [if_neg (show ¬ (false = true) by decide)] at H; exact H
      clear H
      have H := H1
      clear H1
      have H' := Aside0.mk H
      clear H
      go_wp2_with (first | ((with_reducible refine gate_callee (f := 9) rfl ?_); refine goesL_ (some 17) rfl rfl Try.func9 (by kernel_rfl) rfl #[.slice A0 l0.length c0] rfl (by (try simp only [List.map_toArray, List.map_cons, List.map_nil]); first | done | rfl | (simp only [List.length_drop, List.length_take]; rfl)) ?_; (with_reducible refine (plimsolllaw14_few.calls k _ _ l0 false _ ?side1 ?side2 A4.out).mono ?_); (case side1 => repeat (first | exact (Kd.V_reads' HO0.out).2.2 | (with_reducible refine Kd.C_alloc ?_ _) | (with_reducible refine Kd.C_drewN ?_ _) | (with_reducible refine Kd.C_drew ?_))); (case side2 => exact (Kd.V_reads' HO0.out).2.1); rintro e w' ⟨rfl, ⟨nd, rfl⟩⟩; refine ⟨_, rfl, ?_⟩))
      go_meet
      case rel => exact ⟨_, (true), (by first | rfl | (simp; done) | (simp [*]; done)), H', ⟨by first | omega | exact Nat.le_refl _⟩, ⟨by (with_reducible repeat (first | apply Kd.V_alloc | apply Kd.V_drewN | apply Kd.V_drew)); exact HO0.out⟩, ⟨by repeat (first | (with_reducible first | exact HB.out | apply below_alloc | apply pw_below_drewN | apply below_drew1) | exact HB.out)⟩⟩
  case rest =>
    clear HC3
    try clear c1
    try clear p2
    try clear c5
    try clear c6
    try clear c6b0
    try clear c6b1
    obtain ⟨kq, x30_2, rfl, HA, HJ2, HO_0, HB⟩ := hcut
    cases kq with
    | zero => exact absurd HA.out (by simp [plimsolllaw14_LinOrder.j0])
    | succ kj2 =>
      have H := HA.out
      clear HA
      simp only [plimsolllaw14_LinOrder.j0] at H
      by_cases c7 : x30_2 = true
      · subst c7
        have H1 : ((plimsolllaw14_awake.f kj2).bind fun t190 => (some t190)) = some r := by rw [if_pos rfl] at H; exact H
        clear H
        have H := H1
        clear H1
        replace H := Option.bind_eq_some_iff.mp H
        obtain ⟨t190, A80, H⟩ := H
        replace H : (some t190) = some r := H
        have A8 := Aside0.mk A80
        clear A80
        obtain rfl := Option.some.inj H
        go_wp2_with (first | ((with_reducible refine gate_callee (f := 10) rfl ?_); refine goesL_ (some 31) rfl rfl Try.func10 (by kernel_rfl) rfl #[] rfl (by (try simp only [List.map_toArray, List.map_cons, List.map_nil]); first | done | rfl | (simp only [List.length_drop, List.length_take]; rfl)) ?_; (with_reducible refine (plimsolllaw14_awake.calls kj2  t190 _ A8.out).mono ?_); rintro e w9 ⟨rfl, hb⟩; refine ⟨_, rfl, ?_⟩; have n0_ := Aside0.mk (Kd.V_below (by (with_reducible repeat (first | apply Kd.V_alloc | apply Kd.V_drewN | apply Kd.V_drew)); exact HO_0.out) hb); have n1_ := Aside0.mk (below_step (by repeat (first | (with_reducible first | exact HB.out | apply below_alloc | apply pw_below_drewN | apply below_drew1) | exact HB.out)) hb); clear HO_0; clear HB; have HO_0 := n0_; have HB := n1_; clear n0_ n1_; (try clear hb); (try clear hb2); (try clear hk); (try clear hi)))
        go_ret
        exact ⟨by first | rfl | (simp [errW_none, errW_some] <;> rfl) | (simp [*, errW_none, errW_some] <;> rfl), by repeat (first | (with_reducible first | exact HB.out | apply below_alloc | apply pw_below_drewN | apply below_drew1) | exact HB.out)⟩
      · replace c7 := Bool.eq_false_iff.mpr c7
        subst c7
        have H1 : (if (l0.length : Int) > 0 then (if 0 < (l0.length : Int) then (plimsolllaw14_LinOrder.j1 kj2 l0 l1 (((rd_T27 l0 0).f0).length : Int)) else (none)) else (plimsolllaw14_LinOrder.j1 kj2 l0 l1 0)) = some r := by rw [if_neg (show ¬ (false = true) by decide)] at H; exact H
        clear H
        have H := H1
        clear H1
        have HC10 := Aside0.mk H
        clear H
        go_upto_if 34 with (fail)
        go_cut [5] (fun v5 wc => ∃ (kq : Nat) (x5_9 : Int), v5 = .int .i64 x5_9 ∧ Aside0 (plimsolllaw14_LinOrder.j1 kq l0 l1 x5_9 = some r) ∧ Aside0 (kq ≤ kj2) ∧ Aside0 (Kd.V k27 27 wc w.heap.size (fun k_ => (P0_ k_ ∨ w.heap.size ≤ k_)) (.slice A0 l0.length c0) l0) ∧ Aside0 (Below w.heap.size w wc))
        case first =>
          have H := HC10.out
          clear HC10
          by_cases c11 : (l0.length : Int) > 0
          · rw [if_pos c11] at H
            have c11b0 : decide (0 < (l0.length : Int)) = true := decide_eq_true c11
            have c11b1 : decide (0 < l0.length) = true := decide_eq_true (by omega)
            clear c11
            (first | rw [c11b0] | rw [c11b1] | (simp only [i64_w, i32_w]; rw [c11b0]) | skip)
            by_cases c12 : 0 < (l0.length : Int)
            · rw [if_pos c12] at H
              have c12b0 : decide (0 < (l0.length : Int)) = true := decide_eq_true c12
              have c12b1 : decide (0 < l0.length) = true := decide_eq_true (by omega)
              clear c12
              have H' := Aside0.mk H
              clear H
              have p191 : 0 ≤ (0 : Int) := (by omega)
              have q191 : 0 < (l0.length : Int) := of_decide_eq_true (by first | (with_reducible assumption) | assumption)
              obtain ⟨ad191, A191_0, c191_0, e191, hx191_0, hx191_1, hl191_0, hi191_0⟩ := at_T27 (Kd.V_reads' HO_0.out).2.2 0 p191 q191
              cases e191
              obtain ⟨ce191, hce191, hMe191, hcc191⟩ := Kd.V_get HO_0.out z27 0 p191 (by first | exact q191 | exact of_decide_eq_true (by first | (with_reducible assumption) | assumption) | (have e_ := (Kd.V_reads' HO_0.out).1; omega))
              obtain ⟨ua191_0, uc191_0, rfl, ul191_0, ge191_0⟩ := k27_openF hMe191
              have hv191_0 := hcc191 0 _ rfl
              rw [Nat.add_zero] at hv191_0
              replace hv191_0 := Option.some.inj (hv191_0.symm.trans hx191_0)
              injection hv191_0 with hva_ hvn_ hvc_
              rw [hva_] at ge191_0
              rw [hvc_] at ul191_0
              have HL191_0 := Aside0.mk (show Kd.V (Kd.int .i64) 3 _ w.heap.size _ _ ((rd_T27 l0 0).f0) from Kd.V_mk ul191_0 ge191_0)
              clear hva_ hvn_ hvc_ ge191_0 ul191_0
              clear hcc191 hce191
              have qi191 : (0 < l0.length) = True := eq_true (by omega)
              (try rw [show ((0 : Int)).toNat = 0 from rfl] at hx191_0)
              (try rw [show 0 * 2 = 0 from rfl] at hx191_0)
              (try rw [Addr.add_zero'] at hx191_0)
              (try rw [show ((0 : Int)).toNat = 0 from rfl] at hx191_1)
              (try rw [show 0 * 2 = 0 from rfl] at hx191_1)
              (try rw [Addr.add_zero'] at hx191_1)
              have HR191_0 := Aside0.mk hi191_0
              have HC191_0 := Aside0.mk hl191_0
              clear hi191_0 hl191_0
              replace p191 := eq_true p191
              replace q191 := eq_true q191
              go_wp2
              go_meet
              case rel => exact ⟨_, ((((rd_T27 l0 0).f0).length : Int)), (by first | rfl | (simp; done) | (simp [*]; done)), H', ⟨by have := HJ2.out; first | omega | exact Nat.le_refl _⟩, ⟨by (with_reducible repeat (first | apply Kd.V_alloc | apply Kd.V_drewN | apply Kd.V_drew)); exact HO_0.out⟩, ⟨by repeat (first | (with_reducible first | exact HB.out | apply below_alloc | apply pw_below_drewN | apply below_drew1) | exact HB.out)⟩⟩
            · rw [if_neg c12] at H
              exact absurd H (by simp)
          · rw [if_neg c11] at H
            have c11b0 : decide (0 < (l0.length : Int)) = false := decide_eq_false c11
            have c11b1 : decide (0 < l0.length) = false := decide_eq_false (by omega)
            clear c11
            (first | rw [c11b0] | rw [c11b1] | (simp only [i64_w, i32_w]; rw [c11b0]) | skip)
            have H' := Aside0.mk H
            clear H
            go_wp2
            go_meet
            case rel => exact ⟨_, (0), (by first | rfl | (simp; done) | (simp [*]; done)), H', ⟨by have := HJ2.out; first | omega | exact Nat.le_refl _⟩, ⟨by (with_reducible repeat (first | apply Kd.V_alloc | apply Kd.V_drewN | apply Kd.V_drew)); exact HO_0.out⟩, ⟨by repeat (first | (with_reducible first | exact HB.out | apply below_alloc | apply pw_below_drewN | apply below_drew1) | exact HB.out)⟩⟩
        case rest =>
          clear HC10
          try clear c1
          try clear p1
          try clear q1
          try clear hx1
          try clear qi1
          try clear p2
          try clear c5
          try clear c6
          try clear c6b0
          try clear c6b1
          try clear c7
          try clear c8
          try clear c9
          try clear c10
          try clear c11
          try clear c11b0
          try clear c11b1
          try clear c12
          try clear c12b0
          try clear c12b1
          try clear hx191_0
          try clear hx191_1
          try clear p191
          try clear p2
          try clear q191
          obtain ⟨kq, x5_9, rfl, HA, HJ9, HO_0, HB⟩ := hcut
          cases kq with
          | zero => exact absurd HA.out (by simp [plimsolllaw14_LinOrder.j1])
          | succ kj9 =>
            have H := HA.out
            clear HA
            simp only [plimsolllaw14_LinOrder.j1] at H
            obtain ⟨y192, hy192⟩ : ∃ y_ : List (S27), y_ = (([] : List (S27))) := ⟨_, rfl⟩
            replace H : (plimsolllaw14_LinOrder.l0 kj9 l0 l1 x5_9 y192 (([] : List Int)) (([] : List Int)) 0) = some r := by first | (rw [hy192]; with_reducible exact H) | (have H2_ := (Option.bind_some _ _).symm.trans H; rw [hy192]; with_reducible exact H2_) | (have H2_ := (Option.bind_some _ _).symm.trans H; with_reducible exact H2_) | with_reducible exact H | (rw [hy192]; exact H) | exact H
            have Ny192 := Aside0.mk hy192
            clear hy192
            obtain ⟨y195, hy195⟩ : ∃ y_ : List Int, y_ = (([] : List Int)) := ⟨_, rfl⟩
            replace H : (plimsolllaw14_LinOrder.l0 kj9 l0 l1 x5_9 y192 y195 (([] : List Int)) 0) = some r := by first | (rw [hy195]; with_reducible exact H) | (have H2_ := (Option.bind_some _ _).symm.trans H; rw [hy195]; with_reducible exact H2_) | (have H2_ := (Option.bind_some _ _).symm.trans H; with_reducible exact H2_) | with_reducible exact H | (rw [hy195]; exact H) | exact H
            have Ny195 := Aside0.mk hy195
            clear hy195
            obtain ⟨y198, hy198⟩ : ∃ y_ : List Int, y_ = (([] : List Int)) := ⟨_, rfl⟩
            replace H : (plimsolllaw14_LinOrder.l0 kj9 l0 l1 x5_9 y192 y195 y198 0) = some r := by first | (rw [hy198]; with_reducible exact H) | (have H2_ := (Option.bind_some _ _).symm.trans H; rw [hy198]; with_reducible exact H2_) | (have H2_ := (Option.bind_some _ _).symm.trans H; with_reducible exact H2_) | with_reducible exact H | (rw [hy198]; exact H) | exact H
            have Ny198 := Aside0.mk hy198
            clear hy198
            have H' := Aside0.mk H
            clear H
            go_wp2_with (first | ((with_reducible refine gate_dst (N := 40) rfl ?_); (try (refine gate_guard (by rfl) ?_; dsimp only)); refine Kd.N_lit k27 _ 27 ?hg (N' := 40) ?hd (xs := ([] : List (S27))) (inner := []) (ok := (fun k_ => (P0_ k_ ∨ w.heap.size ≤ k_))) (okp := (fun k_ => (P0_ k_ ∨ w.heap.size ≤ k_))) ?hr ?hp (fun _ hk => hk) ((show ∀ k_, wc.heap.size ≤ k_ → (fun k_ => (P0_ k_ ∨ w.heap.size ≤ k_)) k_ from fun k_ hk => (.inr (Nat.le_trans (below_size (by repeat (first | (with_reducible first | exact HB.out | apply below_alloc | apply pw_below_drewN | apply below_drew1) | exact HB.out))) hk))) _ (Nat.le_refl _)) (Below.refl _ _) (Nat.le_refl _) (by simp) ?_; (case hd => rfl); (case hg => rfl); (case hr => first | (go_simp; done) | (go_simp; rfl)); (case hp => exact (Reps.none _ _)); intro v193 w13 ho14 hb hg_ hnew_; clear hg_ hnew_; (first | rw [← Ny192.out] at ho14 | (simp only [Int.reduceToNat] at ho14; rw [← Ny192.out] at ho14)); have n0_ := Aside0.mk (Kd.V_elder' (by (with_reducible repeat (first | apply Kd.V_alloc | apply Kd.V_drewN | apply Kd.V_drew)); exact HO_0.out) (Kd.N_base ho14) hb); have n1_ := Aside0.mk (Kd.N_lower ho14 (below_size (by repeat (first | (with_reducible first | exact HB.out | apply below_alloc | apply pw_below_drewN | apply below_drew1) | exact HB.out)))); have n2_ := Aside0.mk (below_step (by repeat (first | (with_reducible first | exact HB.out | apply below_alloc | apply pw_below_drewN | apply below_drew1) | exact HB.out)) hb); clear HO_0; clear HB; have HO_0 := n0_; have HO194 := n1_; have HB := n2_; clear n0_ n1_ n2_; clear hb ho14) | ((with_reducible refine gate_dst (N := 41) rfl ?_); (try (refine gate_guard (by rfl) ?_; dsimp only)); refine Kd.R_lit (Kd.int .i64) _ 3 ?hg (N := 41) ?hd (xs := ([] : List Int)) (inner := []) (ok := fun _ => True) (okp := fun _ => True) ?hr ?hp (fun _ hk => hk) trivial (Below.refl _ _) (Nat.le_refl _) (by simp) ?_; (case hd => rfl); (case hg => rfl); (case hr => first | (go_simp; done) | (go_simp; rfl)); (case hp => exact (Reps.none _ _)); intro v196 w15 ho16 hb hg_ hnew_; clear hg_ hnew_; (first | rw [← Ny195.out] at ho16 | (simp only [Int.reduceToNat] at ho16; rw [← Ny195.out] at ho16)); have n0_ := Aside0.mk (Kd.V_elder' (by (with_reducible repeat (first | apply Kd.V_alloc | apply Kd.V_drewN | apply Kd.V_drew)); exact HO_0.out) (Kd.R_base ho16) hb); have n1_ := Aside0.mk (Kd.N_elder' (by (with_reducible repeat (first | apply Kd.N_alloc | apply Kd.N_drewN | apply Kd.N_drew)); exact HO194.out) (Kd.R_base ho16) hb); have n2_ := Aside0.mk (Kd.R_lower (Kd.R_newM (M := fun k_ => (w.heap.size ≤ k_)) ho16 (below_size (by repeat (first | (with_reducible first | exact HB.out | apply below_alloc | apply pw_below_drewN | apply below_drew1) | exact HB.out))) (fun k_ h_ => h_)) (below_size (by repeat (first | (with_reducible first | exact HB.out | apply below_alloc | apply pw_below_drewN | apply below_drew1) | exact HB.out)))); have n3_ := Aside0.mk (below_step (by repeat (first | (with_reducible first | exact HB.out | apply below_alloc | apply pw_below_drewN | apply below_drew1) | exact HB.out)) hb); clear HO_0; clear HO194; clear HB; have HO_0 := n0_; have HO194 := n1_; have HO197 := n2_; have HB := n3_; clear n0_ n1_ n2_ n3_; clear hb ho16) | ((with_reducible refine gate_dst (N := 42) rfl ?_); (try (refine gate_guard (by rfl) ?_; dsimp only)); refine Kd.R_lit (Kd.int .i64) _ 3 ?hg (N := 42) ?hd (xs := ([] : List Int)) (inner := []) (ok := fun _ => True) (okp := fun _ => True) ?hr ?hp (fun _ hk => hk) trivial (Below.refl _ _) (Nat.le_refl _) (by simp) ?_; (case hd => rfl); (case hg => rfl); (case hr => first | (go_simp; done) | (go_simp; rfl)); (case hp => exact (Reps.none _ _)); intro v199 w17 ho18 hb hg_ hnew_; clear hg_ hnew_; (first | rw [← Ny198.out] at ho18 | (simp only [Int.reduceToNat] at ho18; rw [← Ny198.out] at ho18)); have n0_ := Aside0.mk (Kd.V_elder' (by (with_reducible repeat (first | apply Kd.V_alloc | apply Kd.V_drewN | apply Kd.V_drew)); exact HO_0.out) (Kd.R_base ho18) hb); have n1_ := Aside0.mk (Kd.N_elder' (by (with_reducible repeat (first | apply Kd.N_alloc | apply Kd.N_drewN | apply Kd.N_drew)); exact HO194.out) (Kd.R_base ho18) hb); have n2_ := Aside0.mk (Kd.R_elder' (by (with_reducible repeat (first | apply Kd.R_alloc | apply Kd.R_drewN | apply Kd.R_drew)); exact HO197.out) (Kd.R_base ho18) hb); have n3_ := Aside0.mk (Kd.R_lower (Kd.R_new' (Kd.R_newM (M := fun k_ => (w.heap.size ≤ k_)) ho18 (below_size (by repeat (first | (with_reducible first | exact HB.out | apply below_alloc | apply pw_below_drewN | apply below_drew1) | exact HB.out))) (fun k_ h_ => h_)) (Kd.R_lt (by (with_reducible repeat (first | apply Kd.R_alloc | apply Kd.R_drewN | apply Kd.R_drew)); exact HO197.out))) (below_size (by repeat (first | (with_reducible first | exact HB.out | apply below_alloc | apply pw_below_drewN | apply below_drew1) | exact HB.out)))); have n4_ := Aside0.mk (below_step (by repeat (first | (with_reducible first | exact HB.out | apply below_alloc | apply pw_below_drewN | apply below_drew1) | exact HB.out)) hb); clear HO_0; clear HO194; clear HO197; clear HB; have HO_0 := n0_; have HO194 := n1_; have HO197 := n2_; have HO200 := n3_; have HB := n4_; clear n0_ n1_ n2_ n3_ n4_; clear hb ho18))
            go_loopg [6, 7, 8, 9] kj9 (fun kq v6 v7 v8 v9 w' => ∃ (x6_3 : List (S27)) (x7_3 : List Int) (x8_3 : List Int) (x9_3 : Int), v9 = .int .i64 x9_3 ∧ Aside0 (plimsolllaw14_LinOrder.l0 kq l0 l1 x5_9 x6_3 x7_3 x8_3 x9_3 = some r) ∧ Aside0 (kq ≤ kj9) ∧ Aside0 (Kd.V k27 27 w' w.heap.size (fun k_ => (P0_ k_ ∨ w.heap.size ≤ k_) ∧ some k_ ≠ (v6 : Value).ownBlock ∧ some k_ ≠ (v7 : Value).ownBlock ∧ some k_ ≠ (v8 : Value).ownBlock) (.slice A0 l0.length c0) l0) ∧ Aside0 (Kd.N k27 27 w' w.heap.size (fun k_ => (P0_ k_ ∨ w.heap.size ≤ k_) ∧ some k_ ≠ (v7 : Value).ownBlock ∧ some k_ ≠ (v8 : Value).ownBlock) v6 x6_3) ∧ Aside0 (Kd.R (Kd.int .i64) 3 w' w.heap.size (fun k_ => (w.heap.size ≤ k_) ∧ some k_ ≠ (v8 : Value).ownBlock) v7 x7_3) ∧ Aside0 (Kd.R (Kd.int .i64) 3 w' w.heap.size (fun k_ => (w.heap.size ≤ k_) ∧ some k_ ≠ (v7 : Value).ownBlock) v8 x8_3) ∧ Aside0 (Below w.heap.size w w'))
            case atStart => exact ⟨(y192), (y195), (y198), (0), (by first | rfl | (simp; done) | (simp [*]; done)), H', ⟨Nat.le_refl _⟩, ⟨by (with_reducible repeat (first | apply Kd.V_alloc | apply Kd.V_drewN | apply Kd.V_drew)); exact Kd.V_mono HO_0.out (fun _ hk => ⟨hk.1.1.1, ⟨hk.1.1.2, ⟨hk.1.2, hk.2⟩⟩⟩)⟩, ⟨by (with_reducible repeat (first | apply Kd.N_alloc | apply Kd.N_drewN | apply Kd.N_drew)); exact Kd.N_mono HO194.out (fun _ hk => ⟨hk.1.1, ⟨hk.1.2, hk.2⟩⟩)⟩, ⟨by (with_reducible repeat (first | apply Kd.R_alloc | apply Kd.R_drewN | apply Kd.R_drew)); exact Kd.R_mono HO197.out (fun _ hk => ⟨hk.1.1, hk.2⟩)⟩, ⟨by (with_reducible repeat (first | apply Kd.R_alloc | apply Kd.R_drewN | apply Kd.R_drew)); exact Kd.R_mono HO200.out (fun _ hk => ⟨hk.1.1, hk.2⟩)⟩, ⟨by repeat (first | (with_reducible first | exact HB.out | apply below_alloc | apply pw_below_drewN | apply below_drew1) | exact HB.out)⟩⟩
            case round =>
              clear H'
              try clear c1
              try clear p1
              try clear q1
              try clear hx1
              try clear qi1
              try clear p2
              try clear c5
              try clear c6
              try clear c6b0
              try clear c6b1
              try clear c7
              try clear c8
              try clear c9
              try clear c10
              try clear c11
              try clear c11b0
              try clear c11b1
              try clear c12
              try clear c12b0
              try clear c12b1
              try clear hx191_0
              try clear hx191_1
              try clear p1
              try clear p191
              try clear p2
              try clear q1
              try clear q191
              obtain ⟨x6_3, x7_3, x8_3, x9_3, rfl, HA, HK3, HO_0, HO_6, HO_7, HO_8, HB⟩ := hrel
              cases gk with
              | zero => exact absurd HA.out (by simp [plimsolllaw14_LinOrder.l0])
              | succ k3 =>
                have H := HA.out
                clear HA
                simp only [plimsolllaw14_LinOrder.l0] at H
                by_cases c19 : x9_3 < (l0.length : Int)
                · rw [if_pos c19] at H
                  have c19b0 : decide (x9_3 < (l0.length : Int)) = true := decide_eq_true c19
                  clear c19
                  have HC20 := Aside0.mk H
                  clear H
                  go_upto_region 11 with (fail)
                  go_cut [76] (fun v76 wc => ∃ (kq : Nat) (x76_19 : Bool), v76 = .bool x76_19 ∧ Aside0 (plimsolllaw14_LinOrder.j3 kq l0 l1 x5_9 x6_3 x7_3 x8_3 x9_3 x76_19 = some r) ∧ Aside0 (kq ≤ k3) ∧ Aside0 (Kd.V k27 27 wc w.heap.size (fun k_ => (P0_ k_ ∨ w.heap.size ≤ k_) ∧ some k_ ≠ (u6 : Value).ownBlock ∧ some k_ ≠ (u7 : Value).ownBlock ∧ some k_ ≠ (u8 : Value).ownBlock) (.slice A0 l0.length c0) l0) ∧ Aside0 (Kd.N k27 27 wc w.heap.size (fun k_ => (P0_ k_ ∨ w.heap.size ≤ k_) ∧ some k_ ≠ (u7 : Value).ownBlock ∧ some k_ ≠ (u8 : Value).ownBlock) u6 x6_3) ∧ Aside0 (Kd.R (Kd.int .i64) 3 wc w.heap.size (fun k_ => (w.heap.size ≤ k_) ∧ some k_ ≠ (u8 : Value).ownBlock) u7 x7_3) ∧ Aside0 (Kd.R (Kd.int .i64) 3 wc w.heap.size (fun k_ => (w.heap.size ≤ k_) ∧ some k_ ≠ (u7 : Value).ownBlock) u8 x8_3) ∧ Aside0 (Below w.heap.size w wc))
                  case first =>
                    have H := HC20.out
                    clear HC20
                    by_cases c21 : 0 ≤ x9_3
                    · rw [if_pos c21] at H
                      have c21b0 : decide (0 ≤ x9_3) = true := decide_eq_true c21
                      clear c21
                      (first | rw [c21b0] | rw [c21b1] | (simp only [i64_w, i32_w]; rw [c21b0]) | skip)
                      by_cases c22 : (((rd_T27 l0 x9_3).f0).length : Int) = x5_9
                      · rw [if_pos c22] at H
                        have c22b0 : ((((rd_T27 l0 x9_3).f0).length : Int) == x5_9) = true := beq_iff_eq.mpr c22
                        have c22b1 : ((((rd_T27 l0 x9_3).f0).length : Int) != x5_9) = false := bne_eq_false_iff_eq.mpr c22
                        clear c22
                        by_cases c23 : x5_9 > 50
                        · rw [if_pos c23] at H
                          have c23b0 : decide (50 < x5_9) = true := decide_eq_true c23
                          clear c23
                          have H' := Aside0.mk H
                          clear H
                          have p201 : 0 ≤ (x9_3 : Int) := of_decide_eq_true (by first | (with_reducible assumption) | assumption)
                          have q201 : x9_3 < (l0.length : Int) := of_decide_eq_true (by first | (with_reducible assumption) | assumption)
                          obtain ⟨ad201, A201_0, c201_0, e201, hx201_0, hx201_1, hl201_0, hi201_0⟩ := at_T27 (Kd.V_reads' HO_0.out).2.2 x9_3 p201 q201
                          cases e201
                          obtain ⟨ce201, hce201, hMe201, hcc201⟩ := Kd.V_get HO_0.out z27 x9_3 p201 (by first | exact q201 | exact of_decide_eq_true (by first | (with_reducible assumption) | assumption) | (have e_ := (Kd.V_reads' HO_0.out).1; omega))
                          obtain ⟨ua201_0, uc201_0, rfl, ul201_0, ge201_0⟩ := k27_openF hMe201
                          have hv201_0 := hcc201 0 _ rfl
                          rw [Nat.add_zero] at hv201_0
                          replace hv201_0 := Option.some.inj (hv201_0.symm.trans hx201_0)
                          injection hv201_0 with hva_ hvn_ hvc_
                          rw [hva_] at ge201_0
                          rw [hvc_] at ul201_0
                          have HL201_0 := Aside0.mk (show Kd.V (Kd.int .i64) 3 _ w.heap.size _ _ ((rd_T27 l0 x9_3).f0) from Kd.V_mk ul201_0 ge201_0)
                          clear hva_ hvn_ hvc_ ge201_0 ul201_0
                          clear hcc201 hce201
                          have HR201_0 := Aside0.mk hi201_0
                          have HC201_0 := Aside0.mk hl201_0
                          clear hi201_0 hl201_0
                          replace p201 := eq_true p201
                          replace q201 := eq_true q201
                          go_wp2
                          go_meet
                          case rel => exact ⟨_, (true), (by first | rfl | (simp; done) | (simp [*]; done)), H', ⟨by have := HJ2.out; have := HJ9.out; have := HK3.out; first | omega | exact Nat.le_refl _⟩, ⟨by (with_reducible repeat (first | apply Kd.V_alloc | apply Kd.V_drewN | apply Kd.V_drew)); exact HO_0.out⟩, ⟨by (with_reducible repeat (first | apply Kd.N_alloc | apply Kd.N_drewN | apply Kd.N_drew)); exact HO_6.out⟩, ⟨by (with_reducible repeat (first | apply Kd.R_alloc | apply Kd.R_drewN | apply Kd.R_drew)); exact HO_7.out⟩, ⟨by (with_reducible repeat (first | apply Kd.R_alloc | apply Kd.R_drewN | apply Kd.R_drew)); exact HO_8.out⟩, ⟨by repeat (first | (with_reducible first | exact HB.out | apply below_alloc | apply pw_below_drewN | apply below_drew1) | exact HB.out)⟩⟩
                        · rw [if_neg c23] at H
                          have c23b0 : decide (50 < x5_9) = false := decide_eq_false c23
                          clear c23
                          by_cases c24 : ((rd_T27 l0 x9_3).f1) > 1099511627776
                          · rw [if_pos c24] at H
                            have c24b0 : decide (1099511627776 < ((rd_T27 l0 x9_3).f1)) = true := decide_eq_true c24
                            clear c24
                            have H' := Aside0.mk H
                            clear H
                            have p201 : 0 ≤ (x9_3 : Int) := of_decide_eq_true (by first | (with_reducible assumption) | assumption)
                            have q201 : x9_3 < (l0.length : Int) := of_decide_eq_true (by first | (with_reducible assumption) | assumption)
                            obtain ⟨ad201, A201_0, c201_0, e201, hx201_0, hx201_1, hl201_0, hi201_0⟩ := at_T27 (Kd.V_reads' HO_0.out).2.2 x9_3 p201 q201
                            cases e201
                            obtain ⟨ce201, hce201, hMe201, hcc201⟩ := Kd.V_get HO_0.out z27 x9_3 p201 (by first | exact q201 | exact of_decide_eq_true (by first | (with_reducible assumption) | assumption) | (have e_ := (Kd.V_reads' HO_0.out).1; omega))
                            obtain ⟨ua201_0, uc201_0, rfl, ul201_0, ge201_0⟩ := k27_openF hMe201
                            have hv201_0 := hcc201 0 _ rfl
                            rw [Nat.add_zero] at hv201_0
                            replace hv201_0 := Option.some.inj (hv201_0.symm.trans hx201_0)
                            injection hv201_0 with hva_ hvn_ hvc_
                            rw [hva_] at ge201_0
                            rw [hvc_] at ul201_0
                            have HL201_0 := Aside0.mk (show Kd.V (Kd.int .i64) 3 _ w.heap.size _ _ ((rd_T27 l0 x9_3).f0) from Kd.V_mk ul201_0 ge201_0)
                            clear hva_ hvn_ hvc_ ge201_0 ul201_0
                            clear hcc201 hce201
                            have HR201_0 := Aside0.mk hi201_0
                            have HC201_0 := Aside0.mk hl201_0
                            clear hi201_0 hl201_0
                            replace p201 := eq_true p201
                            replace q201 := eq_true q201
                            have p202 : 0 ≤ (x9_3 : Int) := of_decide_eq_true (by first | (with_reducible assumption) | assumption)
                            have q202 : x9_3 < (l0.length : Int) := of_decide_eq_true (by first | (with_reducible assumption) | assumption)
                            obtain ⟨ad202, A202_0, c202_0, e202, hx202_0, hx202_1, hl202_0, hi202_0⟩ := at_T27 (Kd.V_reads' HO_0.out).2.2 x9_3 p202 q202
                            obtain rfl : ad201 = ad202 := (by injection e202)
                            obtain ⟨ce202, hce202, hMe202, hcc202⟩ := Kd.V_get HO_0.out z27 x9_3 p202 (by first | exact q202 | exact of_decide_eq_true (by first | (with_reducible assumption) | assumption) | (have e_ := (Kd.V_reads' HO_0.out).1; omega))
                            obtain ⟨ua202_0, uc202_0, rfl, ul202_0, ge202_0⟩ := k27_openF hMe202
                            have hv202_0 := hcc202 0 _ rfl
                            rw [Nat.add_zero] at hv202_0
                            replace hv202_0 := Option.some.inj (hv202_0.symm.trans hx202_0)
                            injection hv202_0 with hva_ hvn_ hvc_
                            rw [hva_] at ge202_0
                            rw [hvc_] at ul202_0
                            have HL202_0 := Aside0.mk (show Kd.V (Kd.int .i64) 3 _ w.heap.size _ _ ((rd_T27 l0 x9_3).f0) from Kd.V_mk ul202_0 ge202_0)
                            clear hva_ hvn_ hvc_ ge202_0 ul202_0
                            clear hcc202 hce202
                            have HR202_0 := Aside0.mk hi202_0
                            have HC202_0 := Aside0.mk hl202_0
                            clear hi202_0 hl202_0
                            replace p202 := eq_true p202
                            replace q202 := eq_true q202
                            have ea_ := Option.some.inj (hx201_0.symm.trans hx202_0)
                            injection ea_ with ea_ en_ ec_
                            subst ea_
                            subst ec_
                            clear en_
                            go_wp2
                            go_meet
                            case rel => exact ⟨_, (true), (by first | rfl | (simp; done) | (simp [*]; done)), H', ⟨by have := HJ2.out; have := HJ9.out; have := HK3.out; first | omega | exact Nat.le_refl _⟩, ⟨by (with_reducible repeat (first | apply Kd.V_alloc | apply Kd.V_drewN | apply Kd.V_drew)); exact HO_0.out⟩, ⟨by (with_reducible repeat (first | apply Kd.N_alloc | apply Kd.N_drewN | apply Kd.N_drew)); exact HO_6.out⟩, ⟨by (with_reducible repeat (first | apply Kd.R_alloc | apply Kd.R_drewN | apply Kd.R_drew)); exact HO_7.out⟩, ⟨by (with_reducible repeat (first | apply Kd.R_alloc | apply Kd.R_drewN | apply Kd.R_drew)); exact HO_8.out⟩, ⟨by repeat (first | (with_reducible first | exact HB.out | apply below_alloc | apply pw_below_drewN | apply below_drew1) | exact HB.out)⟩⟩
                          · rw [if_neg c24] at H
                            have c24b0 : decide (1099511627776 < ((rd_T27 l0 x9_3).f1)) = false := decide_eq_false c24
                            clear c24
                            have H' := Aside0.mk H
                            clear H
                            have p201 : 0 ≤ (x9_3 : Int) := of_decide_eq_true (by first | (with_reducible assumption) | assumption)
                            have q201 : x9_3 < (l0.length : Int) := of_decide_eq_true (by first | (with_reducible assumption) | assumption)
                            obtain ⟨ad201, A201_0, c201_0, e201, hx201_0, hx201_1, hl201_0, hi201_0⟩ := at_T27 (Kd.V_reads' HO_0.out).2.2 x9_3 p201 q201
                            cases e201
                            obtain ⟨ce201, hce201, hMe201, hcc201⟩ := Kd.V_get HO_0.out z27 x9_3 p201 (by first | exact q201 | exact of_decide_eq_true (by first | (with_reducible assumption) | assumption) | (have e_ := (Kd.V_reads' HO_0.out).1; omega))
                            obtain ⟨ua201_0, uc201_0, rfl, ul201_0, ge201_0⟩ := k27_openF hMe201
                            have hv201_0 := hcc201 0 _ rfl
                            rw [Nat.add_zero] at hv201_0
                            replace hv201_0 := Option.some.inj (hv201_0.symm.trans hx201_0)
                            injection hv201_0 with hva_ hvn_ hvc_
                            rw [hva_] at ge201_0
                            rw [hvc_] at ul201_0
                            have HL201_0 := Aside0.mk (show Kd.V (Kd.int .i64) 3 _ w.heap.size _ _ ((rd_T27 l0 x9_3).f0) from Kd.V_mk ul201_0 ge201_0)
                            clear hva_ hvn_ hvc_ ge201_0 ul201_0
                            clear hcc201 hce201
                            have HR201_0 := Aside0.mk hi201_0
                            have HC201_0 := Aside0.mk hl201_0
                            clear hi201_0 hl201_0
                            replace p201 := eq_true p201
                            replace q201 := eq_true q201
                            have p202 : 0 ≤ (x9_3 : Int) := of_decide_eq_true (by first | (with_reducible assumption) | assumption)
                            have q202 : x9_3 < (l0.length : Int) := of_decide_eq_true (by first | (with_reducible assumption) | assumption)
                            obtain ⟨ad202, A202_0, c202_0, e202, hx202_0, hx202_1, hl202_0, hi202_0⟩ := at_T27 (Kd.V_reads' HO_0.out).2.2 x9_3 p202 q202
                            obtain rfl : ad201 = ad202 := (by injection e202)
                            obtain ⟨ce202, hce202, hMe202, hcc202⟩ := Kd.V_get HO_0.out z27 x9_3 p202 (by first | exact q202 | exact of_decide_eq_true (by first | (with_reducible assumption) | assumption) | (have e_ := (Kd.V_reads' HO_0.out).1; omega))
                            obtain ⟨ua202_0, uc202_0, rfl, ul202_0, ge202_0⟩ := k27_openF hMe202
                            have hv202_0 := hcc202 0 _ rfl
                            rw [Nat.add_zero] at hv202_0
                            replace hv202_0 := Option.some.inj (hv202_0.symm.trans hx202_0)
                            injection hv202_0 with hva_ hvn_ hvc_
                            rw [hva_] at ge202_0
                            rw [hvc_] at ul202_0
                            have HL202_0 := Aside0.mk (show Kd.V (Kd.int .i64) 3 _ w.heap.size _ _ ((rd_T27 l0 x9_3).f0) from Kd.V_mk ul202_0 ge202_0)
                            clear hva_ hvn_ hvc_ ge202_0 ul202_0
                            clear hcc202 hce202
                            have HR202_0 := Aside0.mk hi202_0
                            have HC202_0 := Aside0.mk hl202_0
                            clear hi202_0 hl202_0
                            replace p202 := eq_true p202
                            replace q202 := eq_true q202
                            have ea_ := Option.some.inj (hx201_0.symm.trans hx202_0)
                            injection ea_ with ea_ en_ ec_
                            subst ea_
                            subst ec_
                            clear en_
                            have p203 : 0 ≤ (x9_3 : Int) := of_decide_eq_true (by first | (with_reducible assumption) | assumption)
                            have q203 : x9_3 < (l0.length : Int) := of_decide_eq_true (by first | (with_reducible assumption) | assumption)
                            obtain ⟨ad203, A203_0, c203_0, e203, hx203_0, hx203_1, hl203_0, hi203_0⟩ := at_T27 (Kd.V_reads' HO_0.out).2.2 x9_3 p203 q203
                            obtain rfl : ad201 = ad203 := (by injection e203)
                            obtain ⟨ce203, hce203, hMe203, hcc203⟩ := Kd.V_get HO_0.out z27 x9_3 p203 (by first | exact q203 | exact of_decide_eq_true (by first | (with_reducible assumption) | assumption) | (have e_ := (Kd.V_reads' HO_0.out).1; omega))
                            obtain ⟨ua203_0, uc203_0, rfl, ul203_0, ge203_0⟩ := k27_openF hMe203
                            have hv203_0 := hcc203 0 _ rfl
                            rw [Nat.add_zero] at hv203_0
                            replace hv203_0 := Option.some.inj (hv203_0.symm.trans hx203_0)
                            injection hv203_0 with hva_ hvn_ hvc_
                            rw [hva_] at ge203_0
                            rw [hvc_] at ul203_0
                            have HL203_0 := Aside0.mk (show Kd.V (Kd.int .i64) 3 _ w.heap.size _ _ ((rd_T27 l0 x9_3).f0) from Kd.V_mk ul203_0 ge203_0)
                            clear hva_ hvn_ hvc_ ge203_0 ul203_0
                            clear hcc203 hce203
                            have HR203_0 := Aside0.mk hi203_0
                            have HC203_0 := Aside0.mk hl203_0
                            clear hi203_0 hl203_0
                            replace p203 := eq_true p203
                            replace q203 := eq_true q203
                            have ea_ := Option.some.inj (hx201_0.symm.trans hx203_0)
                            injection ea_ with ea_ en_ ec_
                            subst ea_
                            subst ec_
                            clear en_
                            go_wp2
                            go_meet
                            case rel => exact ⟨_, (decide (((rd_T27 l0 x9_3).f1) < (-1099511627776))), (by first | rfl | (simp; done) | (simp [*]; done)), H', ⟨by have := HJ2.out; have := HJ9.out; have := HK3.out; first | omega | exact Nat.le_refl _⟩, ⟨by (with_reducible repeat (first | apply Kd.V_alloc | apply Kd.V_drewN | apply Kd.V_drew)); exact HO_0.out⟩, ⟨by (with_reducible repeat (first | apply Kd.N_alloc | apply Kd.N_drewN | apply Kd.N_drew)); exact HO_6.out⟩, ⟨by (with_reducible repeat (first | apply Kd.R_alloc | apply Kd.R_drewN | apply Kd.R_drew)); exact HO_7.out⟩, ⟨by (with_reducible repeat (first | apply Kd.R_alloc | apply Kd.R_drewN | apply Kd.R_drew)); exact HO_8.out⟩, ⟨by repeat (first | (with_reducible first | exact HB.out | apply below_alloc | apply pw_below_drewN | apply below_drew1) | exact HB.out)⟩⟩
                      · rw [if_neg c22] at H
                        have c22b0 : ((((rd_T27 l0 x9_3).f0).length : Int) == x5_9) = false := beq_eq_false_iff_ne.mpr c22
                        have c22b1 : ((((rd_T27 l0 x9_3).f0).length : Int) != x5_9) = true := bne_iff_ne.mpr c22
                        have H' := Aside0.mk H
                        clear H
                        have p201 : 0 ≤ (x9_3 : Int) := of_decide_eq_true (by first | (with_reducible assumption) | assumption)
                        have q201 : x9_3 < (l0.length : Int) := of_decide_eq_true (by first | (with_reducible assumption) | assumption)
                        obtain ⟨ad201, A201_0, c201_0, e201, hx201_0, hx201_1, hl201_0, hi201_0⟩ := at_T27 (Kd.V_reads' HO_0.out).2.2 x9_3 p201 q201
                        cases e201
                        obtain ⟨ce201, hce201, hMe201, hcc201⟩ := Kd.V_get HO_0.out z27 x9_3 p201 (by first | exact q201 | exact of_decide_eq_true (by first | (with_reducible assumption) | assumption) | (have e_ := (Kd.V_reads' HO_0.out).1; omega))
                        obtain ⟨ua201_0, uc201_0, rfl, ul201_0, ge201_0⟩ := k27_openF hMe201
                        have hv201_0 := hcc201 0 _ rfl
                        rw [Nat.add_zero] at hv201_0
                        replace hv201_0 := Option.some.inj (hv201_0.symm.trans hx201_0)
                        injection hv201_0 with hva_ hvn_ hvc_
                        rw [hva_] at ge201_0
                        rw [hvc_] at ul201_0
                        have HL201_0 := Aside0.mk (show Kd.V (Kd.int .i64) 3 _ w.heap.size _ _ ((rd_T27 l0 x9_3).f0) from Kd.V_mk ul201_0 ge201_0)
                        clear hva_ hvn_ hvc_ ge201_0 ul201_0
                        clear hcc201 hce201
                        have HR201_0 := Aside0.mk hi201_0
                        have HC201_0 := Aside0.mk hl201_0
                        clear hi201_0 hl201_0
                        replace p201 := eq_true p201
                        replace q201 := eq_true q201
                        go_wp2
                        go_meet
                        case rel => exact ⟨_, (true), (by first | rfl | (simp; done) | (simp [*]; done)), H', ⟨by have := HJ2.out; have := HJ9.out; have := HK3.out; first | omega | exact Nat.le_refl _⟩, ⟨by (with_reducible repeat (first | apply Kd.V_alloc | apply Kd.V_drewN | apply Kd.V_drew)); exact HO_0.out⟩, ⟨by (with_reducible repeat (first | apply Kd.N_alloc | apply Kd.N_drewN | apply Kd.N_drew)); exact HO_6.out⟩, ⟨by (with_reducible repeat (first | apply Kd.R_alloc | apply Kd.R_drewN | apply Kd.R_drew)); exact HO_7.out⟩, ⟨by (with_reducible repeat (first | apply Kd.R_alloc | apply Kd.R_drewN | apply Kd.R_drew)); exact HO_8.out⟩, ⟨by repeat (first | (with_reducible first | exact HB.out | apply below_alloc | apply pw_below_drewN | apply below_drew1) | exact HB.out)⟩⟩
                    · rw [if_neg c21] at H
                      exact absurd H (by simp)
                  case rest =>
                    clear HC20
                    try clear c1
                    try clear p1
                    try clear q1
                    try clear hx1
                    try clear qi1
                    try clear c2
                    try clear p2
                    try clear q2
                    try clear hx2
                    try clear c5
                    try clear c6
                    try clear c6b0
                    try clear c6b1
                    try clear c7
                    try clear c8
                    try clear c9
                    try clear c10
                    try clear c11
                    try clear c11b0
                    try clear c11b1
                    try clear c12
                    try clear c12b0
                    try clear c12b1
                    try clear c19
                    try clear c19b0
                    try clear p19
                    try clear q19
                    try clear hx19
                    try clear qi19
                    try clear c20
                    try clear p20
                    try clear q20
                    try clear hx20
                    try clear c21
                    try clear c21b0
                    try clear c22
                    try clear c22b0
                    try clear c22b1
                    try clear c23
                    try clear c23b0
                    try clear c24
                    try clear c24b0
                    try clear hx191_0
                    try clear hx191_1
                    try clear hx201_0
                    try clear hx201_1
                    try clear hx202_0
                    try clear hx202_1
                    try clear hx203_0
                    try clear hx203_1
                    try clear p1
                    try clear p191
                    try clear p2
                    try clear p201
                    try clear p202
                    try clear p203
                    try clear q1
                    try clear q191
                    try clear q201
                    try clear q202
                    try clear q203
                    obtain ⟨kq, x76_19, rfl, HA, HJ19, HO_0, HO_6, HO_7, HO_8, HB⟩ := hcut
                    cases kq with
                    | zero => exact absurd HA.out (by simp [plimsolllaw14_LinOrder.j3])
                    | succ kj19 =>
                      have H := HA.out
                      clear HA
                      simp only [plimsolllaw14_LinOrder.j3] at H
                      by_cases c25 : x76_19 = true
                      · subst c25
                        have H1 : ((plimsolllaw14_awake.f kj19).bind fun t204 => (some t204)) = some r := by rw [if_pos rfl] at H; exact H
                        clear H
                        have H := H1
                        clear H1
                        replace H := Option.bind_eq_some_iff.mp H
                        obtain ⟨t204, A260, H⟩ := H
                        replace H : (some t204) = some r := H
                        have A26 := Aside0.mk A260
                        clear A260
                        obtain rfl := Option.some.inj H
                        go_wp2_with (first | ((with_reducible refine gate_callee (f := 10) rfl ?_); refine goesL_ (some 77) rfl rfl Try.func10 (by kernel_rfl) rfl #[] rfl (by (try simp only [List.map_toArray, List.map_cons, List.map_nil]); first | done | rfl | (simp only [List.length_drop, List.length_take]; rfl)) ?_; (with_reducible refine (plimsolllaw14_awake.calls kj19  t204 _ A26.out).mono ?_); rintro e w27 ⟨rfl, hb⟩; refine ⟨_, rfl, ?_⟩; have n0_ := Aside0.mk (Kd.V_below (by (with_reducible repeat (first | apply Kd.V_alloc | apply Kd.V_drewN | apply Kd.V_drew)); exact HO_0.out) hb); have n1_ := Aside0.mk (Kd.N_below (by (with_reducible repeat (first | apply Kd.N_alloc | apply Kd.N_drewN | apply Kd.N_drew)); exact HO_6.out) hb); have n2_ := Aside0.mk (Kd.R_below (by (with_reducible repeat (first | apply Kd.R_alloc | apply Kd.R_drewN | apply Kd.R_drew)); exact HO_7.out) hb); have n3_ := Aside0.mk (Kd.R_below (by (with_reducible repeat (first | apply Kd.R_alloc | apply Kd.R_drewN | apply Kd.R_drew)); exact HO_8.out) hb); have n4_ := Aside0.mk (below_step (by repeat (first | (with_reducible first | exact HB.out | apply below_alloc | apply pw_below_drewN | apply below_drew1) | exact HB.out)) hb); clear HO_0; clear HO_6; clear HO_7; clear HO_8; clear HB; have HO_0 := n0_; have HO_6 := n1_; have HO_7 := n2_; have HO_8 := n3_; have HB := n4_; clear n0_ n1_ n2_ n3_ n4_; (try clear hb); (try clear hb2); (try clear hk); (try clear hi)))
                        go_ret
                        exact ⟨by first | rfl | (simp [errW_none, errW_some] <;> rfl) | (simp [*, errW_none, errW_some] <;> rfl), by repeat (first | (with_reducible first | exact HB.out | apply below_alloc | apply pw_below_drewN | apply below_drew1) | exact HB.out)⟩
                      · replace c25 := Bool.eq_false_iff.mpr c25
                        subst c25
                        have H1 : (plimsolllaw14_LinOrder.l1 kj19 l0 l1 x5_9 x6_3 x7_3 x8_3 x9_3 0) = some r := by rw [if_neg (show ¬ (false = true) by decide)] at H; exact H
                        clear H
                        have H := H1
                        clear H1
                        have H' := Aside0.mk H
                        clear H
                        go_wp2
                        go_loopg [10] kj19 (fun kq v10 w' => ∃ (x10_5 : Int), v10 = .int .i64 x10_5 ∧ Aside0 (plimsolllaw14_LinOrder.l1 kq l0 l1 x5_9 x6_3 x7_3 x8_3 x9_3 x10_5 = some r) ∧ Aside0 (kq ≤ kj19) ∧ Aside0 (Kd.V k27 27 w' w.heap.size (fun k_ => (P0_ k_ ∨ w.heap.size ≤ k_) ∧ some k_ ≠ (u6 : Value).ownBlock ∧ some k_ ≠ (u7 : Value).ownBlock ∧ some k_ ≠ (u8 : Value).ownBlock) (.slice A0 l0.length c0) l0) ∧ Aside0 (Kd.N k27 27 w' w.heap.size (fun k_ => (P0_ k_ ∨ w.heap.size ≤ k_) ∧ some k_ ≠ (u7 : Value).ownBlock ∧ some k_ ≠ (u8 : Value).ownBlock) u6 x6_3) ∧ Aside0 (Kd.R (Kd.int .i64) 3 w' w.heap.size (fun k_ => (w.heap.size ≤ k_) ∧ some k_ ≠ (u8 : Value).ownBlock) u7 x7_3) ∧ Aside0 (Kd.R (Kd.int .i64) 3 w' w.heap.size (fun k_ => (w.heap.size ≤ k_) ∧ some k_ ≠ (u7 : Value).ownBlock) u8 x8_3) ∧ Aside0 (Below w.heap.size w w'))
                        case atStart => exact ⟨(0), (by first | rfl | (simp; done) | (simp [*]; done)), H', ⟨Nat.le_refl _⟩, ⟨by (with_reducible repeat (first | apply Kd.V_alloc | apply Kd.V_drewN | apply Kd.V_drew)); exact HO_0.out⟩, ⟨by (with_reducible repeat (first | apply Kd.N_alloc | apply Kd.N_drewN | apply Kd.N_drew)); exact HO_6.out⟩, ⟨by (with_reducible repeat (first | apply Kd.R_alloc | apply Kd.R_drewN | apply Kd.R_drew)); exact HO_7.out⟩, ⟨by (with_reducible repeat (first | apply Kd.R_alloc | apply Kd.R_drewN | apply Kd.R_drew)); exact HO_8.out⟩, ⟨by repeat (first | (with_reducible first | exact HB.out | apply below_alloc | apply pw_below_drewN | apply below_drew1) | exact HB.out)⟩⟩
                        case round =>
                          clear H'
                          try clear c1
                          try clear p1
                          try clear q1
                          try clear hx1
                          try clear qi1
                          try clear c2
                          try clear p2
                          try clear q2
                          try clear hx2
                          try clear c5
                          try clear c6
                          try clear c6b0
                          try clear c6b1
                          try clear c7
                          try clear c8
                          try clear c9
                          try clear c10
                          try clear c11
                          try clear c11b0
                          try clear c11b1
                          try clear c12
                          try clear c12b0
                          try clear c12b1
                          try clear c19
                          try clear c19b0
                          try clear p19
                          try clear q19
                          try clear hx19
                          try clear qi19
                          try clear c20
                          try clear p20
                          try clear q20
                          try clear hx20
                          try clear c21
                          try clear c21b0
                          try clear c22
                          try clear c22b0
                          try clear c22b1
                          try clear c23
                          try clear c23b0
                          try clear c24
                          try clear c24b0
                          try clear c25
                          try clear hx191_0
                          try clear hx191_1
                          try clear hx201_0
                          try clear hx201_1
                          try clear hx202_0
                          try clear hx202_1
                          try clear hx203_0
                          try clear hx203_1
                          try clear p1
                          try clear p19
                          try clear p191
                          try clear p2
                          try clear p20
                          try clear p201
                          try clear p202
                          try clear p203
                          try clear q1
                          try clear q19
                          try clear q191
                          try clear q2
                          try clear q20
                          try clear q201
                          try clear q202
                          try clear q203
                          obtain ⟨x10_5, rfl, HA, HK5, HO_0, HO_6, HO_7, HO_8, HB⟩ := hrel
                          cases gk with
                          | zero => exact absurd HA.out (by simp [plimsolllaw14_LinOrder.l1])
                          | succ k5 =>
                            have H := HA.out
                            clear HA
                            simp only [plimsolllaw14_LinOrder.l1] at H
                            by_cases c28 : x10_5 < x5_9
                            · rw [if_pos c28] at H
                              have c28b0 : decide (x10_5 < x5_9) = true := decide_eq_true c28
                              clear c28
                              by_cases c29 : 0 ≤ x9_3
                              · rw [if_pos c29] at H
                                have c29b0 : decide (0 ≤ x9_3) = true := decide_eq_true c29
                                clear c29
                                by_cases c30 : x9_3 < (l0.length : Int)
                                · rw [if_pos c30] at H
                                  have c30b0 : decide (x9_3 < (l0.length : Int)) = true := decide_eq_true c30
                                  clear c30
                                  by_cases c31 : 0 ≤ x10_5
                                  · rw [if_pos c31] at H
                                    have c31b0 : decide (0 ≤ x10_5) = true := decide_eq_true c31
                                    clear c31
                                    by_cases c32 : x10_5 < (((rd_T27 l0 x9_3).f0).length : Int)
                                    · rw [if_pos c32] at H
                                      have c32b0 : decide (x10_5 < (((rd_T27 l0 x9_3).f0).length : Int)) = true := decide_eq_true c32
                                      clear c32
                                      by_cases c33 : (rd ((rd_T27 l0 x9_3).f0) x10_5) > 1099511627776
                                      · rw [if_pos c33] at H
                                        have c33b0 : decide (1099511627776 < (rd ((rd_T27 l0 x9_3).f0) x10_5)) = true := decide_eq_true c33
                                        clear c33
                                        replace H := Option.bind_eq_some_iff.mp H
                                        obtain ⟨t207, A340, H⟩ := H
                                        replace H : (some t207) = some r := H
                                        have A34 := Aside0.mk A340
                                        clear A340
                                        obtain rfl := Option.some.inj H
                                        have p205 : 0 ≤ (x9_3 : Int) := of_decide_eq_true (by first | (with_reducible assumption) | assumption)
                                        have q205 : x9_3 < (l0.length : Int) := of_decide_eq_true (by first | (with_reducible assumption) | assumption)
                                        obtain ⟨ad205, A205_0, c205_0, e205, hx205_0, hx205_1, hl205_0, hi205_0⟩ := at_T27 (Kd.V_reads' HO_0.out).2.2 x9_3 p205 q205
                                        cases e205
                                        obtain ⟨ce205, hce205, hMe205, hcc205⟩ := Kd.V_get HO_0.out z27 x9_3 p205 (by first | exact q205 | exact of_decide_eq_true (by first | (with_reducible assumption) | assumption) | (have e_ := (Kd.V_reads' HO_0.out).1; omega))
                                        obtain ⟨ua205_0, uc205_0, rfl, ul205_0, ge205_0⟩ := k27_openF hMe205
                                        have hv205_0 := hcc205 0 _ rfl
                                        rw [Nat.add_zero] at hv205_0
                                        replace hv205_0 := Option.some.inj (hv205_0.symm.trans hx205_0)
                                        injection hv205_0 with hva_ hvn_ hvc_
                                        rw [hva_] at ge205_0
                                        rw [hvc_] at ul205_0
                                        have HL205_0 := Aside0.mk (show Kd.V (Kd.int .i64) 3 _ w.heap.size _ _ ((rd_T27 l0 x9_3).f0) from Kd.V_mk ul205_0 ge205_0)
                                        clear hva_ hvn_ hvc_ ge205_0 ul205_0
                                        clear hcc205 hce205
                                        have HR205_0 := Aside0.mk hi205_0
                                        have HC205_0 := Aside0.mk hl205_0
                                        clear hi205_0 hl205_0
                                        replace p205 := eq_true p205
                                        replace q205 := eq_true q205
                                        have p206 : 0 ≤ (x10_5 : Int) := of_decide_eq_true (by first | (with_reducible assumption) | assumption)
                                        have q206 : x10_5 < (((rd_T27 l0 x9_3).f0).length : Int) := of_decide_eq_true (by first | (with_reducible assumption) | assumption)
                                        obtain ⟨ad206, e206, hx206_0⟩ := Kd.at_int (by repeat (first | (with_reducible exact HR205_0.out) | (with_reducible refine Kd.C_alloc ?_ _) | (with_reducible refine Kd.C_drewN ?_ _) | (with_reducible refine Kd.C_drew ?_) | exact HR205_0.out)) x10_5 p206 q206
                                        cases e206
                                        replace p206 := eq_true p206
                                        replace q206 := eq_true q206
                                        go_wp2_with (first | ((with_reducible refine gate_callee (f := 10) rfl ?_); refine goesL_ (some 103) rfl rfl Try.func10 (by kernel_rfl) rfl #[] rfl (by (try simp only [List.map_toArray, List.map_cons, List.map_nil]); first | done | rfl | (simp only [List.length_drop, List.length_take]; rfl)) ?_; (with_reducible refine (plimsolllaw14_awake.calls k5  t207 _ A34.out).mono ?_); rintro e w35 ⟨rfl, hb⟩; refine ⟨_, rfl, ?_⟩; have n0_ := Aside0.mk (Kd.V_below (by (with_reducible repeat (first | apply Kd.V_alloc | apply Kd.V_drewN | apply Kd.V_drew)); exact HO_0.out) hb); have n1_ := Aside0.mk (Kd.N_below (by (with_reducible repeat (first | apply Kd.N_alloc | apply Kd.N_drewN | apply Kd.N_drew)); exact HO_6.out) hb); have n2_ := Aside0.mk (Kd.R_below (by (with_reducible repeat (first | apply Kd.R_alloc | apply Kd.R_drewN | apply Kd.R_drew)); exact HO_7.out) hb); have n3_ := Aside0.mk (Kd.R_below (by (with_reducible repeat (first | apply Kd.R_alloc | apply Kd.R_drewN | apply Kd.R_drew)); exact HO_8.out) hb); have n4_ := Aside0.mk (Kd.V_below (by (with_reducible repeat (first | apply Kd.V_alloc | apply Kd.V_drewN | apply Kd.V_drew)); exact HL205_0.out) hb); have n5_ := Aside0.mk (Kd.C_below (by repeat (first | (with_reducible exact HR205_0.out) | (with_reducible refine Kd.C_alloc ?_ _) | (with_reducible refine Kd.C_drewN ?_ _) | (with_reducible refine Kd.C_drew ?_) | exact HR205_0.out)) hb); have n6_ := Aside0.mk (below_step (by repeat (first | (with_reducible first | exact HB.out | apply below_alloc | apply pw_below_drewN | apply below_drew1) | exact HB.out)) hb); clear HO_0; clear HO_6; clear HO_7; clear HO_8; clear HL205_0; clear HR205_0; clear HB; have HO_0 := n0_; have HO_6 := n1_; have HO_7 := n2_; have HO_8 := n3_; have HL205_0 := n4_; have HR205_0 := n5_; have HB := n6_; clear n0_ n1_ n2_ n3_ n4_ n5_ n6_; (try clear hb); (try clear hb2); (try clear hk); (try clear hi)))
                                        go_ret
                                        exact ⟨by first | rfl | (simp [errW_none, errW_some] <;> rfl) | (simp [*, errW_none, errW_some] <;> rfl), by repeat (first | (with_reducible first | exact HB.out | apply below_alloc | apply pw_below_drewN | apply below_drew1) | exact HB.out)⟩
                                      · rw [if_neg c33] at H
                                        have c33b0 : decide (1099511627776 < (rd ((rd_T27 l0 x9_3).f0) x10_5)) = false := decide_eq_false c33
                                        clear c33
                                        by_cases c36 : (rd ((rd_T27 l0 x9_3).f0) x10_5) < (-1099511627776)
                                        · rw [if_pos c36] at H
                                          have c36b0 : decide ((rd ((rd_T27 l0 x9_3).f0) x10_5) < (-1099511627776)) = true := decide_eq_true c36
                                          clear c36
                                          replace H := Option.bind_eq_some_iff.mp H
                                          obtain ⟨t210, A370, H⟩ := H
                                          replace H : (some t210) = some r := H
                                          have A37 := Aside0.mk A370
                                          clear A370
                                          obtain rfl := Option.some.inj H
                                          have p205 : 0 ≤ (x9_3 : Int) := of_decide_eq_true (by first | (with_reducible assumption) | assumption)
                                          have q205 : x9_3 < (l0.length : Int) := of_decide_eq_true (by first | (with_reducible assumption) | assumption)
                                          obtain ⟨ad205, A205_0, c205_0, e205, hx205_0, hx205_1, hl205_0, hi205_0⟩ := at_T27 (Kd.V_reads' HO_0.out).2.2 x9_3 p205 q205
                                          cases e205
                                          obtain ⟨ce205, hce205, hMe205, hcc205⟩ := Kd.V_get HO_0.out z27 x9_3 p205 (by first | exact q205 | exact of_decide_eq_true (by first | (with_reducible assumption) | assumption) | (have e_ := (Kd.V_reads' HO_0.out).1; omega))
                                          obtain ⟨ua205_0, uc205_0, rfl, ul205_0, ge205_0⟩ := k27_openF hMe205
                                          have hv205_0 := hcc205 0 _ rfl
                                          rw [Nat.add_zero] at hv205_0
                                          replace hv205_0 := Option.some.inj (hv205_0.symm.trans hx205_0)
                                          injection hv205_0 with hva_ hvn_ hvc_
                                          rw [hva_] at ge205_0
                                          rw [hvc_] at ul205_0
                                          have HL205_0 := Aside0.mk (show Kd.V (Kd.int .i64) 3 _ w.heap.size _ _ ((rd_T27 l0 x9_3).f0) from Kd.V_mk ul205_0 ge205_0)
                                          clear hva_ hvn_ hvc_ ge205_0 ul205_0
                                          clear hcc205 hce205
                                          have HR205_0 := Aside0.mk hi205_0
                                          have HC205_0 := Aside0.mk hl205_0
                                          clear hi205_0 hl205_0
                                          replace p205 := eq_true p205
                                          replace q205 := eq_true q205
                                          have p206 : 0 ≤ (x10_5 : Int) := of_decide_eq_true (by first | (with_reducible assumption) | assumption)
                                          have q206 : x10_5 < (((rd_T27 l0 x9_3).f0).length : Int) := of_decide_eq_true (by first | (with_reducible assumption) | assumption)
                                          obtain ⟨ad206, e206, hx206_0⟩ := Kd.at_int (by repeat (first | (with_reducible exact HR205_0.out) | (with_reducible refine Kd.C_alloc ?_ _) | (with_reducible refine Kd.C_drewN ?_ _) | (with_reducible refine Kd.C_drew ?_) | exact HR205_0.out)) x10_5 p206 q206
                                          cases e206
                                          replace p206 := eq_true p206
                                          replace q206 := eq_true q206
                                          have p208 : 0 ≤ (x9_3 : Int) := of_decide_eq_true (by first | (with_reducible assumption) | assumption)
                                          have q208 : x9_3 < (l0.length : Int) := of_decide_eq_true (by first | (with_reducible assumption) | assumption)
                                          obtain ⟨ad208, A208_0, c208_0, e208, hx208_0, hx208_1, hl208_0, hi208_0⟩ := at_T27 (Kd.V_reads' HO_0.out).2.2 x9_3 p208 q208
                                          obtain rfl : ad205 = ad208 := (by injection e208)
                                          obtain ⟨ce208, hce208, hMe208, hcc208⟩ := Kd.V_get HO_0.out z27 x9_3 p208 (by first | exact q208 | exact of_decide_eq_true (by first | (with_reducible assumption) | assumption) | (have e_ := (Kd.V_reads' HO_0.out).1; omega))
                                          obtain ⟨ua208_0, uc208_0, rfl, ul208_0, ge208_0⟩ := k27_openF hMe208
                                          have hv208_0 := hcc208 0 _ rfl
                                          rw [Nat.add_zero] at hv208_0
                                          replace hv208_0 := Option.some.inj (hv208_0.symm.trans hx208_0)
                                          injection hv208_0 with hva_ hvn_ hvc_
                                          rw [hva_] at ge208_0
                                          rw [hvc_] at ul208_0
                                          have HL208_0 := Aside0.mk (show Kd.V (Kd.int .i64) 3 _ w.heap.size _ _ ((rd_T27 l0 x9_3).f0) from Kd.V_mk ul208_0 ge208_0)
                                          clear hva_ hvn_ hvc_ ge208_0 ul208_0
                                          clear hcc208 hce208
                                          have HR208_0 := Aside0.mk hi208_0
                                          have HC208_0 := Aside0.mk hl208_0
                                          clear hi208_0 hl208_0
                                          replace p208 := eq_true p208
                                          replace q208 := eq_true q208
                                          have ea_ := Option.some.inj (hx205_0.symm.trans hx208_0)
                                          injection ea_ with ea_ en_ ec_
                                          subst ea_
                                          subst ec_
                                          clear en_
                                          have p209 : 0 ≤ (x10_5 : Int) := of_decide_eq_true (by first | (with_reducible assumption) | assumption)
                                          have q209 : x10_5 < (((rd_T27 l0 x9_3).f0).length : Int) := of_decide_eq_true (by first | (with_reducible assumption) | assumption)
                                          obtain ⟨ad209, e209, hx209_0⟩ := Kd.at_int (by repeat (first | (with_reducible exact HR208_0.out) | (with_reducible refine Kd.C_alloc ?_ _) | (with_reducible refine Kd.C_drewN ?_ _) | (with_reducible refine Kd.C_drew ?_) | exact HR208_0.out)) x10_5 p209 q209
                                          cases e209
                                          replace p209 := eq_true p209
                                          replace q209 := eq_true q209
                                          go_wp2_with (first | ((with_reducible refine gate_callee (f := 10) rfl ?_); refine goesL_ (some 103) rfl rfl Try.func10 (by kernel_rfl) rfl #[] rfl (by (try simp only [List.map_toArray, List.map_cons, List.map_nil]); first | done | rfl | (simp only [List.length_drop, List.length_take]; rfl)) ?_; (with_reducible refine (plimsolllaw14_awake.calls k5  t210 _ A37.out).mono ?_); rintro e w38 ⟨rfl, hb⟩; refine ⟨_, rfl, ?_⟩; have n0_ := Aside0.mk (Kd.V_below (by (with_reducible repeat (first | apply Kd.V_alloc | apply Kd.V_drewN | apply Kd.V_drew)); exact HO_0.out) hb); have n1_ := Aside0.mk (Kd.N_below (by (with_reducible repeat (first | apply Kd.N_alloc | apply Kd.N_drewN | apply Kd.N_drew)); exact HO_6.out) hb); have n2_ := Aside0.mk (Kd.R_below (by (with_reducible repeat (first | apply Kd.R_alloc | apply Kd.R_drewN | apply Kd.R_drew)); exact HO_7.out) hb); have n3_ := Aside0.mk (Kd.R_below (by (with_reducible repeat (first | apply Kd.R_alloc | apply Kd.R_drewN | apply Kd.R_drew)); exact HO_8.out) hb); have n4_ := Aside0.mk (Kd.V_below (by (with_reducible repeat (first | apply Kd.V_alloc | apply Kd.V_drewN | apply Kd.V_drew)); exact HL205_0.out) hb); have n5_ := Aside0.mk (Kd.V_below (by (with_reducible repeat (first | apply Kd.V_alloc | apply Kd.V_drewN | apply Kd.V_drew)); exact HL208_0.out) hb); have n6_ := Aside0.mk (Kd.C_below (by repeat (first | (with_reducible exact HR205_0.out) | (with_reducible refine Kd.C_alloc ?_ _) | (with_reducible refine Kd.C_drewN ?_ _) | (with_reducible refine Kd.C_drew ?_) | exact HR205_0.out)) hb); have n7_ := Aside0.mk (Kd.C_below (by repeat (first | (with_reducible exact HR208_0.out) | (with_reducible refine Kd.C_alloc ?_ _) | (with_reducible refine Kd.C_drewN ?_ _) | (with_reducible refine Kd.C_drew ?_) | exact HR208_0.out)) hb); have n8_ := Aside0.mk (below_step (by repeat (first | (with_reducible first | exact HB.out | apply below_alloc | apply pw_below_drewN | apply below_drew1) | exact HB.out)) hb); clear HO_0; clear HO_6; clear HO_7; clear HO_8; clear HL205_0; clear HL208_0; clear HR205_0; clear HR208_0; clear HB; have HO_0 := n0_; have HO_6 := n1_; have HO_7 := n2_; have HO_8 := n3_; have HL205_0 := n4_; have HL208_0 := n5_; have HR205_0 := n6_; have HR208_0 := n7_; have HB := n8_; clear n0_ n1_ n2_ n3_ n4_ n5_ n6_ n7_ n8_; (try clear hb); (try clear hb2); (try clear hk); (try clear hi)))
                                          go_ret
                                          exact ⟨by first | rfl | (simp [errW_none, errW_some] <;> rfl) | (simp [*, errW_none, errW_some] <;> rfl), by repeat (first | (with_reducible first | exact HB.out | apply below_alloc | apply pw_below_drewN | apply below_drew1) | exact HB.out)⟩
                                        · rw [if_neg c36] at H
                                          have c36b0 : decide ((rd ((rd_T27 l0 x9_3).f0) x10_5) < (-1099511627776)) = false := decide_eq_false c36
                                          clear c36
                                          have H' := Aside0.mk H
                                          clear H
                                          have p205 : 0 ≤ (x9_3 : Int) := of_decide_eq_true (by first | (with_reducible assumption) | assumption)
                                          have q205 : x9_3 < (l0.length : Int) := of_decide_eq_true (by first | (with_reducible assumption) | assumption)
                                          obtain ⟨ad205, A205_0, c205_0, e205, hx205_0, hx205_1, hl205_0, hi205_0⟩ := at_T27 (Kd.V_reads' HO_0.out).2.2 x9_3 p205 q205
                                          cases e205
                                          obtain ⟨ce205, hce205, hMe205, hcc205⟩ := Kd.V_get HO_0.out z27 x9_3 p205 (by first | exact q205 | exact of_decide_eq_true (by first | (with_reducible assumption) | assumption) | (have e_ := (Kd.V_reads' HO_0.out).1; omega))
                                          obtain ⟨ua205_0, uc205_0, rfl, ul205_0, ge205_0⟩ := k27_openF hMe205
                                          have hv205_0 := hcc205 0 _ rfl
                                          rw [Nat.add_zero] at hv205_0
                                          replace hv205_0 := Option.some.inj (hv205_0.symm.trans hx205_0)
                                          injection hv205_0 with hva_ hvn_ hvc_
                                          rw [hva_] at ge205_0
                                          rw [hvc_] at ul205_0
                                          have HL205_0 := Aside0.mk (show Kd.V (Kd.int .i64) 3 _ w.heap.size _ _ ((rd_T27 l0 x9_3).f0) from Kd.V_mk ul205_0 ge205_0)
                                          clear hva_ hvn_ hvc_ ge205_0 ul205_0
                                          clear hcc205 hce205
                                          have HR205_0 := Aside0.mk hi205_0
                                          have HC205_0 := Aside0.mk hl205_0
                                          clear hi205_0 hl205_0
                                          replace p205 := eq_true p205
                                          replace q205 := eq_true q205
                                          have p206 : 0 ≤ (x10_5 : Int) := of_decide_eq_true (by first | (with_reducible assumption) | assumption)
                                          have q206 : x10_5 < (((rd_T27 l0 x9_3).f0).length : Int) := of_decide_eq_true (by first | (with_reducible assumption) | assumption)
                                          obtain ⟨ad206, e206, hx206_0⟩ := Kd.at_int (by repeat (first | (with_reducible exact HR205_0.out) | (with_reducible refine Kd.C_alloc ?_ _) | (with_reducible refine Kd.C_drewN ?_ _) | (with_reducible refine Kd.C_drew ?_) | exact HR205_0.out)) x10_5 p206 q206
                                          cases e206
                                          replace p206 := eq_true p206
                                          replace q206 := eq_true q206
                                          have p208 : 0 ≤ (x9_3 : Int) := of_decide_eq_true (by first | (with_reducible assumption) | assumption)
                                          have q208 : x9_3 < (l0.length : Int) := of_decide_eq_true (by first | (with_reducible assumption) | assumption)
                                          obtain ⟨ad208, A208_0, c208_0, e208, hx208_0, hx208_1, hl208_0, hi208_0⟩ := at_T27 (Kd.V_reads' HO_0.out).2.2 x9_3 p208 q208
                                          obtain rfl : ad205 = ad208 := (by injection e208)
                                          obtain ⟨ce208, hce208, hMe208, hcc208⟩ := Kd.V_get HO_0.out z27 x9_3 p208 (by first | exact q208 | exact of_decide_eq_true (by first | (with_reducible assumption) | assumption) | (have e_ := (Kd.V_reads' HO_0.out).1; omega))
                                          obtain ⟨ua208_0, uc208_0, rfl, ul208_0, ge208_0⟩ := k27_openF hMe208
                                          have hv208_0 := hcc208 0 _ rfl
                                          rw [Nat.add_zero] at hv208_0
                                          replace hv208_0 := Option.some.inj (hv208_0.symm.trans hx208_0)
                                          injection hv208_0 with hva_ hvn_ hvc_
                                          rw [hva_] at ge208_0
                                          rw [hvc_] at ul208_0
                                          have HL208_0 := Aside0.mk (show Kd.V (Kd.int .i64) 3 _ w.heap.size _ _ ((rd_T27 l0 x9_3).f0) from Kd.V_mk ul208_0 ge208_0)
                                          clear hva_ hvn_ hvc_ ge208_0 ul208_0
                                          clear hcc208 hce208
                                          have HR208_0 := Aside0.mk hi208_0
                                          have HC208_0 := Aside0.mk hl208_0
                                          clear hi208_0 hl208_0
                                          replace p208 := eq_true p208
                                          replace q208 := eq_true q208
                                          have ea_ := Option.some.inj (hx205_0.symm.trans hx208_0)
                                          injection ea_ with ea_ en_ ec_
                                          subst ea_
                                          subst ec_
                                          clear en_
                                          have p209 : 0 ≤ (x10_5 : Int) := of_decide_eq_true (by first | (with_reducible assumption) | assumption)
                                          have q209 : x10_5 < (((rd_T27 l0 x9_3).f0).length : Int) := of_decide_eq_true (by first | (with_reducible assumption) | assumption)
                                          obtain ⟨ad209, e209, hx209_0⟩ := Kd.at_int (by repeat (first | (with_reducible exact HR208_0.out) | (with_reducible refine Kd.C_alloc ?_ _) | (with_reducible refine Kd.C_drewN ?_ _) | (with_reducible refine Kd.C_drew ?_) | exact HR208_0.out)) x10_5 p209 q209
                                          cases e209
                                          replace p209 := eq_true p209
                                          replace q209 := eq_true q209
                                          go_wp2
                                          go_roundg k5
                                          case measure => have := HJ2.out; have := HJ9.out; have := HK3.out; have := HJ19.out; have := HK5.out; omega
                                          case rel => exact ⟨(wrap64 (x10_5 + 1)), (by first | rfl | (simp; done) | (simp [*]; done)), H', ⟨by have := HJ2.out; have := HJ9.out; have := HK3.out; have := HJ19.out; have := HK5.out; omega⟩, ⟨by (with_reducible repeat (first | apply Kd.V_alloc | apply Kd.V_drewN | apply Kd.V_drew)); exact HO_0.out⟩, ⟨by (with_reducible repeat (first | apply Kd.N_alloc | apply Kd.N_drewN | apply Kd.N_drew)); exact HO_6.out⟩, ⟨by (with_reducible repeat (first | apply Kd.R_alloc | apply Kd.R_drewN | apply Kd.R_drew)); exact HO_7.out⟩, ⟨by (with_reducible repeat (first | apply Kd.R_alloc | apply Kd.R_drewN | apply Kd.R_drew)); exact HO_8.out⟩, ⟨by repeat (first | (with_reducible first | exact HB.out | apply below_alloc | apply pw_below_drewN | apply below_drew1) | exact HB.out)⟩⟩
                                    · rw [if_neg c32] at H
                                      exact absurd H (by simp)
                                  · rw [if_neg c31] at H
                                    exact absurd H (by simp)
                                · rw [if_neg c30] at H
                                  exact absurd H (by simp)
                              · rw [if_neg c29] at H
                                exact absurd H (by simp)
                            · rw [if_neg c28] at H
                              have c28b0 : decide (x10_5 < x5_9) = false := decide_eq_false c28
                              clear c28
                              obtain ⟨ji39, hji39⟩ : ∃ j_ : Int, (wrap64 ((wrap64 ((l0.length : Int) - 1)) - x9_3)) = j_ := ⟨_, rfl⟩
                              replace H : (if 0 ≤ (ji39) then (if (ji39) < (l0.length : Int) then ((some (([(⟨(rd_T27 l0 (ji39)).f0, (rd_T27 l0 (ji39)).f1⟩ : S27)] : List (S27)) : List (S27))).bind fun y212 => (if x6_3.length + y212.length < 4398046511104 then (if 0 ≤ x9_3 then (if x9_3 < (l1.length : Int) then ((some (([wrap64 (rd l1 x9_3)] : List Int) : List Int)).bind fun y219 => (if x7_3.length + y219.length < 17592186044416 then (if (ji39) < (l1.length : Int) then ((some (([wrap64 (rd l1 (ji39))] : List Int) : List Int)).bind fun y226 => (if x8_3.length + y226.length < 17592186044416 then (plimsolllaw14_LinOrder.l0 k5 l0 l1 x5_9 (x6_3 ++ y212) (x7_3 ++ y219) (x8_3 ++ y226) (wrap64 (x9_3 + 1))) else (none))) else (none)) else (none))) else (none)) else (none)) else (none))) else (none)) else (none)) = some r := by first | (rw [hji39] at H; exact H) | (simp only [hji39] at H ⊢; exact H)
                              have hji39w : (IntKind.i64.wrap ((wrap64 ((l0.length : Int) - 1)) - x9_3)) = ji39 := (i64_w _).trans hji39
                              by_cases c40 : 0 ≤ (ji39)
                              · rw [if_pos c40] at H
                                have c40b0 : decide (0 ≤ (ji39)) = true := decide_eq_true c40
                                clear c40
                                by_cases c41 : (ji39) < (l0.length : Int)
                                · rw [if_pos c41] at H
                                  have c41b0 : decide ((ji39) < (l0.length : Int)) = true := decide_eq_true c41
                                  clear c41
                                  obtain ⟨y212, hy212⟩ : ∃ y_ : List (S27), y_ = (([(⟨(rd_T27 l0 (ji39)).f0, (rd_T27 l0 (ji39)).f1⟩ : S27)] : List (S27))) := ⟨_, rfl⟩
                                  replace H : (if x6_3.length + y212.length < 4398046511104 then (if 0 ≤ x9_3 then (if x9_3 < (l1.length : Int) then ((some (([wrap64 (rd l1 x9_3)] : List Int) : List Int)).bind fun y219 => (if x7_3.length + y219.length < 17592186044416 then (if (ji39) < (l1.length : Int) then ((some (([wrap64 (rd l1 (ji39))] : List Int) : List Int)).bind fun y226 => (if x8_3.length + y226.length < 17592186044416 then (plimsolllaw14_LinOrder.l0 k5 l0 l1 x5_9 (x6_3 ++ y212) (x7_3 ++ y219) (x8_3 ++ y226) (wrap64 (x9_3 + 1))) else (none))) else (none)) else (none))) else (none)) else (none)) else (none)) = some r := by first | (rw [hy212]; with_reducible exact H) | (have H2_ := (Option.bind_some _ _).symm.trans H; rw [hy212]; with_reducible exact H2_) | (have H2_ := (Option.bind_some _ _).symm.trans H; with_reducible exact H2_) | with_reducible exact H | (rw [hy212]; exact H) | exact H
                                  have Ny212 := Aside0.mk hy212
                                  clear hy212
                                  by_cases c42 : x6_3.length + y212.length < 4398046511104
                                  · rw [if_pos c42] at H
                                    have LMc42 := Aside0.mk c42
                                    clear c42
                                    obtain ⟨y215, hy215⟩ : ∃ y_ : List (S27), y_ = (x6_3 ++ y212) := ⟨_, rfl⟩
                                    replace H : (if 0 ≤ x9_3 then (if x9_3 < (l1.length : Int) then ((some (([wrap64 (rd l1 x9_3)] : List Int) : List Int)).bind fun y219 => (if x7_3.length + y219.length < 17592186044416 then (if (ji39) < (l1.length : Int) then ((some (([wrap64 (rd l1 (ji39))] : List Int) : List Int)).bind fun y226 => (if x8_3.length + y226.length < 17592186044416 then (plimsolllaw14_LinOrder.l0 k5 l0 l1 x5_9 y215 (x7_3 ++ y219) (x8_3 ++ y226) (wrap64 (x9_3 + 1))) else (none))) else (none)) else (none))) else (none)) else (none)) = some r := by first | (rw [hy215]; with_reducible exact H) | (have H2_ := (Option.bind_some _ _).symm.trans H; rw [hy215]; with_reducible exact H2_) | (have H2_ := (Option.bind_some _ _).symm.trans H; with_reducible exact H2_) | with_reducible exact H | (rw [hy215]; exact H) | exact H
                                    have Ny215 := Aside0.mk hy215
                                    clear hy215
                                    by_cases c43 : 0 ≤ x9_3
                                    · rw [if_pos c43] at H
                                      have c43b0 : decide (0 ≤ x9_3) = true := decide_eq_true c43
                                      clear c43
                                      by_cases c44 : x9_3 < (l1.length : Int)
                                      · rw [if_pos c44] at H
                                        have c44b0 : decide (x9_3 < (l1.length : Int)) = true := decide_eq_true c44
                                        clear c44
                                        obtain ⟨y219, hy219⟩ : ∃ y_ : List Int, y_ = (([wrap64 (rd l1 x9_3)] : List Int)) := ⟨_, rfl⟩
                                        replace H : (if x7_3.length + y219.length < 17592186044416 then (if (ji39) < (l1.length : Int) then ((some (([wrap64 (rd l1 (ji39))] : List Int) : List Int)).bind fun y226 => (if x8_3.length + y226.length < 17592186044416 then (plimsolllaw14_LinOrder.l0 k5 l0 l1 x5_9 y215 (x7_3 ++ y219) (x8_3 ++ y226) (wrap64 (x9_3 + 1))) else (none))) else (none)) else (none)) = some r := by first | (rw [hy219]; with_reducible exact H) | (have H2_ := (Option.bind_some _ _).symm.trans H; rw [hy219]; with_reducible exact H2_) | (have H2_ := (Option.bind_some _ _).symm.trans H; with_reducible exact H2_) | with_reducible exact H | (rw [hy219]; exact H) | exact H
                                        have Ny219 := Aside0.mk hy219
                                        clear hy219
                                        by_cases c45 : x7_3.length + y219.length < 17592186044416
                                        · rw [if_pos c45] at H
                                          have LMc45 := Aside0.mk c45
                                          clear c45
                                          obtain ⟨y222, hy222⟩ : ∃ y_ : List Int, y_ = (x7_3 ++ y219) := ⟨_, rfl⟩
                                          replace H : (if (ji39) < (l1.length : Int) then ((some (([wrap64 (rd l1 (ji39))] : List Int) : List Int)).bind fun y226 => (if x8_3.length + y226.length < 17592186044416 then (plimsolllaw14_LinOrder.l0 k5 l0 l1 x5_9 y215 y222 (x8_3 ++ y226) (wrap64 (x9_3 + 1))) else (none))) else (none)) = some r := by first | (rw [hy222]; with_reducible exact H) | (have H2_ := (Option.bind_some _ _).symm.trans H; rw [hy222]; with_reducible exact H2_) | (have H2_ := (Option.bind_some _ _).symm.trans H; with_reducible exact H2_) | with_reducible exact H | (rw [hy222]; exact H) | exact H
                                          have Ny222 := Aside0.mk hy222
                                          clear hy222
                                          by_cases c46 : (ji39) < (l1.length : Int)
                                          · rw [if_pos c46] at H
                                            have c46b0 : decide ((ji39) < (l1.length : Int)) = true := decide_eq_true c46
                                            clear c46
                                            obtain ⟨y226, hy226⟩ : ∃ y_ : List Int, y_ = (([wrap64 (rd l1 (ji39))] : List Int)) := ⟨_, rfl⟩
                                            replace H : (if x8_3.length + y226.length < 17592186044416 then (plimsolllaw14_LinOrder.l0 k5 l0 l1 x5_9 y215 y222 (x8_3 ++ y226) (wrap64 (x9_3 + 1))) else (none)) = some r := by first | (rw [hy226]; with_reducible exact H) | (have H2_ := (Option.bind_some _ _).symm.trans H; rw [hy226]; with_reducible exact H2_) | (have H2_ := (Option.bind_some _ _).symm.trans H; with_reducible exact H2_) | with_reducible exact H | (rw [hy226]; exact H) | exact H
                                            have Ny226 := Aside0.mk hy226
                                            clear hy226
                                            by_cases c47 : x8_3.length + y226.length < 17592186044416
                                            · rw [if_pos c47] at H
                                              have LMc47 := Aside0.mk c47
                                              clear c47
                                              obtain ⟨y229, hy229⟩ : ∃ y_ : List Int, y_ = (x8_3 ++ y226) := ⟨_, rfl⟩
                                              replace H : (plimsolllaw14_LinOrder.l0 k5 l0 l1 x5_9 y215 y222 y229 (wrap64 (x9_3 + 1))) = some r := by first | (rw [hy229]; with_reducible exact H) | (have H2_ := (Option.bind_some _ _).symm.trans H; rw [hy229]; with_reducible exact H2_) | (have H2_ := (Option.bind_some _ _).symm.trans H; with_reducible exact H2_) | with_reducible exact H | (rw [hy229]; exact H) | exact H
                                              have Ny229 := Aside0.mk hy229
                                              clear hy229
                                              have H' := Aside0.mk H
                                              clear H
                                              have p211 : 0 ≤ ((ji39) : Int) := of_decide_eq_true (by first | (with_reducible assumption) | assumption)
                                              have q211 : (ji39) < (l0.length : Int) := of_decide_eq_true (by first | (with_reducible assumption) | assumption)
                                              obtain ⟨ad211, A211_0, c211_0, e211, hx211_0, hx211_1, hl211_0, hi211_0⟩ := at_T27 (Kd.V_reads' HO_0.out).2.2 (ji39) p211 q211
                                              cases e211
                                              obtain ⟨ce211, hce211, hMe211, hcc211⟩ := Kd.V_get HO_0.out z27 (ji39) p211 (by first | exact q211 | exact of_decide_eq_true (by first | (with_reducible assumption) | assumption) | (have e_ := (Kd.V_reads' HO_0.out).1; omega))
                                              obtain ⟨ua211_0, uc211_0, rfl, ul211_0, ge211_0⟩ := k27_openF hMe211
                                              have hv211_0 := hcc211 0 _ rfl
                                              rw [Nat.add_zero] at hv211_0
                                              replace hv211_0 := Option.some.inj (hv211_0.symm.trans hx211_0)
                                              injection hv211_0 with hva_ hvn_ hvc_
                                              rw [hva_] at ge211_0
                                              rw [hvc_] at ul211_0
                                              have HL211_0 := Aside0.mk (show Kd.V (Kd.int .i64) 3 _ w.heap.size _ _ ((rd_T27 l0 (ji39)).f0) from Kd.V_mk ul211_0 ge211_0)
                                              clear hva_ hvn_ hvc_ ge211_0 ul211_0
                                              clear hcc211 hce211
                                              have HR211_0 := Aside0.mk hi211_0
                                              have HC211_0 := Aside0.mk hl211_0
                                              clear hi211_0 hl211_0
                                              replace p211 := eq_true p211
                                              replace q211 := eq_true q211
                                              try go_wp2_with (first | ((with_reducible refine gate_dst (N := 114) rfl ?_); (try (refine gate_guard (by rfl) ?_; dsimp only)); refine Kd.N_lit k27 _ 27 ?hg (N' := 114) ?hd (xs := ([(⟨(rd_T27 l0 (ji39)).f0, (rd_T27 l0 (ji39)).f1⟩ : S27)] : List (S27))) (inner := [.slice A211_0 ((rd_T27 l0 (ji39)).f0).length c211_0, .int .i64 ((rd_T27 l0 (ji39)).f1)]) (ok := (fun k_ => (P0_ k_ ∨ w.heap.size ≤ k_) ∧ some k_ ≠ (u6 : Value).ownBlock ∧ some k_ ≠ (u7 : Value).ownBlock ∧ some k_ ≠ (u8 : Value).ownBlock)) (okp := (fun k_ => (P0_ k_ ∨ w.heap.size ≤ k_) ∧ some k_ ≠ (u6 : Value).ownBlock ∧ some k_ ≠ (u7 : Value).ownBlock ∧ some k_ ≠ (u8 : Value).ownBlock)) ?hr ?hp (fun _ hk => hk) ((show ∀ k_, wr.heap.size ≤ k_ → (fun k_ => (P0_ k_ ∨ w.heap.size ≤ k_) ∧ some k_ ≠ (u6 : Value).ownBlock ∧ some k_ ≠ (u7 : Value).ownBlock ∧ some k_ ≠ (u8 : Value).ownBlock) k_ from fun k_ hk => ⟨(.inr (Nat.le_trans (below_size (by repeat (first | (with_reducible first | exact HB.out | apply below_alloc | apply pw_below_drewN | apply below_drew1) | exact HB.out))) hk)), Kd.fresh' (Kd.N_lt (by (with_reducible repeat (first | apply Kd.N_alloc | apply Kd.N_drewN | apply Kd.N_drew)); exact HO_6.out)) k_ hk, Kd.fresh' (Kd.R_lt (by (with_reducible repeat (first | apply Kd.R_alloc | apply Kd.R_drewN | apply Kd.R_drew)); exact HO_7.out)) k_ hk, Kd.fresh' (Kd.R_lt (by (with_reducible repeat (first | apply Kd.R_alloc | apply Kd.R_drewN | apply Kd.R_drew)); exact HO_8.out)) k_ hk⟩) _ (Nat.le_refl _)) (Below.refl _ _) (Nat.le_refl _) (by simp) ?_; (case hd => rfl); (case hg => rfl); (case hr => first | (go_simp; done) | (go_simp; rfl)); (case hp => exact (Reps.c2 (show Kd.FK k27 _ _ (⟨(rd_T27 l0 (ji39)).f0, (rd_T27 l0 (ji39)).f1⟩ : S27) [.slice A211_0 ((rd_T27 l0 (ji39)).f0).length c211_0, .int .i64 ((rd_T27 l0 (ji39)).f1)] from (k27_mkF _ _ (⟨(rd_T27 l0 (ji39)).f0, (rd_T27 l0 (ji39)).f1⟩ : S27) (Kd.V_reads' (Kd.V_mono (ok' := (fun k_ => (P0_ k_ ∨ w.heap.size ≤ k_) ∧ some k_ ≠ (u6 : Value).ownBlock ∧ some k_ ≠ (u7 : Value).ownBlock ∧ some k_ ≠ (u8 : Value).ownBlock)) (HL211_0.out) (fun k_ hk => ⟨hk.1, ⟨hk.2.1, ⟨hk.2.2.1, hk.2.2.2⟩⟩⟩))).2.1 (Kd.V_F (Kd.V_mono (ok' := (fun k_ => (P0_ k_ ∨ w.heap.size ≤ k_) ∧ some k_ ≠ (u6 : Value).ownBlock ∧ some k_ ≠ (u7 : Value).ownBlock ∧ some k_ ≠ (u8 : Value).ownBlock)) (HL211_0.out) (fun k_ hk => ⟨hk.1, ⟨hk.2.1, ⟨hk.2.2.1, hk.2.2.2⟩⟩⟩))))) (Reps.none _ _))); intro v213 w48 ho49 hb hg_ hnew_; clear hg_ hnew_; (first | rw [← Ny212.out] at ho49 | (simp only [Int.reduceToNat] at ho49; rw [← Ny212.out] at ho49)); have n0_ := Aside0.mk (Kd.V_elder' (by (with_reducible repeat (first | apply Kd.V_alloc | apply Kd.V_drewN | apply Kd.V_drew)); exact HO_0.out) (Kd.N_base ho49) hb); have n1_ := Aside0.mk (Kd.N_elder' (by (with_reducible repeat (first | apply Kd.N_alloc | apply Kd.N_drewN | apply Kd.N_drew)); exact HO_6.out) (Kd.N_base ho49) hb); have n2_ := Aside0.mk (Kd.R_below (by (with_reducible repeat (first | apply Kd.R_alloc | apply Kd.R_drewN | apply Kd.R_drew)); exact HO_7.out) hb); have n3_ := Aside0.mk (Kd.R_below (by (with_reducible repeat (first | apply Kd.R_alloc | apply Kd.R_drewN | apply Kd.R_drew)); exact HO_8.out) hb); have n4_ := Aside0.mk (Kd.V_elder' (by (with_reducible repeat (first | apply Kd.V_alloc | apply Kd.V_drewN | apply Kd.V_drew)); exact HL211_0.out) (Kd.N_base ho49) hb); have n5_ := Aside0.mk (Kd.N_lower ho49 (below_size (by repeat (first | (with_reducible first | exact HB.out | apply below_alloc | apply pw_below_drewN | apply below_drew1) | exact HB.out)))); have n6_ := Aside0.mk (Kd.C_below (by repeat (first | (with_reducible exact HR211_0.out) | (with_reducible refine Kd.C_alloc ?_ _) | (with_reducible refine Kd.C_drewN ?_ _) | (with_reducible refine Kd.C_drew ?_) | exact HR211_0.out)) hb); have n7_ := Aside0.mk (below_step (by repeat (first | (with_reducible first | exact HB.out | apply below_alloc | apply pw_below_drewN | apply below_drew1) | exact HB.out)) hb); clear HO_0; clear HO_6; clear HO_7; clear HO_8; clear HL211_0; clear HR211_0; clear HB; have HO_0 := n0_; have HO_6 := n1_; have HO_7 := n2_; have HO_8 := n3_; have HL211_0 := n4_; have HO214 := n5_; have HR211_0 := n6_; have HB := n7_; clear n0_ n1_ n2_ n3_ n4_ n5_ n6_ n7_; clear hb ho49; obtain ⟨Ao51, co51, eo51⟩ := Kd.N_slice HO214.out; subst eo51) | ((with_reducible refine gate_builtin (b := .append) (xs := #[.tmp 109, .tmp 114]) rfl ?_); (try (refine gate_guard (by rfl) ?_; dsimp only)); at_builtin; refine Kd.N_append_rows k27 (w0 := w) w.heap.size rfl (.tmp 109) (.tmp 114) 22 27 (.agg #[(.slice none 0 0), (.int .i64 0)]) 32 rfl Try.underlying22 info27 rfl (by decide) (by omega) u6 x6_3 y212 _ _ _ (fun k_ => (P0_ k_ ∨ w.heap.size ≤ k_) ∧ some k_ ≠ (u7 : Value).ownBlock ∧ some k_ ≠ (u8 : Value).ownBlock) (fun k_ => ((fun k_ => (P0_ k_ ∨ w.heap.size ≤ k_) ∧ some k_ ≠ (u7 : Value).ownBlock ∧ some k_ ≠ (u8 : Value).ownBlock)) k_ ∧ some k_ ≠ (u6 : Value).ownBlock) rfl rfl ?aO ?aR (fun _ hk => hk) ?aF ?aB ?aS ?aL ?_; (case aR => exact (by skip; exact Kd.N_F (Kd.N_mono (ok' := (fun k_ => ((fun k_ => (P0_ k_ ∨ w.heap.size ≤ k_) ∧ some k_ ≠ (u7 : Value).ownBlock ∧ some k_ ≠ (u8 : Value).ownBlock)) k_ ∧ some k_ ≠ (u6 : Value).ownBlock)) (HO214.out) (fun k_ hk => ⟨⟨hk.1, ⟨hk.2.2.1, hk.2.2.2⟩⟩, hk.2.1⟩)))); (case aB => exact (by repeat (first | (with_reducible first | exact HB.out | apply below_alloc | apply pw_below_drewN | apply below_drew1) | exact HB.out))); (case aF => exact (fun k_ hk => ⟨(.inr (Nat.le_trans (below_size (by repeat (first | (with_reducible first | exact HB.out | apply below_alloc | apply pw_below_drewN | apply below_drew1) | exact HB.out))) hk)), Kd.fresh' (Kd.R_lt (by (with_reducible repeat (first | apply Kd.R_alloc | apply Kd.R_drewN | apply Kd.R_drew)); exact HO_7.out)) k_ hk, Kd.fresh' (Kd.R_lt (by (with_reducible repeat (first | apply Kd.R_alloc | apply Kd.R_drewN | apply Kd.R_drew)); exact HO_8.out)) k_ hk⟩)); (case aO => exact (by (with_reducible repeat (first | apply Kd.N_alloc | apply Kd.N_drewN | apply Kd.N_drew)); exact Kd.N_mono HO_6.out (fun _ hk => ⟨hk.1.1, ⟨hk.1.2.1, hk.1.2.2⟩⟩))); (case aS => exact (below_size (by repeat (first | (with_reducible first | exact HB.out | apply below_alloc | apply pw_below_drewN | apply below_drew1) | exact HB.out)))); (case aL => have := LMc42.out; omega); intro v216 w50 ho hb hg hat; rw [← Ny215.out] at ho; have n0_ := Aside0.mk (Kd.V_afterv (ok := (fun k_ => (P0_ k_ ∨ w.heap.size ≤ k_) ∧ some k_ ≠ (u7 : Value).ownBlock ∧ some k_ ≠ (u8 : Value).ownBlock ∧ some k_ ≠ (.slice Ao51 y212.length co51 : Value).ownBlock)) (by (with_reducible repeat (first | apply Kd.V_alloc | apply Kd.V_drewN | apply Kd.V_drew)); exact Kd.V_mono HO_0.out (fun _ hk => ⟨⟨hk.1.1, ⟨hk.1.2.2.1, ⟨hk.1.2.2.2, hk.2⟩⟩⟩, hk.1.2.1⟩)) hg hat); have n1_ := Aside0.mk (Kd.R_over' (by (with_reducible repeat (first | apply Kd.R_alloc | apply Kd.R_drewN | apply Kd.R_drew)); exact HO_7.out) (Kd.N_typed (by (with_reducible repeat (first | apply Kd.N_alloc | apply Kd.N_drewN | apply Kd.N_drew)); exact HO_6.out)) (by decide) hg); have n2_ := Aside0.mk (Kd.R_over' (by (with_reducible repeat (first | apply Kd.R_alloc | apply Kd.R_drewN | apply Kd.R_drew)); exact HO_8.out) (Kd.N_typed (by (with_reducible repeat (first | apply Kd.N_alloc | apply Kd.N_drewN | apply Kd.N_drew)); exact HO_6.out)) (by decide) hg); have n3_ := Aside0.mk (Kd.V_afterv (ok := (fun k_ => (P0_ k_ ∨ w.heap.size ≤ k_) ∧ some k_ ≠ (u7 : Value).ownBlock ∧ some k_ ≠ (u8 : Value).ownBlock ∧ some k_ ≠ (.slice Ao51 y212.length co51 : Value).ownBlock)) (by (with_reducible repeat (first | apply Kd.V_alloc | apply Kd.V_drewN | apply Kd.V_drew)); exact Kd.V_mono HL211_0.out (fun _ hk => ⟨⟨hk.1.1, ⟨hk.1.2.2.1, ⟨hk.1.2.2.2, hk.2⟩⟩⟩, hk.1.2.1⟩)) hg hat); have n4_ := Aside0.mk (Kd.N_afterv (ok := (fun k_ => (P0_ k_ ∨ w.heap.size ≤ k_) ∧ some k_ ≠ (u7 : Value).ownBlock ∧ some k_ ≠ (u8 : Value).ownBlock)) (by (with_reducible repeat (first | apply Kd.N_alloc | apply Kd.N_drewN | apply Kd.N_drew)); exact Kd.N_mono HO214.out (fun _ hk => ⟨⟨hk.1, ⟨hk.2.2.1, hk.2.2.2⟩⟩, hk.2.1⟩)) hg hat); have n5_ := Aside0.mk (hb); have n6_ := Aside0.mk (ho); clear HO_0; clear HO_7; clear HO_8; clear HL211_0; clear HO214; clear HB; clear HO_6; have HO_0 := n0_; have HO_7 := n1_; have HO_8 := n2_; have HL211_0 := n3_; have HO214 := n4_; have HB := n5_; have HO217 := n6_; clear n0_ n1_ n2_ n3_ n4_ n5_ n6_; clear ho hb hg hat; obtain ⟨Ao52, co52, eo52⟩ := Kd.R_slice HO_7.out; subst eo52; obtain ⟨Ao53, co53, eo53⟩ := Kd.R_slice HO_8.out; subst eo53))
                                              have n0_ := Aside0.mk (Kd.V_drew HO_0.out)
                                              have n1_ := Aside0.mk (Kd.R_drew HO_7.out)
                                              have n2_ := Aside0.mk (Kd.R_drew HO_8.out)
                                              have n3_ := Aside0.mk (Kd.V_drew HL211_0.out)
                                              have n4_ := Aside0.mk (Kd.N_drew HO214.out)
                                              have n5_ := Aside0.mk (Kd.N_drew HO217.out)
                                              have n6_ := Aside0.mk (below_drew1 HB.out)
                                              clear HO_0
                                              clear HO_7
                                              clear HO_8
                                              clear HL211_0
                                              clear HO214
                                              clear HO217
                                              clear HB
                                              have HO_0 := n0_
                                              have HO_7 := n1_
                                              have HO_8 := n2_
                                              have HL211_0 := n3_
                                              have HO214 := n4_
                                              have HO217 := n5_
                                              have HB := n6_
                                              clear n0_ n1_ n2_ n3_ n4_ n5_ n6_
                                              have p218 : 0 ≤ (x9_3 : Int) := of_decide_eq_true (by first | (with_reducible assumption) | assumption)
                                              have q218 : x9_3 < (l1.length : Int) := of_decide_eq_true (by first | (with_reducible assumption) | assumption)
                                              obtain ⟨ad218, e218, hx218_0⟩ := Kd.at_int HR1.out x9_3 p218 q218
                                              have hw218_0 := hx218_0
                                              cases e218
                                              replace hx218_0 := (HB.out.cell (World.block_lt_of_cell? w _ hx218_0)).trans hx218_0
                                              replace p218 := eq_true p218
                                              replace q218 := eq_true q218
                                              have p225 : 0 ≤ ((ji39) : Int) := of_decide_eq_true (by first | (with_reducible assumption) | assumption)
                                              have q225 : (ji39) < (l1.length : Int) := of_decide_eq_true (by first | (with_reducible assumption) | assumption)
                                              obtain ⟨ad225, e225, hx225_0⟩ := Kd.at_int HR1.out (ji39) p225 q225
                                              have hw225_0 := hx225_0
                                              obtain rfl : ad218 = ad225 := (by injection e225)
                                              replace hx225_0 := (HB.out.cell (World.block_lt_of_cell? w _ hx225_0)).trans hx225_0
                                              replace p225 := eq_true p225
                                              replace q225 := eq_true q225
                                              refine start_ (n := 18) (S := fun w' => w'.cell? (ad218.add (x9_3).toNat) = some (.int .u8 (rd l1 x9_3)) ∧ w'.cell? (ad218.add ((ji39)).toNat) = some (.int .u8 (rd l1 (ji39)))) (ds := []) #[false, false, false, false, false, false, false, false, false, false, false, false, false, false, false, false, false, false] (by kernel_rfl) rfl rfl ⟨((HB.out.cell (World.block_lt_of_cell? w _ hw218_0)).trans hw218_0), ((HB.out.cell (World.block_lt_of_cell? w _ hw225_0)).trans hw225_0)⟩ (fun hHeld => ?_); refine with_tabW plimsolllaw14_LinOrder.tab20 plimsolllaw14_LinOrder.bits20 (fun HT_ HW_ => ?_)
                                              generalize w50.drew = w54 at HO_0 HO_7 HO_8 HL211_0 HO214 HO217 HB hx218_0 hx225_0 hHeld ⊢
                                              refine pure_ (i := 0) (N := some 116) (v := ?_) (a' := ?_) #[true, false, false, false, false, false, false, false, false, false, false, false, false, false, false, false, false, false] rfl rfl (any_of HT_.out (by kernel_rfl)) (fun _ _ _ h => h) (Or.inl ⟨by rfl, ?_⟩) ?_ ?_
                                              rotate_left
                                              · intro w'
                                                go_simp
                                                with_reducible rfl
                                              rotate_left
                                              · simp only [Act.put, List.setIfInBounds_toArray, List.set_cons_zero, List.set_cons_succ, i64_w, i32_w]
                                                rfl
                                              refine pure_ (i := 1) (N := some 117) (v := ?_) (a' := ?_) #[true, true, false, false, false, false, false, false, false, false, false, false, false, false, false, false, false, false] rfl rfl (any_of HT_.out (by kernel_rfl)) (fun _ _ _ h => h) (Or.inl ⟨by rfl, ?_⟩) ?_ ?_
                                              rotate_left
                                              · intro w'
                                                go_simp
                                                with_reducible rfl
                                              rotate_left
                                              · simp only [Act.put, List.setIfInBounds_toArray, List.set_cons_zero, List.set_cons_succ, i64_w, i32_w]
                                                rfl
                                              refine pure_ (i := 2) (N := some 118) (v := ?_) (a' := ?_) #[true, true, true, false, false, false, false, false, false, false, false, false, false, false, false, false, false, false] rfl rfl (any_of HT_.out (by kernel_rfl)) (fun _ _ _ h => h) (Or.inl ⟨by rfl, ?_⟩) ?_ ?_
                                              rotate_left
                                              · intro w'
                                                go_simp
                                                with_reducible rfl
                                              rotate_left
                                              · simp only [Act.put, List.setIfInBounds_toArray, List.set_cons_zero, List.set_cons_succ, i64_w, i32_w]
                                                rfl
                                              refine pure_ (i := 3) (N := some 119) (v := ?_) (a' := ?_) #[true, true, true, true, false, false, false, false, false, false, false, false, false, false, false, false, false, false] rfl rfl (any_of HT_.out (by kernel_rfl)) (fun _ _ _ h => h) (Or.inl ⟨by rfl, ?_⟩) ?_ ?_
                                              rotate_left
                                              · intro w'
                                                go_simp
                                                with_reducible rfl
                                              rotate_left
                                              · simp only [Act.put, List.setIfInBounds_toArray, List.set_cons_zero, List.set_cons_succ, i64_w, i32_w]
                                                rfl
                                              refine pure_ (i := 8) (N := some 124) (v := ?_) (a' := ?_) #[true, true, true, true, false, false, false, false, true, false, false, false, false, false, false, false, false, false] rfl rfl (any_of HT_.out (by kernel_rfl)) (fun _ _ _ h => h) (Or.inl ⟨by rfl, ?_⟩) ?_ ?_
                                              rotate_left
                                              · intro w'
                                                go_simp
                                                with_reducible rfl
                                              rotate_left
                                              · simp only [Act.put, List.setIfInBounds_toArray, List.set_cons_zero, List.set_cons_succ, i64_w, i32_w]
                                                rfl
                                              refine pure_ (i := 9) (N := some 125) (v := ?_) (a' := ?_) #[true, true, true, true, false, false, false, false, true, true, false, false, false, false, false, false, false, false] rfl rfl (any_of HT_.out (by kernel_rfl)) (fun _ _ _ h => h) (Or.inl ⟨by rfl, ?_⟩) ?_ ?_
                                              rotate_left
                                              · intro w'
                                                go_simp
                                                with_reducible rfl
                                              rotate_left
                                              · simp only [Act.put, List.setIfInBounds_toArray, List.set_cons_zero, List.set_cons_succ, i64_w, i32_w]
                                                rfl
                                              refine pure_ (i := 10) (N := some 126) (v := ?_) (a' := ?_) #[true, true, true, true, false, false, false, false, true, true, true, false, false, false, false, false, false, false] rfl rfl (any_of HT_.out (by kernel_rfl)) (fun _ _ _ h => h) (Or.inl ⟨by rfl, ?_⟩) ?_ ?_
                                              rotate_left
                                              · intro w'
                                                go_simp
                                                with_reducible rfl
                                              rotate_left
                                              · simp only [Act.put, List.setIfInBounds_toArray, List.set_cons_zero, List.set_cons_succ, i64_w, i32_w]
                                                rfl
                                              refine pure_ (i := 11) (N := some 127) (v := ?_) (a' := ?_) #[true, true, true, true, false, false, false, false, true, true, true, true, false, false, false, false, false, false] rfl rfl (any_of HT_.out (by kernel_rfl)) (fun _ _ _ h => h) (Or.inl ⟨by rfl, ?_⟩) ?_ ?_
                                              rotate_left
                                              · intro w'
                                                go_simp
                                                with_reducible rfl
                                              rotate_left
                                              · simp only [Act.put, List.setIfInBounds_toArray, List.set_cons_zero, List.set_cons_succ, i64_w, i32_w]
                                                rfl
                                              refine take_ (i := 4) (N := some 120) (v := ?_) (a' := ?_) #[true, true, true, true, true, false, false, false, true, true, true, true, false, false, false, false, false, false] rfl rfl (take_ofW HT_.out HW_.out (by kernel_rfl)) (fun _ _ _ h => h) (Or.inl ⟨by rfl, ?_⟩) hHeld ?_ ?_
                                              rotate_left
                                              · rintro w' ⟨s0, s1⟩
                                                go_simp
                                                with_reducible rfl
                                              rotate_left
                                              · simp only [Act.put, List.setIfInBounds_toArray, List.set_cons_zero, List.set_cons_succ, i64_w, i32_w]
                                                rfl
                                              refine pure_ (i := 5) (N := some 121) (v := ?_) (a' := ?_) #[true, true, true, true, true, true, false, false, true, true, true, true, false, false, false, false, false, false] rfl rfl (any_of HT_.out (by kernel_rfl)) (fun _ _ _ h => h) (Or.inl ⟨by rfl, ?_⟩) ?_ ?_
                                              rotate_left
                                              · intro w'
                                                go_simp
                                                with_reducible rfl
                                              rotate_left
                                              · simp only [Act.put, List.setIfInBounds_toArray, List.set_cons_zero, List.set_cons_succ, i64_w, i32_w]
                                                rfl
                                              refine take_ (i := 12) (N := some 128) (v := ?_) (a' := ?_) #[true, true, true, true, true, true, false, false, true, true, true, true, true, false, false, false, false, false] rfl rfl (take_ofW HT_.out HW_.out (by kernel_rfl)) (fun _ _ _ h => h) (Or.inl ⟨by rfl, ?_⟩) hHeld ?_ ?_
                                              rotate_left
                                              · rintro w' ⟨s0, s1⟩
                                                go_simp
                                                with_reducible rfl
                                              rotate_left
                                              · simp only [Act.put, List.setIfInBounds_toArray, List.set_cons_zero, List.set_cons_succ, i64_w, i32_w]
                                                rfl
                                              refine pure_ (i := 13) (N := some 129) (v := ?_) (a' := ?_) #[true, true, true, true, true, true, false, false, true, true, true, true, true, true, false, false, false, false] rfl rfl (any_of HT_.out (by kernel_rfl)) (fun _ _ _ h => h) (Or.inl ⟨by rfl, ?_⟩) ?_ ?_
                                              rotate_left
                                              · intro w'
                                                go_simp
                                                with_reducible rfl
                                              rotate_left
                                              · simp only [Act.put, List.setIfInBounds_toArray, List.set_cons_zero, List.set_cons_succ, i64_w, i32_w]
                                                rfl
                                              refine join_ (σ := Value × Value × Value) 3 #[true, true, true, true, true, true, true, true, true, true, true, true, true, true, true, false, false, false] (fun s_ => [(122, s_.1), (123, s_.2.1), (130, s_.2.2)]) (fun s_ w' => (w'.cell? (ad218.add (x9_3).toNat) = some (.int .u8 (rd l1 x9_3)) ∧ w'.cell? (ad218.add ((ji39)).toNat) = some (.int .u8 (rd l1 (ji39)))) ∧ (Kd.V (Kd.int .i64) 3 w' w.heap.size (fun k_ => (P0_ k_ ∨ w.heap.size ≤ k_) ∧ some k_ ≠ (.slice Ao51 y212.length co51 : Value).ownBlock ∧ some k_ ≠ (v216 : Value).ownBlock ∧ some k_ ≠ (s_.1 : Value).ownBlock ∧ some k_ ≠ (s_.2.1 : Value).ownBlock ∧ some k_ ≠ (s_.2.2 : Value).ownBlock ∧ some k_ ≠ (.slice Ao53 x8_3.length co53 : Value).ownBlock) (.slice A211_0 ((rd_T27 l0 (ji39)).f0).length c211_0) ((rd_T27 l0 (ji39)).f0)) ∧ (Kd.N k27 27 w' w.heap.size (fun k_ => (P0_ k_ ∨ w.heap.size ≤ k_) ∧ some k_ ≠ (v216 : Value).ownBlock ∧ some k_ ≠ (s_.1 : Value).ownBlock ∧ some k_ ≠ (s_.2.1 : Value).ownBlock ∧ some k_ ≠ (s_.2.2 : Value).ownBlock ∧ some k_ ≠ (.slice Ao53 x8_3.length co53 : Value).ownBlock) (.slice Ao51 y212.length co51) y212) ∧ (Kd.N k27 27 w' w.heap.size (fun k_ => (P0_ k_ ∨ w.heap.size ≤ k_) ∧ some k_ ≠ (s_.1 : Value).ownBlock ∧ some k_ ≠ (s_.2.1 : Value).ownBlock ∧ some k_ ≠ (s_.2.2 : Value).ownBlock ∧ some k_ ≠ (.slice Ao53 x8_3.length co53 : Value).ownBlock) v216 y215) ∧ (Kd.R (Kd.int .i64) 3 w' w.heap.size (fun k_ => (w.heap.size ≤ k_) ∧ some k_ ≠ (s_.2.1 : Value).ownBlock ∧ some k_ ≠ (s_.2.2 : Value).ownBlock ∧ some k_ ≠ (.slice Ao53 x8_3.length co53 : Value).ownBlock) s_.1 y219) ∧ (Kd.R (Kd.int .i64) 3 w' w.heap.size (fun k_ => (w.heap.size ≤ k_) ∧ some k_ ≠ (s_.1 : Value).ownBlock ∧ some k_ ≠ (s_.2.2 : Value).ownBlock ∧ some k_ ≠ (.slice Ao53 x8_3.length co53 : Value).ownBlock) s_.2.1 y222) ∧ (Kd.R (Kd.int .i64) 3 w' w.heap.size (fun k_ => (w.heap.size ≤ k_) ∧ some k_ ≠ (s_.1 : Value).ownBlock ∧ some k_ ≠ (s_.2.1 : Value).ownBlock ∧ some k_ ≠ (.slice Ao53 x8_3.length co53 : Value).ownBlock) s_.2.2 y226) ∧ (Kd.V k27 27 w' w.heap.size (fun k_ => (P0_ k_ ∨ w.heap.size ≤ k_) ∧ some k_ ≠ (.slice Ao51 y212.length co51 : Value).ownBlock ∧ some k_ ≠ (v216 : Value).ownBlock ∧ some k_ ≠ (s_.1 : Value).ownBlock ∧ some k_ ≠ (s_.2.1 : Value).ownBlock ∧ some k_ ≠ (s_.2.2 : Value).ownBlock ∧ some k_ ≠ (.slice Ao53 x8_3.length co53 : Value).ownBlock) (.slice (some ad211) l0.length c0) l0) ∧ (Kd.R (Kd.int .i64) 3 w' w.heap.size (fun k_ => (w.heap.size ≤ k_) ∧ some k_ ≠ (s_.1 : Value).ownBlock ∧ some k_ ≠ (s_.2.1 : Value).ownBlock ∧ some k_ ≠ (s_.2.2 : Value).ownBlock) (.slice Ao53 x8_3.length co53) x8_3) ∧ (Below w.heap.size w w')) ?_ ?_
                                              rotate_left
                                              · intro hCont
                                                refine two_ (i := 6) (j := 14) (Ni := some 122) (Nj := some 130) #[true, true, true, true, true, true, true, false, true, true, true, true, true, true, false, false, false, false] #[true, true, true, true, true, true, false, false, true, true, true, true, true, true, true, false, false, false] rfl rfl rfl rfl (two_of HT_.out (by kernel_rfl)) (by decide) (by decide) (fun K hK => ?_) (fun K hK => ?_)
                                                · skip
                                                  refine Kd.R_lit_step (Kd.int .i64) _ 3 ?hg (N := 122) ?hd (xs := ([wrap64 (rd l1 x9_3)] : List Int)) (inner := [.int .i64 (wrap64 (rd l1 x9_3))]) (ok := fun _ => True) (okp := fun _ => True) ?hr ?hp (fun _ hk => hk) trivial (Below.refl _ _) (Nat.le_refl _) (by simp) ?_; (case hd => rfl); (case hg => rfl); (case hr => first | (go_simp; done) | (go_simp; rfl)); (case hp => exact (Reps.one (show Kd.M (Kd.int .i64) _ _ _ (wrap64 (rd l1 x9_3)) [.int .i64 (wrap64 (rd l1 x9_3))] from rfl) (Reps.none _ _)))
                                                  intro v220 w55 ho56 hb hg_ hnew_
                                                  clear hg_ hnew_
                                                  (first | rw [← Ny219.out] at ho56 | (simp only [Int.reduceToNat] at ho56; rw [← Ny219.out] at ho56))
                                                  have n0_ := Aside0.mk (Kd.V_elder' (by (with_reducible repeat (first | apply Kd.V_alloc | apply Kd.V_drewN | apply Kd.V_drew)); exact HO_0.out) (Kd.R_base ho56) hb)
                                                  have n1_ := Aside0.mk (Kd.R_elder' (by (with_reducible repeat (first | apply Kd.R_alloc | apply Kd.R_drewN | apply Kd.R_drew)); exact HO_7.out) (Kd.R_base ho56) hb)
                                                  have n2_ := Aside0.mk (Kd.R_elder' (by (with_reducible repeat (first | apply Kd.R_alloc | apply Kd.R_drewN | apply Kd.R_drew)); exact HO_8.out) (Kd.R_base ho56) hb)
                                                  have n3_ := Aside0.mk (Kd.V_elder' (by (with_reducible repeat (first | apply Kd.V_alloc | apply Kd.V_drewN | apply Kd.V_drew)); exact HL211_0.out) (Kd.R_base ho56) hb)
                                                  have n4_ := Aside0.mk (Kd.N_elder' (by (with_reducible repeat (first | apply Kd.N_alloc | apply Kd.N_drewN | apply Kd.N_drew)); exact HO214.out) (Kd.R_base ho56) hb)
                                                  have n5_ := Aside0.mk (Kd.N_elder' (by (with_reducible repeat (first | apply Kd.N_alloc | apply Kd.N_drewN | apply Kd.N_drew)); exact HO217.out) (Kd.R_base ho56) hb)
                                                  have n6_ := Aside0.mk (Kd.R_lower (Kd.R_new' (Kd.R_new' (Kd.R_newM (M := fun k_ => (w.heap.size ≤ k_)) ho56 (below_size (by repeat (first | (with_reducible first | exact HB.out | apply below_alloc | apply pw_below_drewN | apply below_drew1) | exact HB.out))) (fun k_ h_ => h_)) (Kd.R_lt (by (with_reducible repeat (first | apply Kd.R_alloc | apply Kd.R_drewN | apply Kd.R_drew)); exact HO_7.out))) (Kd.R_lt (by (with_reducible repeat (first | apply Kd.R_alloc | apply Kd.R_drewN | apply Kd.R_drew)); exact HO_8.out))) (below_size (by repeat (first | (with_reducible first | exact HB.out | apply below_alloc | apply pw_below_drewN | apply below_drew1) | exact HB.out))))
                                                  have n7_ := Aside0.mk (below_step (by repeat (first | (with_reducible first | exact HB.out | apply below_alloc | apply pw_below_drewN | apply below_drew1) | exact HB.out)) hb)
                                                  clear HO_0
                                                  clear HO_7
                                                  clear HO_8
                                                  clear HL211_0
                                                  clear HO214
                                                  clear HO217
                                                  clear HB
                                                  have HO_0 := n0_
                                                  have HO_7 := n1_
                                                  have HO_8 := n2_
                                                  have HL211_0 := n3_
                                                  have HO214 := n4_
                                                  have HO217 := n5_
                                                  have HO221 := n6_
                                                  have HB := n7_
                                                  clear n0_ n1_ n2_ n3_ n4_ n5_ n6_ n7_
                                                  clear hb ho56
                                                  obtain ⟨Ao58, co58, eo58⟩ := Kd.R_slice HO221.out
                                                  (first | subst eo58 | (injection eo58 with f1_ f2_ f3_; have f4_ := f1_.symm; have f5_ := f3_.symm; clear f1_ f2_ f3_; subst f4_; subst f5_))
                                                  refine hK.out _ _ ⟨((HB.out.cell (World.block_lt_of_cell? w _ hw218_0)).trans hw218_0), ((HB.out.cell (World.block_lt_of_cell? w _ hw225_0)).trans hw225_0)⟩ (fun hHeld => ?_)
                                                  clear hK K
                                                  refine norm_ (a' := ?_) ?_ ?_
                                                  rotate_left
                                                  · show Act.put _ (some 122) _ = _
                                                    simp only [Act.put, List.setIfInBounds_toArray, List.set_cons_zero, List.set_cons_succ, i64_w, i32_w]
                                                    rfl
                                                  refine two_ (i := 7) (j := 14) (Ni := some 123) (Nj := some 130) #[true, true, true, true, true, true, true, true, true, true, true, true, true, true, false, false, false, false] #[true, true, true, true, true, true, true, false, true, true, true, true, true, true, true, false, false, false] rfl rfl rfl rfl (two_of HT_.out (by kernel_rfl)) (by decide) (by decide) (fun K hK => ?_) (fun K hK => ?_)
                                                  · skip
                                                    refine Kd.R_append_rows_step (Kd.int .i64) (w0 := w) w.heap.size (by rfl) (.tmp 116) (.tmp 122) 23 3 (.int .i64 0) 8 rfl Try.underlying23 info3 rfl (by decide) (by omega) (.slice Ao52 x7_3.length co52) x7_3 y219 _ _ _ (fun k_ => (w.heap.size ≤ k_) ∧ some k_ ≠ (.slice Ao53 x8_3.length co53 : Value).ownBlock ∧ some k_ ≠ (.slice Ao58 y219.length co58 : Value).ownBlock) (fun _ => False) rfl rfl ?aO ?aR (fun _ _ h => h) (fun _ h => h.elim) ?aF ?aB ?aS ?aL ?_
                                                    (case aR => repeat (first | exact (Kd.R_reads' HO221.out).2.2 | (with_reducible refine Kd.C_alloc ?_ _) | (with_reducible refine Kd.C_drewN ?_ _) | (with_reducible refine Kd.C_drew ?_)))
                                                    (case aB => exact (by repeat (first | (with_reducible first | exact HB.out | apply below_alloc | apply pw_below_drewN | apply below_drew1) | exact HB.out)))
                                                    (case aF => exact (fun k_ hk => ⟨(Nat.le_trans (below_size (by repeat (first | (with_reducible first | exact HB.out | apply below_alloc | apply pw_below_drewN | apply below_drew1) | exact HB.out))) hk), Kd.fresh' (Kd.R_lt (by (with_reducible repeat (first | apply Kd.R_alloc | apply Kd.R_drewN | apply Kd.R_drew)); exact HO_8.out)) k_ hk, Kd.fresh' (Kd.R_lt (by (with_reducible repeat (first | apply Kd.R_alloc | apply Kd.R_drewN | apply Kd.R_drew)); exact HO221.out)) k_ hk⟩))
                                                    (case aO => exact (by (with_reducible repeat (first | apply Kd.R_alloc | apply Kd.R_drewN | apply Kd.R_drew)); exact Kd.R_mono HO_7.out (fun _ hk => ⟨hk.1.1, ⟨hk.1.2, hk.2⟩⟩)))
                                                    (case aS => exact (below_size (by repeat (first | (with_reducible first | exact HB.out | apply below_alloc | apply pw_below_drewN | apply below_drew1) | exact HB.out))))
                                                    (case aL => have := LMc45.out; omega)
                                                    intro v223 w57 ho hb hg hat
                                                    rw [← Ny222.out] at ho
                                                    have n0_ := Aside0.mk (Kd.V_afterv (ok := (fun k_ => (P0_ k_ ∨ w.heap.size ≤ k_) ∧ some k_ ≠ (.slice Ao53 x8_3.length co53 : Value).ownBlock ∧ some k_ ≠ (.slice Ao51 y212.length co51 : Value).ownBlock ∧ some k_ ≠ (v216 : Value).ownBlock ∧ some k_ ≠ (.slice Ao58 y219.length co58 : Value).ownBlock)) (by (with_reducible repeat (first | apply Kd.V_alloc | apply Kd.V_drewN | apply Kd.V_drew)); exact Kd.V_mono HO_0.out (fun _ hk => ⟨⟨hk.1.1.1, ⟨hk.1.1.2.2.1, ⟨hk.1.1.2.2.2, ⟨hk.1.2, hk.2⟩⟩⟩⟩, hk.1.1.2.1⟩)) hg hat)
                                                    have n1_ := Aside0.mk (Kd.R_after (ok := (fun k_ => (w.heap.size ≤ k_) ∧ some k_ ≠ (.slice Ao58 y219.length co58 : Value).ownBlock)) (by (with_reducible repeat (first | apply Kd.R_alloc | apply Kd.R_drewN | apply Kd.R_drew)); exact Kd.R_mono HO_8.out (fun _ hk => ⟨⟨hk.1.1, hk.2⟩, hk.1.2⟩)) hg hat)
                                                    have n2_ := Aside0.mk (Kd.V_afterv (ok := (fun k_ => (P0_ k_ ∨ w.heap.size ≤ k_) ∧ some k_ ≠ (.slice Ao53 x8_3.length co53 : Value).ownBlock ∧ some k_ ≠ (.slice Ao51 y212.length co51 : Value).ownBlock ∧ some k_ ≠ (v216 : Value).ownBlock ∧ some k_ ≠ (.slice Ao58 y219.length co58 : Value).ownBlock)) (by (with_reducible repeat (first | apply Kd.V_alloc | apply Kd.V_drewN | apply Kd.V_drew)); exact Kd.V_mono HL211_0.out (fun _ hk => ⟨⟨hk.1.1.1, ⟨hk.1.1.2.2.1, ⟨hk.1.1.2.2.2, ⟨hk.1.2, hk.2⟩⟩⟩⟩, hk.1.1.2.1⟩)) hg hat)
                                                    have n3_ := Aside0.mk (Kd.N_afterv (ok := (fun k_ => (P0_ k_ ∨ w.heap.size ≤ k_) ∧ some k_ ≠ (.slice Ao53 x8_3.length co53 : Value).ownBlock ∧ some k_ ≠ (v216 : Value).ownBlock ∧ some k_ ≠ (.slice Ao58 y219.length co58 : Value).ownBlock)) (by (with_reducible repeat (first | apply Kd.N_alloc | apply Kd.N_drewN | apply Kd.N_drew)); exact Kd.N_mono HO214.out (fun _ hk => ⟨⟨hk.1.1.1, ⟨hk.1.1.2.2, ⟨hk.1.2, hk.2⟩⟩⟩, hk.1.1.2.1⟩)) hg hat)
                                                    have n4_ := Aside0.mk (Kd.N_afterv (ok := (fun k_ => (P0_ k_ ∨ w.heap.size ≤ k_) ∧ some k_ ≠ (.slice Ao53 x8_3.length co53 : Value).ownBlock ∧ some k_ ≠ (.slice Ao58 y219.length co58 : Value).ownBlock)) (by (with_reducible repeat (first | apply Kd.N_alloc | apply Kd.N_drewN | apply Kd.N_drew)); exact Kd.N_mono HO217.out (fun _ hk => ⟨⟨hk.1.1, ⟨hk.1.2.2, hk.2⟩⟩, hk.1.2.1⟩)) hg hat)
                                                    have n5_ := Aside0.mk (Kd.R_after (ok := (fun k_ => (w.heap.size ≤ k_) ∧ some k_ ≠ (.slice Ao53 x8_3.length co53 : Value).ownBlock)) (by (with_reducible repeat (first | apply Kd.R_alloc | apply Kd.R_drewN | apply Kd.R_drew)); exact Kd.R_mono HO221.out (fun _ hk => ⟨⟨hk.1.1.1, hk.2⟩, hk.1.2⟩)) hg hat)
                                                    have n6_ := Aside0.mk (hb)
                                                    have n7_ := Aside0.mk (ho)
                                                    clear HO_0
                                                    clear HO_8
                                                    clear HL211_0
                                                    clear HO214
                                                    clear HO217
                                                    clear HO221
                                                    clear HB
                                                    clear HO_7
                                                    have HO_0 := n0_
                                                    have HO_8 := n1_
                                                    have HL211_0 := n2_
                                                    have HO214 := n3_
                                                    have HO217 := n4_
                                                    have HO221 := n5_
                                                    have HB := n6_
                                                    have HO224 := n7_
                                                    clear n0_ n1_ n2_ n3_ n4_ n5_ n6_ n7_
                                                    clear ho hb hg hat
                                                    refine hK.out _ _ ⟨((HB.out.cell (World.block_lt_of_cell? w _ hw218_0)).trans hw218_0), ((HB.out.cell (World.block_lt_of_cell? w _ hw225_0)).trans hw225_0)⟩ (fun hHeld => ?_)
                                                    clear hK K
                                                    refine norm_ (a' := ?_) ?_ ?_
                                                    rotate_left
                                                    · show Act.put _ (some 123) _ = _
                                                      simp only [Act.put, List.setIfInBounds_toArray, List.set_cons_zero, List.set_cons_succ, i64_w, i32_w]
                                                      rfl
                                                    refine one_ (i := 14) (N := some 130) #[true, true, true, true, true, true, true, true, true, true, true, true, true, true, true, false, false, false] rfl rfl (one_of HT_.out (by kernel_rfl)) (by decide) (fun K hK => ?_)
                                                    refine Kd.R_lit_step (Kd.int .i64) _ 3 ?hg (N := 130) ?hd (xs := ([wrap64 (rd l1 (ji39))] : List Int)) (inner := [.int .i64 (wrap64 (rd l1 (ji39)))]) (ok := fun _ => True) (okp := fun _ => True) ?hr ?hp (fun _ hk => hk) trivial (Below.refl _ _) (Nat.le_refl _) (by simp) ?_; (case hd => rfl); (case hg => rfl); (case hr => first | (go_simp; done) | (go_simp; rfl)); (case hp => exact (Reps.one (show Kd.M (Kd.int .i64) _ _ _ (wrap64 (rd l1 (ji39))) [.int .i64 (wrap64 (rd l1 (ji39)))] from rfl) (Reps.none _ _)))
                                                    intro v227 w59 ho60 hb hg_ hnew_
                                                    clear hg_ hnew_
                                                    (first | rw [← Ny226.out] at ho60 | (simp only [Int.reduceToNat] at ho60; rw [← Ny226.out] at ho60))
                                                    have n0_ := Aside0.mk (Kd.V_elder' (by (with_reducible repeat (first | apply Kd.V_alloc | apply Kd.V_drewN | apply Kd.V_drew)); exact HO_0.out) (Kd.R_base ho60) hb)
                                                    have n1_ := Aside0.mk (Kd.R_elder' (by (with_reducible repeat (first | apply Kd.R_alloc | apply Kd.R_drewN | apply Kd.R_drew)); exact HO_8.out) (Kd.R_base ho60) hb)
                                                    have n2_ := Aside0.mk (Kd.V_elder' (by (with_reducible repeat (first | apply Kd.V_alloc | apply Kd.V_drewN | apply Kd.V_drew)); exact HL211_0.out) (Kd.R_base ho60) hb)
                                                    have n3_ := Aside0.mk (Kd.N_elder' (by (with_reducible repeat (first | apply Kd.N_alloc | apply Kd.N_drewN | apply Kd.N_drew)); exact HO214.out) (Kd.R_base ho60) hb)
                                                    have n4_ := Aside0.mk (Kd.N_elder' (by (with_reducible repeat (first | apply Kd.N_alloc | apply Kd.N_drewN | apply Kd.N_drew)); exact HO217.out) (Kd.R_base ho60) hb)
                                                    have n5_ := Aside0.mk (Kd.R_elder' (by (with_reducible repeat (first | apply Kd.R_alloc | apply Kd.R_drewN | apply Kd.R_drew)); exact HO221.out) (Kd.R_base ho60) hb)
                                                    have n6_ := Aside0.mk (Kd.R_elder' (by (with_reducible repeat (first | apply Kd.R_alloc | apply Kd.R_drewN | apply Kd.R_drew)); exact HO224.out) (Kd.R_base ho60) hb)
                                                    have n7_ := Aside0.mk (Kd.R_lower (Kd.R_new' (Kd.R_new' (Kd.R_new' (Kd.R_newM (M := fun k_ => (w.heap.size ≤ k_)) ho60 (below_size (by repeat (first | (with_reducible first | exact HB.out | apply below_alloc | apply pw_below_drewN | apply below_drew1) | exact HB.out))) (fun k_ h_ => h_)) (Kd.R_lt (by (with_reducible repeat (first | apply Kd.R_alloc | apply Kd.R_drewN | apply Kd.R_drew)); exact HO_8.out))) (Kd.R_lt (by (with_reducible repeat (first | apply Kd.R_alloc | apply Kd.R_drewN | apply Kd.R_drew)); exact HO221.out))) (Kd.R_lt (by (with_reducible repeat (first | apply Kd.R_alloc | apply Kd.R_drewN | apply Kd.R_drew)); exact HO224.out))) (below_size (by repeat (first | (with_reducible first | exact HB.out | apply below_alloc | apply pw_below_drewN | apply below_drew1) | exact HB.out))))
                                                    have n8_ := Aside0.mk (below_step (by repeat (first | (with_reducible first | exact HB.out | apply below_alloc | apply pw_below_drewN | apply below_drew1) | exact HB.out)) hb)
                                                    clear HO_0
                                                    clear HO_8
                                                    clear HL211_0
                                                    clear HO214
                                                    clear HO217
                                                    clear HO221
                                                    clear HO224
                                                    clear HB
                                                    have HO_0 := n0_
                                                    have HO_8 := n1_
                                                    have HL211_0 := n2_
                                                    have HO214 := n3_
                                                    have HO217 := n4_
                                                    have HO221 := n5_
                                                    have HO224 := n6_
                                                    have HO228 := n7_
                                                    have HB := n8_
                                                    clear n0_ n1_ n2_ n3_ n4_ n5_ n6_ n7_ n8_
                                                    clear hb ho60
                                                    refine hK.out _ _ ⟨((HB.out.cell (World.block_lt_of_cell? w _ hw218_0)).trans hw218_0), ((HB.out.cell (World.block_lt_of_cell? w _ hw225_0)).trans hw225_0)⟩ (fun hHeld => ?_)
                                                    clear hK K
                                                    refine norm_ (a' := ?_) ?_ ?_
                                                    rotate_left
                                                    · show Act.put _ (some 130) _ = _
                                                      simp only [Act.put, List.setIfInBounds_toArray, List.set_cons_zero, List.set_cons_succ, i64_w, i32_w]
                                                      rfl
                                                    exact norm_ (by simp only [putAll, Act.put, List.setIfInBounds_toArray, List.set_cons_zero, List.set_cons_succ]) (hCont (.slice Ao58 y219.length co58, v223, v227) _ ⟨hHeld, (by (with_reducible repeat (first | apply Kd.V_alloc | apply Kd.V_drewN | apply Kd.V_drew)); exact Kd.V_mono HL211_0.out (fun _ hk => ⟨hk.1.1.1, ⟨hk.1.1.2.2.1, ⟨hk.1.1.2.2.2.1, ⟨hk.1.1.2.2.2.2, ⟨hk.1.2, ⟨hk.2, hk.1.1.2.1⟩⟩⟩⟩⟩⟩)), (by (with_reducible repeat (first | apply Kd.N_alloc | apply Kd.N_drewN | apply Kd.N_drew)); exact Kd.N_mono HO214.out (fun _ hk => ⟨hk.1.1.1, ⟨hk.1.1.2.2.1, ⟨hk.1.1.2.2.2, ⟨hk.1.2, ⟨hk.2, hk.1.1.2.1⟩⟩⟩⟩⟩)), (by (with_reducible repeat (first | apply Kd.N_alloc | apply Kd.N_drewN | apply Kd.N_drew)); exact Kd.N_mono HO217.out (fun _ hk => ⟨hk.1.1.1, ⟨hk.1.1.2.2, ⟨hk.1.2, ⟨hk.2, hk.1.1.2.1⟩⟩⟩⟩)), (by (with_reducible repeat (first | apply Kd.R_alloc | apply Kd.R_drewN | apply Kd.R_drew)); exact Kd.R_mono HO221.out (fun _ hk => ⟨hk.1.1.1, ⟨hk.1.2, ⟨hk.2, hk.1.1.2⟩⟩⟩)), (by (with_reducible repeat (first | apply Kd.R_alloc | apply Kd.R_drewN | apply Kd.R_drew)); exact Kd.R_mono HO224.out (fun _ hk => ⟨hk.1.1, ⟨hk.1.2.2, ⟨hk.2, hk.1.2.1⟩⟩⟩)), (by (with_reducible repeat (first | apply Kd.R_alloc | apply Kd.R_drewN | apply Kd.R_drew)); exact Kd.R_mono HO228.out (fun _ hk => ⟨hk.1.1.1.1, ⟨hk.1.2, ⟨hk.2, hk.1.1.2⟩⟩⟩)), (by (with_reducible repeat (first | apply Kd.V_alloc | apply Kd.V_drewN | apply Kd.V_drew)); exact Kd.V_mono HO_0.out (fun _ hk => ⟨hk.1.1.1, ⟨hk.1.1.2.2.1, ⟨hk.1.1.2.2.2.1, ⟨hk.1.1.2.2.2.2, ⟨hk.1.2, ⟨hk.2, hk.1.1.2.1⟩⟩⟩⟩⟩⟩)), (by (with_reducible repeat (first | apply Kd.R_alloc | apply Kd.R_drewN | apply Kd.R_drew)); exact Kd.R_mono HO_8.out (fun _ hk => ⟨hk.1.1.1, ⟨hk.1.1.2, ⟨hk.1.2, hk.2⟩⟩⟩)), (by repeat (first | (with_reducible first | exact HB.out | apply below_alloc | apply pw_below_drewN | apply below_drew1) | exact HB.out))⟩)
                                                  · skip
                                                    refine Kd.R_lit_step (Kd.int .i64) _ 3 ?hg (N := 130) ?hd (xs := ([wrap64 (rd l1 (ji39))] : List Int)) (inner := [.int .i64 (wrap64 (rd l1 (ji39)))]) (ok := fun _ => True) (okp := fun _ => True) ?hr ?hp (fun _ hk => hk) trivial (Below.refl _ _) (Nat.le_refl _) (by simp) ?_; (case hd => rfl); (case hg => rfl); (case hr => first | (go_simp; done) | (go_simp; rfl)); (case hp => exact (Reps.one (show Kd.M (Kd.int .i64) _ _ _ (wrap64 (rd l1 (ji39))) [.int .i64 (wrap64 (rd l1 (ji39)))] from rfl) (Reps.none _ _)))
                                                    intro v227 w57 ho58 hb hg_ hnew_
                                                    clear hg_ hnew_
                                                    (first | rw [← Ny226.out] at ho58 | (simp only [Int.reduceToNat] at ho58; rw [← Ny226.out] at ho58))
                                                    have n0_ := Aside0.mk (Kd.V_elder' (by (with_reducible repeat (first | apply Kd.V_alloc | apply Kd.V_drewN | apply Kd.V_drew)); exact HO_0.out) (Kd.R_base ho58) hb)
                                                    have n1_ := Aside0.mk (Kd.R_elder' (by (with_reducible repeat (first | apply Kd.R_alloc | apply Kd.R_drewN | apply Kd.R_drew)); exact HO_7.out) (Kd.R_base ho58) hb)
                                                    have n2_ := Aside0.mk (Kd.R_elder' (by (with_reducible repeat (first | apply Kd.R_alloc | apply Kd.R_drewN | apply Kd.R_drew)); exact HO_8.out) (Kd.R_base ho58) hb)
                                                    have n3_ := Aside0.mk (Kd.V_elder' (by (with_reducible repeat (first | apply Kd.V_alloc | apply Kd.V_drewN | apply Kd.V_drew)); exact HL211_0.out) (Kd.R_base ho58) hb)
                                                    have n4_ := Aside0.mk (Kd.N_elder' (by (with_reducible repeat (first | apply Kd.N_alloc | apply Kd.N_drewN | apply Kd.N_drew)); exact HO214.out) (Kd.R_base ho58) hb)
                                                    have n5_ := Aside0.mk (Kd.N_elder' (by (with_reducible repeat (first | apply Kd.N_alloc | apply Kd.N_drewN | apply Kd.N_drew)); exact HO217.out) (Kd.R_base ho58) hb)
                                                    have n6_ := Aside0.mk (Kd.R_elder' (by (with_reducible repeat (first | apply Kd.R_alloc | apply Kd.R_drewN | apply Kd.R_drew)); exact HO221.out) (Kd.R_base ho58) hb)
                                                    have n7_ := Aside0.mk (Kd.R_lower (Kd.R_new' (Kd.R_new' (Kd.R_new' (Kd.R_newM (M := fun k_ => (w.heap.size ≤ k_)) ho58 (below_size (by repeat (first | (with_reducible first | exact HB.out | apply below_alloc | apply pw_below_drewN | apply below_drew1) | exact HB.out))) (fun k_ h_ => h_)) (Kd.R_lt (by (with_reducible repeat (first | apply Kd.R_alloc | apply Kd.R_drewN | apply Kd.R_drew)); exact HO_7.out))) (Kd.R_lt (by (with_reducible repeat (first | apply Kd.R_alloc | apply Kd.R_drewN | apply Kd.R_drew)); exact HO_8.out))) (Kd.R_lt (by (with_reducible repeat (first | apply Kd.R_alloc | apply Kd.R_drewN | apply Kd.R_drew)); exact HO221.out))) (below_size (by repeat (first | (with_reducible first | exact HB.out | apply below_alloc | apply pw_below_drewN | apply below_drew1) | exact HB.out))))
                                                    have n8_ := Aside0.mk (below_step (by repeat (first | (with_reducible first | exact HB.out | apply below_alloc | apply pw_below_drewN | apply below_drew1) | exact HB.out)) hb)
                                                    clear HO_0
                                                    clear HO_7
                                                    clear HO_8
                                                    clear HL211_0
                                                    clear HO214
                                                    clear HO217
                                                    clear HO221
                                                    clear HB
                                                    have HO_0 := n0_
                                                    have HO_7 := n1_
                                                    have HO_8 := n2_
                                                    have HL211_0 := n3_
                                                    have HO214 := n4_
                                                    have HO217 := n5_
                                                    have HO221 := n6_
                                                    have HO228 := n7_
                                                    have HB := n8_
                                                    clear n0_ n1_ n2_ n3_ n4_ n5_ n6_ n7_ n8_
                                                    clear hb ho58
                                                    obtain ⟨Ao60, co60, eo60⟩ := Kd.R_slice HO221.out
                                                    (first | subst eo60 | (injection eo60 with f1_ f2_ f3_; have f4_ := f1_.symm; have f5_ := f3_.symm; clear f1_ f2_ f3_; subst f4_; subst f5_))
                                                    refine hK.out _ _ ⟨((HB.out.cell (World.block_lt_of_cell? w _ hw218_0)).trans hw218_0), ((HB.out.cell (World.block_lt_of_cell? w _ hw225_0)).trans hw225_0)⟩ (fun hHeld => ?_)
                                                    clear hK K
                                                    refine norm_ (a' := ?_) ?_ ?_
                                                    rotate_left
                                                    · show Act.put _ (some 130) _ = _
                                                      simp only [Act.put, List.setIfInBounds_toArray, List.set_cons_zero, List.set_cons_succ, i64_w, i32_w]
                                                      rfl
                                                    refine one_ (i := 7) (N := some 123) #[true, true, true, true, true, true, true, true, true, true, true, true, true, true, true, false, false, false] rfl rfl (one_of HT_.out (by kernel_rfl)) (by decide) (fun K hK => ?_)
                                                    refine Kd.R_append_rows_step (Kd.int .i64) (w0 := w) w.heap.size (by rfl) (.tmp 116) (.tmp 122) 23 3 (.int .i64 0) 8 rfl Try.underlying23 info3 rfl (by decide) (by omega) (.slice Ao52 x7_3.length co52) x7_3 y219 _ _ _ (fun k_ => (w.heap.size ≤ k_) ∧ some k_ ≠ (.slice Ao53 x8_3.length co53 : Value).ownBlock ∧ some k_ ≠ (.slice Ao60 y219.length co60 : Value).ownBlock ∧ some k_ ≠ (v227 : Value).ownBlock) (fun _ => False) rfl rfl ?aO ?aR (fun _ _ h => h) (fun _ h => h.elim) ?aF ?aB ?aS ?aL ?_
                                                    (case aR => repeat (first | exact (Kd.R_reads' HO221.out).2.2 | (with_reducible refine Kd.C_alloc ?_ _) | (with_reducible refine Kd.C_drewN ?_ _) | (with_reducible refine Kd.C_drew ?_)))
                                                    (case aB => exact (by repeat (first | (with_reducible first | exact HB.out | apply below_alloc | apply pw_below_drewN | apply below_drew1) | exact HB.out)))
                                                    (case aF => exact (fun k_ hk => ⟨(Nat.le_trans (below_size (by repeat (first | (with_reducible first | exact HB.out | apply below_alloc | apply pw_below_drewN | apply below_drew1) | exact HB.out))) hk), Kd.fresh' (Kd.R_lt (by (with_reducible repeat (first | apply Kd.R_alloc | apply Kd.R_drewN | apply Kd.R_drew)); exact HO_8.out)) k_ hk, Kd.fresh' (Kd.R_lt (by (with_reducible repeat (first | apply Kd.R_alloc | apply Kd.R_drewN | apply Kd.R_drew)); exact HO221.out)) k_ hk, Kd.fresh' (Kd.R_lt (by (with_reducible repeat (first | apply Kd.R_alloc | apply Kd.R_drewN | apply Kd.R_drew)); exact HO228.out)) k_ hk⟩))
                                                    (case aO => exact (by (with_reducible repeat (first | apply Kd.R_alloc | apply Kd.R_drewN | apply Kd.R_drew)); exact Kd.R_mono HO_7.out (fun _ hk => ⟨hk.1.1.1, ⟨hk.1.1.2, ⟨hk.1.2, hk.2⟩⟩⟩)))
                                                    (case aS => exact (below_size (by repeat (first | (with_reducible first | exact HB.out | apply below_alloc | apply pw_below_drewN | apply below_drew1) | exact HB.out))))
                                                    (case aL => have := LMc45.out; omega)
                                                    intro v223 w59 ho hb hg hat
                                                    rw [← Ny222.out] at ho
                                                    have n0_ := Aside0.mk (Kd.V_afterv (ok := (fun k_ => (P0_ k_ ∨ w.heap.size ≤ k_) ∧ some k_ ≠ (.slice Ao53 x8_3.length co53 : Value).ownBlock ∧ some k_ ≠ (.slice Ao51 y212.length co51 : Value).ownBlock ∧ some k_ ≠ (v216 : Value).ownBlock ∧ some k_ ≠ (.slice Ao60 y219.length co60 : Value).ownBlock ∧ some k_ ≠ (v227 : Value).ownBlock)) (by (with_reducible repeat (first | apply Kd.V_alloc | apply Kd.V_drewN | apply Kd.V_drew)); exact Kd.V_mono HO_0.out (fun _ hk => ⟨⟨hk.1.1.1.1, ⟨hk.1.1.1.2.2.1, ⟨hk.1.1.1.2.2.2, ⟨hk.1.1.2, ⟨hk.1.2, hk.2⟩⟩⟩⟩⟩, hk.1.1.1.2.1⟩)) hg hat)
                                                    have n1_ := Aside0.mk (Kd.R_after (ok := (fun k_ => (w.heap.size ≤ k_) ∧ some k_ ≠ (.slice Ao60 y219.length co60 : Value).ownBlock ∧ some k_ ≠ (v227 : Value).ownBlock)) (by (with_reducible repeat (first | apply Kd.R_alloc | apply Kd.R_drewN | apply Kd.R_drew)); exact Kd.R_mono HO_8.out (fun _ hk => ⟨⟨hk.1.1.1, ⟨hk.1.2, hk.2⟩⟩, hk.1.1.2⟩)) hg hat)
                                                    have n2_ := Aside0.mk (Kd.V_afterv (ok := (fun k_ => (P0_ k_ ∨ w.heap.size ≤ k_) ∧ some k_ ≠ (.slice Ao53 x8_3.length co53 : Value).ownBlock ∧ some k_ ≠ (.slice Ao51 y212.length co51 : Value).ownBlock ∧ some k_ ≠ (v216 : Value).ownBlock ∧ some k_ ≠ (.slice Ao60 y219.length co60 : Value).ownBlock ∧ some k_ ≠ (v227 : Value).ownBlock)) (by (with_reducible repeat (first | apply Kd.V_alloc | apply Kd.V_drewN | apply Kd.V_drew)); exact Kd.V_mono HL211_0.out (fun _ hk => ⟨⟨hk.1.1.1.1, ⟨hk.1.1.1.2.2.1, ⟨hk.1.1.1.2.2.2, ⟨hk.1.1.2, ⟨hk.1.2, hk.2⟩⟩⟩⟩⟩, hk.1.1.1.2.1⟩)) hg hat)
                                                    have n3_ := Aside0.mk (Kd.N_afterv (ok := (fun k_ => (P0_ k_ ∨ w.heap.size ≤ k_) ∧ some k_ ≠ (.slice Ao53 x8_3.length co53 : Value).ownBlock ∧ some k_ ≠ (v216 : Value).ownBlock ∧ some k_ ≠ (.slice Ao60 y219.length co60 : Value).ownBlock ∧ some k_ ≠ (v227 : Value).ownBlock)) (by (with_reducible repeat (first | apply Kd.N_alloc | apply Kd.N_drewN | apply Kd.N_drew)); exact Kd.N_mono HO214.out (fun _ hk => ⟨⟨hk.1.1.1.1, ⟨hk.1.1.1.2.2, ⟨hk.1.1.2, ⟨hk.1.2, hk.2⟩⟩⟩⟩, hk.1.1.1.2.1⟩)) hg hat)
                                                    have n4_ := Aside0.mk (Kd.N_afterv (ok := (fun k_ => (P0_ k_ ∨ w.heap.size ≤ k_) ∧ some k_ ≠ (.slice Ao53 x8_3.length co53 : Value).ownBlock ∧ some k_ ≠ (.slice Ao60 y219.length co60 : Value).ownBlock ∧ some k_ ≠ (v227 : Value).ownBlock)) (by (with_reducible repeat (first | apply Kd.N_alloc | apply Kd.N_drewN | apply Kd.N_drew)); exact Kd.N_mono HO217.out (fun _ hk => ⟨⟨hk.1.1.1, ⟨hk.1.1.2.2, ⟨hk.1.2, hk.2⟩⟩⟩, hk.1.1.2.1⟩)) hg hat)
                                                    have n5_ := Aside0.mk (Kd.R_after (ok := (fun k_ => (w.heap.size ≤ k_) ∧ some k_ ≠ (.slice Ao53 x8_3.length co53 : Value).ownBlock ∧ some k_ ≠ (v227 : Value).ownBlock)) (by (with_reducible repeat (first | apply Kd.R_alloc | apply Kd.R_drewN | apply Kd.R_drew)); exact Kd.R_mono HO221.out (fun _ hk => ⟨⟨hk.1.1.1.1, ⟨hk.1.2, hk.2⟩⟩, hk.1.1.2⟩)) hg hat)
                                                    have n6_ := Aside0.mk (Kd.R_after (ok := (fun k_ => (w.heap.size ≤ k_) ∧ some k_ ≠ (.slice Ao53 x8_3.length co53 : Value).ownBlock ∧ some k_ ≠ (.slice Ao60 y219.length co60 : Value).ownBlock)) (by (with_reducible repeat (first | apply Kd.R_alloc | apply Kd.R_drewN | apply Kd.R_drew)); exact Kd.R_mono HO228.out (fun _ hk => ⟨⟨hk.1.1.1.1, ⟨hk.1.2, hk.2⟩⟩, hk.1.1.2⟩)) hg hat)
                                                    have n7_ := Aside0.mk (hb)
                                                    have n8_ := Aside0.mk (ho)
                                                    clear HO_0
                                                    clear HO_8
                                                    clear HL211_0
                                                    clear HO214
                                                    clear HO217
                                                    clear HO221
                                                    clear HO228
                                                    clear HB
                                                    clear HO_7
                                                    have HO_0 := n0_
                                                    have HO_8 := n1_
                                                    have HL211_0 := n2_
                                                    have HO214 := n3_
                                                    have HO217 := n4_
                                                    have HO221 := n5_
                                                    have HO228 := n6_
                                                    have HB := n7_
                                                    have HO224 := n8_
                                                    clear n0_ n1_ n2_ n3_ n4_ n5_ n6_ n7_ n8_
                                                    clear ho hb hg hat
                                                    refine hK.out _ _ ⟨((HB.out.cell (World.block_lt_of_cell? w _ hw218_0)).trans hw218_0), ((HB.out.cell (World.block_lt_of_cell? w _ hw225_0)).trans hw225_0)⟩ (fun hHeld => ?_)
                                                    clear hK K
                                                    refine norm_ (a' := ?_) ?_ ?_
                                                    rotate_left
                                                    · show Act.put _ (some 123) _ = _
                                                      simp only [Act.put, List.setIfInBounds_toArray, List.set_cons_zero, List.set_cons_succ, i64_w, i32_w]
                                                      rfl
                                                    exact norm_ (by simp only [putAll, Act.put, List.setIfInBounds_toArray, List.set_cons_zero, List.set_cons_succ]) (hCont (.slice Ao60 y219.length co60, v223, v227) _ ⟨hHeld, (by (with_reducible repeat (first | apply Kd.V_alloc | apply Kd.V_drewN | apply Kd.V_drew)); exact Kd.V_mono HL211_0.out (fun _ hk => ⟨hk.1.1, ⟨hk.1.2.2.1, ⟨hk.1.2.2.2.1, ⟨hk.1.2.2.2.2.1, ⟨hk.2, ⟨hk.1.2.2.2.2.2, hk.1.2.1⟩⟩⟩⟩⟩⟩)), (by (with_reducible repeat (first | apply Kd.N_alloc | apply Kd.N_drewN | apply Kd.N_drew)); exact Kd.N_mono HO214.out (fun _ hk => ⟨hk.1.1, ⟨hk.1.2.2.1, ⟨hk.1.2.2.2.1, ⟨hk.2, ⟨hk.1.2.2.2.2, hk.1.2.1⟩⟩⟩⟩⟩)), (by (with_reducible repeat (first | apply Kd.N_alloc | apply Kd.N_drewN | apply Kd.N_drew)); exact Kd.N_mono HO217.out (fun _ hk => ⟨hk.1.1, ⟨hk.1.2.2.1, ⟨hk.2, ⟨hk.1.2.2.2, hk.1.2.1⟩⟩⟩⟩)), (by (with_reducible repeat (first | apply Kd.R_alloc | apply Kd.R_drewN | apply Kd.R_drew)); exact Kd.R_mono HO221.out (fun _ hk => ⟨hk.1.1, ⟨hk.2, ⟨hk.1.2.2, hk.1.2.1⟩⟩⟩)), (by (with_reducible repeat (first | apply Kd.R_alloc | apply Kd.R_drewN | apply Kd.R_drew)); exact Kd.R_mono HO224.out (fun _ hk => ⟨hk.1, ⟨hk.2.2.1, ⟨hk.2.2.2, hk.2.1⟩⟩⟩)), (by (with_reducible repeat (first | apply Kd.R_alloc | apply Kd.R_drewN | apply Kd.R_drew)); exact Kd.R_mono HO228.out (fun _ hk => ⟨hk.1.1, ⟨hk.1.2.2, ⟨hk.2, hk.1.2.1⟩⟩⟩)), (by (with_reducible repeat (first | apply Kd.V_alloc | apply Kd.V_drewN | apply Kd.V_drew)); exact Kd.V_mono HO_0.out (fun _ hk => ⟨hk.1.1, ⟨hk.1.2.2.1, ⟨hk.1.2.2.2.1, ⟨hk.1.2.2.2.2.1, ⟨hk.2, ⟨hk.1.2.2.2.2.2, hk.1.2.1⟩⟩⟩⟩⟩⟩)), (by (with_reducible repeat (first | apply Kd.R_alloc | apply Kd.R_drewN | apply Kd.R_drew)); exact Kd.R_mono HO_8.out (fun _ hk => ⟨hk.1.1, ⟨hk.1.2.1, ⟨hk.2, hk.1.2.2⟩⟩⟩)), (by repeat (first | (with_reducible first | exact HB.out | apply below_alloc | apply pw_below_drewN | apply below_drew1) | exact HB.out))⟩)
                                                · skip
                                                  refine Kd.R_lit_step (Kd.int .i64) _ 3 ?hg (N := 130) ?hd (xs := ([wrap64 (rd l1 (ji39))] : List Int)) (inner := [.int .i64 (wrap64 (rd l1 (ji39)))]) (ok := fun _ => True) (okp := fun _ => True) ?hr ?hp (fun _ hk => hk) trivial (Below.refl _ _) (Nat.le_refl _) (by simp) ?_; (case hd => rfl); (case hg => rfl); (case hr => first | (go_simp; done) | (go_simp; rfl)); (case hp => exact (Reps.one (show Kd.M (Kd.int .i64) _ _ _ (wrap64 (rd l1 (ji39))) [.int .i64 (wrap64 (rd l1 (ji39)))] from rfl) (Reps.none _ _)))
                                                  intro v227 w55 ho56 hb hg_ hnew_
                                                  clear hg_ hnew_
                                                  (first | rw [← Ny226.out] at ho56 | (simp only [Int.reduceToNat] at ho56; rw [← Ny226.out] at ho56))
                                                  have n0_ := Aside0.mk (Kd.V_elder' (by (with_reducible repeat (first | apply Kd.V_alloc | apply Kd.V_drewN | apply Kd.V_drew)); exact HO_0.out) (Kd.R_base ho56) hb)
                                                  have n1_ := Aside0.mk (Kd.R_elder' (by (with_reducible repeat (first | apply Kd.R_alloc | apply Kd.R_drewN | apply Kd.R_drew)); exact HO_7.out) (Kd.R_base ho56) hb)
                                                  have n2_ := Aside0.mk (Kd.R_elder' (by (with_reducible repeat (first | apply Kd.R_alloc | apply Kd.R_drewN | apply Kd.R_drew)); exact HO_8.out) (Kd.R_base ho56) hb)
                                                  have n3_ := Aside0.mk (Kd.V_elder' (by (with_reducible repeat (first | apply Kd.V_alloc | apply Kd.V_drewN | apply Kd.V_drew)); exact HL211_0.out) (Kd.R_base ho56) hb)
                                                  have n4_ := Aside0.mk (Kd.N_elder' (by (with_reducible repeat (first | apply Kd.N_alloc | apply Kd.N_drewN | apply Kd.N_drew)); exact HO214.out) (Kd.R_base ho56) hb)
                                                  have n5_ := Aside0.mk (Kd.N_elder' (by (with_reducible repeat (first | apply Kd.N_alloc | apply Kd.N_drewN | apply Kd.N_drew)); exact HO217.out) (Kd.R_base ho56) hb)
                                                  have n6_ := Aside0.mk (Kd.R_lower (Kd.R_new' (Kd.R_new' (Kd.R_newM (M := fun k_ => (w.heap.size ≤ k_)) ho56 (below_size (by repeat (first | (with_reducible first | exact HB.out | apply below_alloc | apply pw_below_drewN | apply below_drew1) | exact HB.out))) (fun k_ h_ => h_)) (Kd.R_lt (by (with_reducible repeat (first | apply Kd.R_alloc | apply Kd.R_drewN | apply Kd.R_drew)); exact HO_7.out))) (Kd.R_lt (by (with_reducible repeat (first | apply Kd.R_alloc | apply Kd.R_drewN | apply Kd.R_drew)); exact HO_8.out))) (below_size (by repeat (first | (with_reducible first | exact HB.out | apply below_alloc | apply pw_below_drewN | apply below_drew1) | exact HB.out))))
                                                  have n7_ := Aside0.mk (below_step (by repeat (first | (with_reducible first | exact HB.out | apply below_alloc | apply pw_below_drewN | apply below_drew1) | exact HB.out)) hb)
                                                  clear HO_0
                                                  clear HO_7
                                                  clear HO_8
                                                  clear HL211_0
                                                  clear HO214
                                                  clear HO217
                                                  clear HB
                                                  have HO_0 := n0_
                                                  have HO_7 := n1_
                                                  have HO_8 := n2_
                                                  have HL211_0 := n3_
                                                  have HO214 := n4_
                                                  have HO217 := n5_
                                                  have HO228 := n6_
                                                  have HB := n7_
                                                  clear n0_ n1_ n2_ n3_ n4_ n5_ n6_ n7_
                                                  clear hb ho56
                                                  refine hK.out _ _ ⟨((HB.out.cell (World.block_lt_of_cell? w _ hw218_0)).trans hw218_0), ((HB.out.cell (World.block_lt_of_cell? w _ hw225_0)).trans hw225_0)⟩ (fun hHeld => ?_)
                                                  clear hK K
                                                  refine norm_ (a' := ?_) ?_ ?_
                                                  rotate_left
                                                  · show Act.put _ (some 130) _ = _
                                                    simp only [Act.put, List.setIfInBounds_toArray, List.set_cons_zero, List.set_cons_succ, i64_w, i32_w]
                                                    rfl
                                                  refine one_ (i := 6) (N := some 122) #[true, true, true, true, true, true, true, false, true, true, true, true, true, true, true, false, false, false] rfl rfl (one_of HT_.out (by kernel_rfl)) (by decide) (fun K hK => ?_)
                                                  refine Kd.R_lit_step (Kd.int .i64) _ 3 ?hg (N := 122) ?hd (xs := ([wrap64 (rd l1 x9_3)] : List Int)) (inner := [.int .i64 (wrap64 (rd l1 x9_3))]) (ok := fun _ => True) (okp := fun _ => True) ?hr ?hp (fun _ hk => hk) trivial (Below.refl _ _) (Nat.le_refl _) (by simp) ?_; (case hd => rfl); (case hg => rfl); (case hr => first | (go_simp; done) | (go_simp; rfl)); (case hp => exact (Reps.one (show Kd.M (Kd.int .i64) _ _ _ (wrap64 (rd l1 x9_3)) [.int .i64 (wrap64 (rd l1 x9_3))] from rfl) (Reps.none _ _)))
                                                  intro v220 w57 ho58 hb hg_ hnew_
                                                  clear hg_ hnew_
                                                  (first | rw [← Ny219.out] at ho58 | (simp only [Int.reduceToNat] at ho58; rw [← Ny219.out] at ho58))
                                                  have n0_ := Aside0.mk (Kd.V_elder' (by (with_reducible repeat (first | apply Kd.V_alloc | apply Kd.V_drewN | apply Kd.V_drew)); exact HO_0.out) (Kd.R_base ho58) hb)
                                                  have n1_ := Aside0.mk (Kd.R_elder' (by (with_reducible repeat (first | apply Kd.R_alloc | apply Kd.R_drewN | apply Kd.R_drew)); exact HO_7.out) (Kd.R_base ho58) hb)
                                                  have n2_ := Aside0.mk (Kd.R_elder' (by (with_reducible repeat (first | apply Kd.R_alloc | apply Kd.R_drewN | apply Kd.R_drew)); exact HO_8.out) (Kd.R_base ho58) hb)
                                                  have n3_ := Aside0.mk (Kd.V_elder' (by (with_reducible repeat (first | apply Kd.V_alloc | apply Kd.V_drewN | apply Kd.V_drew)); exact HL211_0.out) (Kd.R_base ho58) hb)
                                                  have n4_ := Aside0.mk (Kd.N_elder' (by (with_reducible repeat (first | apply Kd.N_alloc | apply Kd.N_drewN | apply Kd.N_drew)); exact HO214.out) (Kd.R_base ho58) hb)
                                                  have n5_ := Aside0.mk (Kd.N_elder' (by (with_reducible repeat (first | apply Kd.N_alloc | apply Kd.N_drewN | apply Kd.N_drew)); exact HO217.out) (Kd.R_base ho58) hb)
                                                  have n6_ := Aside0.mk (Kd.R_elder' (by (with_reducible repeat (first | apply Kd.R_alloc | apply Kd.R_drewN | apply Kd.R_drew)); exact HO228.out) (Kd.R_base ho58) hb)
                                                  have n7_ := Aside0.mk (Kd.R_lower (Kd.R_new' (Kd.R_new' (Kd.R_new' (Kd.R_newM (M := fun k_ => (w.heap.size ≤ k_)) ho58 (below_size (by repeat (first | (with_reducible first | exact HB.out | apply below_alloc | apply pw_below_drewN | apply below_drew1) | exact HB.out))) (fun k_ h_ => h_)) (Kd.R_lt (by (with_reducible repeat (first | apply Kd.R_alloc | apply Kd.R_drewN | apply Kd.R_drew)); exact HO_7.out))) (Kd.R_lt (by (with_reducible repeat (first | apply Kd.R_alloc | apply Kd.R_drewN | apply Kd.R_drew)); exact HO_8.out))) (Kd.R_lt (by (with_reducible repeat (first | apply Kd.R_alloc | apply Kd.R_drewN | apply Kd.R_drew)); exact HO228.out))) (below_size (by repeat (first | (with_reducible first | exact HB.out | apply below_alloc | apply pw_below_drewN | apply below_drew1) | exact HB.out))))
                                                  have n8_ := Aside0.mk (below_step (by repeat (first | (with_reducible first | exact HB.out | apply below_alloc | apply pw_below_drewN | apply below_drew1) | exact HB.out)) hb)
                                                  clear HO_0
                                                  clear HO_7
                                                  clear HO_8
                                                  clear HL211_0
                                                  clear HO214
                                                  clear HO217
                                                  clear HO228
                                                  clear HB
                                                  have HO_0 := n0_
                                                  have HO_7 := n1_
                                                  have HO_8 := n2_
                                                  have HL211_0 := n3_
                                                  have HO214 := n4_
                                                  have HO217 := n5_
                                                  have HO228 := n6_
                                                  have HO221 := n7_
                                                  have HB := n8_
                                                  clear n0_ n1_ n2_ n3_ n4_ n5_ n6_ n7_ n8_
                                                  clear hb ho58
                                                  obtain ⟨Ao60, co60, eo60⟩ := Kd.R_slice HO221.out
                                                  (first | subst eo60 | (injection eo60 with f1_ f2_ f3_; have f4_ := f1_.symm; have f5_ := f3_.symm; clear f1_ f2_ f3_; subst f4_; subst f5_))
                                                  refine hK.out _ _ ⟨((HB.out.cell (World.block_lt_of_cell? w _ hw218_0)).trans hw218_0), ((HB.out.cell (World.block_lt_of_cell? w _ hw225_0)).trans hw225_0)⟩ (fun hHeld => ?_)
                                                  clear hK K
                                                  refine norm_ (a' := ?_) ?_ ?_
                                                  rotate_left
                                                  · show Act.put _ (some 122) _ = _
                                                    simp only [Act.put, List.setIfInBounds_toArray, List.set_cons_zero, List.set_cons_succ, i64_w, i32_w]
                                                    rfl
                                                  refine one_ (i := 7) (N := some 123) #[true, true, true, true, true, true, true, true, true, true, true, true, true, true, true, false, false, false] rfl rfl (one_of HT_.out (by kernel_rfl)) (by decide) (fun K hK => ?_)
                                                  refine Kd.R_append_rows_step (Kd.int .i64) (w0 := w) w.heap.size (by rfl) (.tmp 116) (.tmp 122) 23 3 (.int .i64 0) 8 rfl Try.underlying23 info3 rfl (by decide) (by omega) (.slice Ao52 x7_3.length co52) x7_3 y219 _ _ _ (fun k_ => (w.heap.size ≤ k_) ∧ some k_ ≠ (.slice Ao53 x8_3.length co53 : Value).ownBlock ∧ some k_ ≠ (v227 : Value).ownBlock ∧ some k_ ≠ (.slice Ao60 y219.length co60 : Value).ownBlock) (fun _ => False) rfl rfl ?aO ?aR (fun _ _ h => h) (fun _ h => h.elim) ?aF ?aB ?aS ?aL ?_
                                                  (case aR => repeat (first | exact (Kd.R_reads' HO221.out).2.2 | (with_reducible refine Kd.C_alloc ?_ _) | (with_reducible refine Kd.C_drewN ?_ _) | (with_reducible refine Kd.C_drew ?_)))
                                                  (case aB => exact (by repeat (first | (with_reducible first | exact HB.out | apply below_alloc | apply pw_below_drewN | apply below_drew1) | exact HB.out)))
                                                  (case aF => exact (fun k_ hk => ⟨(Nat.le_trans (below_size (by repeat (first | (with_reducible first | exact HB.out | apply below_alloc | apply pw_below_drewN | apply below_drew1) | exact HB.out))) hk), Kd.fresh' (Kd.R_lt (by (with_reducible repeat (first | apply Kd.R_alloc | apply Kd.R_drewN | apply Kd.R_drew)); exact HO_8.out)) k_ hk, Kd.fresh' (Kd.R_lt (by (with_reducible repeat (first | apply Kd.R_alloc | apply Kd.R_drewN | apply Kd.R_drew)); exact HO228.out)) k_ hk, Kd.fresh' (Kd.R_lt (by (with_reducible repeat (first | apply Kd.R_alloc | apply Kd.R_drewN | apply Kd.R_drew)); exact HO221.out)) k_ hk⟩))
                                                  (case aO => exact (by (with_reducible repeat (first | apply Kd.R_alloc | apply Kd.R_drewN | apply Kd.R_drew)); exact Kd.R_mono HO_7.out (fun _ hk => ⟨hk.1.1.1, ⟨hk.1.1.2, ⟨hk.1.2, hk.2⟩⟩⟩)))
                                                  (case aS => exact (below_size (by repeat (first | (with_reducible first | exact HB.out | apply below_alloc | apply pw_below_drewN | apply below_drew1) | exact HB.out))))
                                                  (case aL => have := LMc45.out; omega)
                                                  intro v223 w59 ho hb hg hat
                                                  rw [← Ny222.out] at ho
                                                  have n0_ := Aside0.mk (Kd.V_afterv (ok := (fun k_ => (P0_ k_ ∨ w.heap.size ≤ k_) ∧ some k_ ≠ (.slice Ao53 x8_3.length co53 : Value).ownBlock ∧ some k_ ≠ (.slice Ao51 y212.length co51 : Value).ownBlock ∧ some k_ ≠ (v216 : Value).ownBlock ∧ some k_ ≠ (v227 : Value).ownBlock ∧ some k_ ≠ (.slice Ao60 y219.length co60 : Value).ownBlock)) (by (with_reducible repeat (first | apply Kd.V_alloc | apply Kd.V_drewN | apply Kd.V_drew)); exact Kd.V_mono HO_0.out (fun _ hk => ⟨⟨hk.1.1.1.1, ⟨hk.1.1.1.2.2.1, ⟨hk.1.1.1.2.2.2, ⟨hk.1.1.2, ⟨hk.1.2, hk.2⟩⟩⟩⟩⟩, hk.1.1.1.2.1⟩)) hg hat)
                                                  have n1_ := Aside0.mk (Kd.R_after (ok := (fun k_ => (w.heap.size ≤ k_) ∧ some k_ ≠ (v227 : Value).ownBlock ∧ some k_ ≠ (.slice Ao60 y219.length co60 : Value).ownBlock)) (by (with_reducible repeat (first | apply Kd.R_alloc | apply Kd.R_drewN | apply Kd.R_drew)); exact Kd.R_mono HO_8.out (fun _ hk => ⟨⟨hk.1.1.1, ⟨hk.1.2, hk.2⟩⟩, hk.1.1.2⟩)) hg hat)
                                                  have n2_ := Aside0.mk (Kd.V_afterv (ok := (fun k_ => (P0_ k_ ∨ w.heap.size ≤ k_) ∧ some k_ ≠ (.slice Ao53 x8_3.length co53 : Value).ownBlock ∧ some k_ ≠ (.slice Ao51 y212.length co51 : Value).ownBlock ∧ some k_ ≠ (v216 : Value).ownBlock ∧ some k_ ≠ (v227 : Value).ownBlock ∧ some k_ ≠ (.slice Ao60 y219.length co60 : Value).ownBlock)) (by (with_reducible repeat (first | apply Kd.V_alloc | apply Kd.V_drewN | apply Kd.V_drew)); exact Kd.V_mono HL211_0.out (fun _ hk => ⟨⟨hk.1.1.1.1, ⟨hk.1.1.1.2.2.1, ⟨hk.1.1.1.2.2.2, ⟨hk.1.1.2, ⟨hk.1.2, hk.2⟩⟩⟩⟩⟩, hk.1.1.1.2.1⟩)) hg hat)
                                                  have n3_ := Aside0.mk (Kd.N_afterv (ok := (fun k_ => (P0_ k_ ∨ w.heap.size ≤ k_) ∧ some k_ ≠ (.slice Ao53 x8_3.length co53 : Value).ownBlock ∧ some k_ ≠ (v216 : Value).ownBlock ∧ some k_ ≠ (v227 : Value).ownBlock ∧ some k_ ≠ (.slice Ao60 y219.length co60 : Value).ownBlock)) (by (with_reducible repeat (first | apply Kd.N_alloc | apply Kd.N_drewN | apply Kd.N_drew)); exact Kd.N_mono HO214.out (fun _ hk => ⟨⟨hk.1.1.1.1, ⟨hk.1.1.1.2.2, ⟨hk.1.1.2, ⟨hk.1.2, hk.2⟩⟩⟩⟩, hk.1.1.1.2.1⟩)) hg hat)
                                                  have n4_ := Aside0.mk (Kd.N_afterv (ok := (fun k_ => (P0_ k_ ∨ w.heap.size ≤ k_) ∧ some k_ ≠ (.slice Ao53 x8_3.length co53 : Value).ownBlock ∧ some k_ ≠ (v227 : Value).ownBlock ∧ some k_ ≠ (.slice Ao60 y219.length co60 : Value).ownBlock)) (by (with_reducible repeat (first | apply Kd.N_alloc | apply Kd.N_drewN | apply Kd.N_drew)); exact Kd.N_mono HO217.out (fun _ hk => ⟨⟨hk.1.1.1, ⟨hk.1.1.2.2, ⟨hk.1.2, hk.2⟩⟩⟩, hk.1.1.2.1⟩)) hg hat)
                                                  have n5_ := Aside0.mk (Kd.R_after (ok := (fun k_ => (w.heap.size ≤ k_) ∧ some k_ ≠ (.slice Ao53 x8_3.length co53 : Value).ownBlock ∧ some k_ ≠ (.slice Ao60 y219.length co60 : Value).ownBlock)) (by (with_reducible repeat (first | apply Kd.R_alloc | apply Kd.R_drewN | apply Kd.R_drew)); exact Kd.R_mono HO228.out (fun _ hk => ⟨⟨hk.1.1.1.1, ⟨hk.1.2, hk.2⟩⟩, hk.1.1.2⟩)) hg hat)
                                                  have n6_ := Aside0.mk (Kd.R_after (ok := (fun k_ => (w.heap.size ≤ k_) ∧ some k_ ≠ (.slice Ao53 x8_3.length co53 : Value).ownBlock ∧ some k_ ≠ (v227 : Value).ownBlock)) (by (with_reducible repeat (first | apply Kd.R_alloc | apply Kd.R_drewN | apply Kd.R_drew)); exact Kd.R_mono HO221.out (fun _ hk => ⟨⟨hk.1.1.1.1, ⟨hk.1.2, hk.2⟩⟩, hk.1.1.2⟩)) hg hat)
                                                  have n7_ := Aside0.mk (hb)
                                                  have n8_ := Aside0.mk (ho)
                                                  clear HO_0
                                                  clear HO_8
                                                  clear HL211_0
                                                  clear HO214
                                                  clear HO217
                                                  clear HO228
                                                  clear HO221
                                                  clear HB
                                                  clear HO_7
                                                  have HO_0 := n0_
                                                  have HO_8 := n1_
                                                  have HL211_0 := n2_
                                                  have HO214 := n3_
                                                  have HO217 := n4_
                                                  have HO228 := n5_
                                                  have HO221 := n6_
                                                  have HB := n7_
                                                  have HO224 := n8_
                                                  clear n0_ n1_ n2_ n3_ n4_ n5_ n6_ n7_ n8_
                                                  clear ho hb hg hat
                                                  refine hK.out _ _ ⟨((HB.out.cell (World.block_lt_of_cell? w _ hw218_0)).trans hw218_0), ((HB.out.cell (World.block_lt_of_cell? w _ hw225_0)).trans hw225_0)⟩ (fun hHeld => ?_)
                                                  clear hK K
                                                  refine norm_ (a' := ?_) ?_ ?_
                                                  rotate_left
                                                  · show Act.put _ (some 123) _ = _
                                                    simp only [Act.put, List.setIfInBounds_toArray, List.set_cons_zero, List.set_cons_succ, i64_w, i32_w]
                                                    rfl
                                                  exact norm_ (by simp only [putAll, Act.put, List.setIfInBounds_toArray, List.set_cons_zero, List.set_cons_succ]) (hCont (.slice Ao60 y219.length co60, v223, v227) _ ⟨hHeld, (by (with_reducible repeat (first | apply Kd.V_alloc | apply Kd.V_drewN | apply Kd.V_drew)); exact Kd.V_mono HL211_0.out (fun _ hk => ⟨hk.1.1, ⟨hk.1.2.2.1, ⟨hk.1.2.2.2.1, ⟨hk.1.2.2.2.2.2, ⟨hk.2, ⟨hk.1.2.2.2.2.1, hk.1.2.1⟩⟩⟩⟩⟩⟩)), (by (with_reducible repeat (first | apply Kd.N_alloc | apply Kd.N_drewN | apply Kd.N_drew)); exact Kd.N_mono HO214.out (fun _ hk => ⟨hk.1.1, ⟨hk.1.2.2.1, ⟨hk.1.2.2.2.2, ⟨hk.2, ⟨hk.1.2.2.2.1, hk.1.2.1⟩⟩⟩⟩⟩)), (by (with_reducible repeat (first | apply Kd.N_alloc | apply Kd.N_drewN | apply Kd.N_drew)); exact Kd.N_mono HO217.out (fun _ hk => ⟨hk.1.1, ⟨hk.1.2.2.2, ⟨hk.2, ⟨hk.1.2.2.1, hk.1.2.1⟩⟩⟩⟩)), (by (with_reducible repeat (first | apply Kd.R_alloc | apply Kd.R_drewN | apply Kd.R_drew)); exact Kd.R_mono HO221.out (fun _ hk => ⟨hk.1.1, ⟨hk.2, ⟨hk.1.2.2, hk.1.2.1⟩⟩⟩)), (by (with_reducible repeat (first | apply Kd.R_alloc | apply Kd.R_drewN | apply Kd.R_drew)); exact Kd.R_mono HO224.out (fun _ hk => ⟨hk.1, ⟨hk.2.2.2, ⟨hk.2.2.1, hk.2.1⟩⟩⟩)), (by (with_reducible repeat (first | apply Kd.R_alloc | apply Kd.R_drewN | apply Kd.R_drew)); exact Kd.R_mono HO228.out (fun _ hk => ⟨hk.1.1, ⟨hk.1.2.2, ⟨hk.2, hk.1.2.1⟩⟩⟩)), (by (with_reducible repeat (first | apply Kd.V_alloc | apply Kd.V_drewN | apply Kd.V_drew)); exact Kd.V_mono HO_0.out (fun _ hk => ⟨hk.1.1, ⟨hk.1.2.2.1, ⟨hk.1.2.2.2.1, ⟨hk.1.2.2.2.2.2, ⟨hk.2, ⟨hk.1.2.2.2.2.1, hk.1.2.1⟩⟩⟩⟩⟩⟩)), (by (with_reducible repeat (first | apply Kd.R_alloc | apply Kd.R_drewN | apply Kd.R_drew)); exact Kd.R_mono HO_8.out (fun _ hk => ⟨hk.1.1, ⟨hk.1.2.2, ⟨hk.2, hk.1.2.1⟩⟩⟩)), (by repeat (first | (with_reducible first | exact HB.out | apply below_alloc | apply pw_below_drewN | apply below_drew1) | exact HB.out))⟩)
                                              rintro ⟨v220, v223, v227⟩ w61 ⟨hS_, h0_, h1_, h2_, h3_, h4_, h5_, h6_, h7_, h8_⟩
                                              have n0_ : Aside0 (Kd.V (Kd.int .i64) 3 w61 w.heap.size (fun k_ => (P0_ k_ ∨ w.heap.size ≤ k_) ∧ some k_ ≠ (.slice Ao51 y212.length co51 : Value).ownBlock ∧ some k_ ≠ (v216 : Value).ownBlock ∧ some k_ ≠ (v220 : Value).ownBlock ∧ some k_ ≠ (v223 : Value).ownBlock ∧ some k_ ≠ (v227 : Value).ownBlock ∧ some k_ ≠ (.slice Ao53 x8_3.length co53 : Value).ownBlock) (.slice A211_0 ((rd_T27 l0 (ji39)).f0).length c211_0) ((rd_T27 l0 (ji39)).f0)) := ⟨h0_⟩
                                              have n1_ : Aside0 (Kd.N k27 27 w61 w.heap.size (fun k_ => (P0_ k_ ∨ w.heap.size ≤ k_) ∧ some k_ ≠ (v216 : Value).ownBlock ∧ some k_ ≠ (v220 : Value).ownBlock ∧ some k_ ≠ (v223 : Value).ownBlock ∧ some k_ ≠ (v227 : Value).ownBlock ∧ some k_ ≠ (.slice Ao53 x8_3.length co53 : Value).ownBlock) (.slice Ao51 y212.length co51) y212) := ⟨h1_⟩
                                              have n2_ : Aside0 (Kd.N k27 27 w61 w.heap.size (fun k_ => (P0_ k_ ∨ w.heap.size ≤ k_) ∧ some k_ ≠ (v220 : Value).ownBlock ∧ some k_ ≠ (v223 : Value).ownBlock ∧ some k_ ≠ (v227 : Value).ownBlock ∧ some k_ ≠ (.slice Ao53 x8_3.length co53 : Value).ownBlock) v216 y215) := ⟨h2_⟩
                                              have n3_ : Aside0 (Kd.R (Kd.int .i64) 3 w61 w.heap.size (fun k_ => (w.heap.size ≤ k_) ∧ some k_ ≠ (v223 : Value).ownBlock ∧ some k_ ≠ (v227 : Value).ownBlock ∧ some k_ ≠ (.slice Ao53 x8_3.length co53 : Value).ownBlock) v220 y219) := ⟨h3_⟩
                                              have n4_ : Aside0 (Kd.R (Kd.int .i64) 3 w61 w.heap.size (fun k_ => (w.heap.size ≤ k_) ∧ some k_ ≠ (v220 : Value).ownBlock ∧ some k_ ≠ (v227 : Value).ownBlock ∧ some k_ ≠ (.slice Ao53 x8_3.length co53 : Value).ownBlock) v223 y222) := ⟨h4_⟩
                                              have n5_ : Aside0 (Kd.R (Kd.int .i64) 3 w61 w.heap.size (fun k_ => (w.heap.size ≤ k_) ∧ some k_ ≠ (v220 : Value).ownBlock ∧ some k_ ≠ (v223 : Value).ownBlock ∧ some k_ ≠ (.slice Ao53 x8_3.length co53 : Value).ownBlock) v227 y226) := ⟨h5_⟩
                                              have n6_ : Aside0 (Kd.V k27 27 w61 w.heap.size (fun k_ => (P0_ k_ ∨ w.heap.size ≤ k_) ∧ some k_ ≠ (.slice Ao51 y212.length co51 : Value).ownBlock ∧ some k_ ≠ (v216 : Value).ownBlock ∧ some k_ ≠ (v220 : Value).ownBlock ∧ some k_ ≠ (v223 : Value).ownBlock ∧ some k_ ≠ (v227 : Value).ownBlock ∧ some k_ ≠ (.slice Ao53 x8_3.length co53 : Value).ownBlock) (.slice (some ad211) l0.length c0) l0) := ⟨h6_⟩
                                              have n7_ : Aside0 (Kd.R (Kd.int .i64) 3 w61 w.heap.size (fun k_ => (w.heap.size ≤ k_) ∧ some k_ ≠ (v220 : Value).ownBlock ∧ some k_ ≠ (v223 : Value).ownBlock ∧ some k_ ≠ (v227 : Value).ownBlock) (.slice Ao53 x8_3.length co53) x8_3) := ⟨h7_⟩
                                              have n8_ : Aside0 (Below w.heap.size w w61) := ⟨h8_⟩
                                              clear HO_0
                                              clear HO_7
                                              clear HO_8
                                              clear HL211_0
                                              clear HO214
                                              clear HO217
                                              clear HB
                                              clear h0_ h1_ h2_ h3_ h4_ h5_ h6_ h7_ h8_
                                              have HL211_0 := n0_
                                              have HO214 := n1_
                                              have HO217 := n2_
                                              have HO221 := n3_
                                              have HO224 := n4_
                                              have HO228 := n5_
                                              have HO_0 := n6_
                                              have HO_8 := n7_
                                              have HB := n8_
                                              clear n0_ n1_ n2_ n3_ n4_ n5_ n6_ n7_ n8_
                                              have hHeld : w61.cell? (ad218.add (x9_3).toNat) = some (.int .u8 (rd l1 x9_3)) ∧ w61.cell? (ad218.add ((ji39)).toNat) = some (.int .u8 (rd l1 (ji39))) := hS_
                                              obtain ⟨Ao63, co63, eo63⟩ := Kd.R_slice HO228.out
                                              (first | subst eo63 | (injection eo63 with f1_ f2_ f3_; have f4_ := f1_.symm; have f5_ := f3_.symm; clear f1_ f2_ f3_; subst f4_; subst f5_))
                                              refine norm_ (a' := ?_) ?_ ?_
                                              rotate_left
                                              · simp only [putAll, Act.put, List.setIfInBounds_toArray, List.set_cons_zero, List.set_cons_succ]
                                                rfl
                                              refine one_ (i := 15) (N := some 131) #[true, true, true, true, true, true, true, true, true, true, true, true, true, true, true, true, false, false] rfl rfl (one_of HT_.out (by kernel_rfl)) (by decide) (fun K hK => ?_)
                                              refine Kd.R_append_rows_step (Kd.int .i64) (w0 := w) w.heap.size (by rfl) (.tmp 124) (.tmp 130) 23 3 (.int .i64 0) 8 rfl Try.underlying23 info3 rfl (by decide) (by omega) (.slice Ao53 x8_3.length co53) x8_3 y226 _ _ _ (fun k_ => (w.heap.size ≤ k_) ∧ some k_ ≠ (v220 : Value).ownBlock ∧ some k_ ≠ (v223 : Value).ownBlock ∧ some k_ ≠ (.slice Ao63 y226.length co63 : Value).ownBlock) (fun _ => False) rfl rfl ?aO ?aR (fun _ _ h => h) (fun _ h => h.elim) ?aF ?aB ?aS ?aL ?_
                                              (case aR => repeat (first | exact (Kd.R_reads' HO228.out).2.2 | (with_reducible refine Kd.C_alloc ?_ _) | (with_reducible refine Kd.C_drewN ?_ _) | (with_reducible refine Kd.C_drew ?_)))
                                              (case aB => exact (by repeat (first | (with_reducible first | exact HB.out | apply below_alloc | apply pw_below_drewN | apply below_drew1) | exact HB.out)))
                                              (case aF => exact (fun k_ hk => ⟨(Nat.le_trans (below_size (by repeat (first | (with_reducible first | exact HB.out | apply below_alloc | apply pw_below_drewN | apply below_drew1) | exact HB.out))) hk), Kd.fresh' (Kd.R_lt (by (with_reducible repeat (first | apply Kd.R_alloc | apply Kd.R_drewN | apply Kd.R_drew)); exact HO221.out)) k_ hk, Kd.fresh' (Kd.R_lt (by (with_reducible repeat (first | apply Kd.R_alloc | apply Kd.R_drewN | apply Kd.R_drew)); exact HO224.out)) k_ hk, Kd.fresh' (Kd.R_lt (by (with_reducible repeat (first | apply Kd.R_alloc | apply Kd.R_drewN | apply Kd.R_drew)); exact HO228.out)) k_ hk⟩))
                                              (case aO => exact (by (with_reducible repeat (first | apply Kd.R_alloc | apply Kd.R_drewN | apply Kd.R_drew)); exact HO_8.out))
                                              (case aS => exact (below_size (by repeat (first | (with_reducible first | exact HB.out | apply below_alloc | apply pw_below_drewN | apply below_drew1) | exact HB.out))))
                                              (case aL => have := LMc47.out; omega)
                                              intro v230 w62 ho hb hg hat
                                              rw [← Ny229.out] at ho
                                              have n0_ := Aside0.mk (Kd.V_afterv (ok := (fun k_ => (P0_ k_ ∨ w.heap.size ≤ k_) ∧ some k_ ≠ (.slice Ao51 y212.length co51 : Value).ownBlock ∧ some k_ ≠ (v216 : Value).ownBlock ∧ some k_ ≠ (v220 : Value).ownBlock ∧ some k_ ≠ (v223 : Value).ownBlock ∧ some k_ ≠ (.slice Ao63 y226.length co63 : Value).ownBlock)) (by (with_reducible repeat (first | apply Kd.V_alloc | apply Kd.V_drewN | apply Kd.V_drew)); exact Kd.V_mono HO_0.out (fun _ hk => ⟨⟨hk.1, ⟨hk.2.1, ⟨hk.2.2.1, ⟨hk.2.2.2.1, ⟨hk.2.2.2.2.1, hk.2.2.2.2.2.1⟩⟩⟩⟩⟩, hk.2.2.2.2.2.2⟩)) hg hat)
                                              have n1_ := Aside0.mk (Kd.V_afterv (ok := (fun k_ => (P0_ k_ ∨ w.heap.size ≤ k_) ∧ some k_ ≠ (.slice Ao51 y212.length co51 : Value).ownBlock ∧ some k_ ≠ (v216 : Value).ownBlock ∧ some k_ ≠ (v220 : Value).ownBlock ∧ some k_ ≠ (v223 : Value).ownBlock ∧ some k_ ≠ (.slice Ao63 y226.length co63 : Value).ownBlock)) (by (with_reducible repeat (first | apply Kd.V_alloc | apply Kd.V_drewN | apply Kd.V_drew)); exact Kd.V_mono HL211_0.out (fun _ hk => ⟨⟨hk.1, ⟨hk.2.1, ⟨hk.2.2.1, ⟨hk.2.2.2.1, ⟨hk.2.2.2.2.1, hk.2.2.2.2.2.1⟩⟩⟩⟩⟩, hk.2.2.2.2.2.2⟩)) hg hat)
                                              have n2_ := Aside0.mk (Kd.N_afterv (ok := (fun k_ => (P0_ k_ ∨ w.heap.size ≤ k_) ∧ some k_ ≠ (v216 : Value).ownBlock ∧ some k_ ≠ (v220 : Value).ownBlock ∧ some k_ ≠ (v223 : Value).ownBlock ∧ some k_ ≠ (.slice Ao63 y226.length co63 : Value).ownBlock)) (by (with_reducible repeat (first | apply Kd.N_alloc | apply Kd.N_drewN | apply Kd.N_drew)); exact Kd.N_mono HO214.out (fun _ hk => ⟨⟨hk.1, ⟨hk.2.1, ⟨hk.2.2.1, ⟨hk.2.2.2.1, hk.2.2.2.2.1⟩⟩⟩⟩, hk.2.2.2.2.2⟩)) hg hat)
                                              have n3_ := Aside0.mk (Kd.N_afterv (ok := (fun k_ => (P0_ k_ ∨ w.heap.size ≤ k_) ∧ some k_ ≠ (v220 : Value).ownBlock ∧ some k_ ≠ (v223 : Value).ownBlock ∧ some k_ ≠ (.slice Ao63 y226.length co63 : Value).ownBlock)) (by (with_reducible repeat (first | apply Kd.N_alloc | apply Kd.N_drewN | apply Kd.N_drew)); exact Kd.N_mono HO217.out (fun _ hk => ⟨⟨hk.1, ⟨hk.2.1, ⟨hk.2.2.1, hk.2.2.2.1⟩⟩⟩, hk.2.2.2.2⟩)) hg hat)
                                              have n4_ := Aside0.mk (Kd.R_after (ok := (fun k_ => (w.heap.size ≤ k_) ∧ some k_ ≠ (v223 : Value).ownBlock ∧ some k_ ≠ (.slice Ao63 y226.length co63 : Value).ownBlock)) (by (with_reducible repeat (first | apply Kd.R_alloc | apply Kd.R_drewN | apply Kd.R_drew)); exact Kd.R_mono HO221.out (fun _ hk => ⟨⟨hk.1, ⟨hk.2.1, hk.2.2.1⟩⟩, hk.2.2.2⟩)) hg hat)
                                              have n5_ := Aside0.mk (Kd.R_after (ok := (fun k_ => (w.heap.size ≤ k_) ∧ some k_ ≠ (v220 : Value).ownBlock ∧ some k_ ≠ (.slice Ao63 y226.length co63 : Value).ownBlock)) (by (with_reducible repeat (first | apply Kd.R_alloc | apply Kd.R_drewN | apply Kd.R_drew)); exact Kd.R_mono HO224.out (fun _ hk => ⟨⟨hk.1, ⟨hk.2.1, hk.2.2.1⟩⟩, hk.2.2.2⟩)) hg hat)
                                              have n6_ := Aside0.mk (Kd.R_after (ok := (fun k_ => (w.heap.size ≤ k_) ∧ some k_ ≠ (v220 : Value).ownBlock ∧ some k_ ≠ (v223 : Value).ownBlock)) (by (with_reducible repeat (first | apply Kd.R_alloc | apply Kd.R_drewN | apply Kd.R_drew)); exact Kd.R_mono HO228.out (fun _ hk => ⟨⟨hk.1, ⟨hk.2.1, hk.2.2.1⟩⟩, hk.2.2.2⟩)) hg hat)
                                              have n7_ := Aside0.mk (hb)
                                              have n8_ := Aside0.mk (ho)
                                              clear HO_0
                                              clear HL211_0
                                              clear HO214
                                              clear HO217
                                              clear HO221
                                              clear HO224
                                              clear HO228
                                              clear HB
                                              clear HO_8
                                              have HO_0 := n0_
                                              have HL211_0 := n1_
                                              have HO214 := n2_
                                              have HO217 := n3_
                                              have HO221 := n4_
                                              have HO224 := n5_
                                              have HO228 := n6_
                                              have HB := n7_
                                              have HO231 := n8_
                                              clear n0_ n1_ n2_ n3_ n4_ n5_ n6_ n7_ n8_
                                              clear ho hb hg hat
                                              refine hK.out _ _ ⟨((HB.out.cell (World.block_lt_of_cell? w _ hw218_0)).trans hw218_0), ((HB.out.cell (World.block_lt_of_cell? w _ hw225_0)).trans hw225_0)⟩ (fun hHeld => ?_)
                                              clear hK K
                                              refine norm_ (a' := ?_) ?_ ?_
                                              rotate_left
                                              · show Act.put _ (some 131) _ = _
                                                simp only [Act.put, List.setIfInBounds_toArray, List.set_cons_zero, List.set_cons_succ, i64_w, i32_w]
                                                rfl
                                              refine pure_ (i := 16) (N := some 7) (v := ?_) (a' := ?_) #[true, true, true, true, true, true, true, true, true, true, true, true, true, true, true, true, true, false] rfl rfl (any_of HT_.out (by kernel_rfl)) (fun _ _ _ h => h) (Or.inl ⟨by rfl, ?_⟩) ?_ ?_
                                              rotate_left
                                              · intro w'
                                                go_simp
                                                with_reducible rfl
                                              rotate_left
                                              · simp only [Act.put, List.setIfInBounds_toArray, List.set_cons_zero, List.set_cons_succ, i64_w, i32_w]
                                                rfl
                                              refine pure_ (i := 17) (N := some 8) (v := ?_) (a' := ?_) #[true, true, true, true, true, true, true, true, true, true, true, true, true, true, true, true, true, true] rfl rfl (any_of HT_.out (by kernel_rfl)) (fun _ _ _ h => h) (Or.inl ⟨by rfl, ?_⟩) ?_ ?_
                                              rotate_left
                                              · intro w'
                                                go_simp
                                                with_reducible rfl
                                              rotate_left
                                              · simp only [Act.put, List.setIfInBounds_toArray, List.set_cons_zero, List.set_cons_succ, i64_w, i32_w]
                                                rfl
                                              refine done_ (done_of HT_.out (by kernel_rfl)) ?_
                                              try go_wp2
                                              go_roundg k5
                                              case measure => have := HJ2.out; have := HJ9.out; have := HK3.out; have := HJ19.out; have := HK5.out; omega
                                              case rel => exact ⟨(y215), (y222), (y229), (wrap64 (x9_3 + 1)), (by first | rfl | (simp; done) | (simp [*]; done)), H', ⟨by have := HJ2.out; have := HJ9.out; have := HK3.out; have := HJ19.out; have := HK5.out; omega⟩, ⟨by (with_reducible repeat (first | apply Kd.V_alloc | apply Kd.V_drewN | apply Kd.V_drew)); exact Kd.V_mono HO_0.out (fun _ hk => ⟨hk.1.1, ⟨hk.1.2.2.1, ⟨hk.1.2.2.2.2.1, hk.2⟩⟩⟩)⟩, ⟨by (with_reducible repeat (first | apply Kd.N_alloc | apply Kd.N_drewN | apply Kd.N_drew)); exact Kd.N_mono HO217.out (fun _ hk => ⟨hk.1.1, ⟨hk.1.2.2.1, hk.2⟩⟩)⟩, ⟨by (with_reducible repeat (first | apply Kd.R_alloc | apply Kd.R_drewN | apply Kd.R_drew)); exact Kd.R_mono HO224.out (fun _ hk => ⟨hk.1.1, hk.2⟩)⟩, ⟨by (with_reducible repeat (first | apply Kd.R_alloc | apply Kd.R_drewN | apply Kd.R_drew)); exact Kd.R_mono HO231.out (fun _ hk => ⟨hk.1, hk.2.2.1⟩)⟩, ⟨by repeat (first | (with_reducible first | exact HB.out | apply below_alloc | apply pw_below_drewN | apply below_drew1) | exact HB.out)⟩⟩
                                            · rw [if_neg c47] at H
                                              exact absurd H (by simp)
                                          · rw [if_neg c46] at H
                                            exact absurd H (by simp)
                                        · rw [if_neg c45] at H
                                          exact absurd H (by simp)
                                      · rw [if_neg c44] at H
                                        exact absurd H (by simp)
                                    · rw [if_neg c43] at H
                                      exact absurd H (by simp)
                                  · rw [if_neg c42] at H
                                    exact absurd H (by simp)
                                · rw [if_neg c41] at H
                                  exact absurd H (by simp)
                              · rw [if_neg c40] at H
                                exact absurd H (by simp)
                · rw [if_neg c19] at H
                  have c19b0 : decide (x9_3 < (l0.length : Int)) = false := decide_eq_false c19
                  clear c19
                  replace H := Option.bind_eq_some_iff.mp H
                  obtain ⟨⟨t232, t235, t236⟩, A640, H⟩ := H
                  replace H : ((lin_Sum.f k3 x6_3 x8_3 x5_9).bind fun bt238 => ((plimsolllaw14_awake.f k3).bind fun t244 => (if t244 = true then (if t236 = 0 then (if bt238.2.2 = 0 then ((plimsollref14_Same.f k3 t232 t235 bt238.1 bt238.2.1).bind fun t245 => (some t245)) else (some false)) else (some false)) else (some false)))) = some r := H
                  have A64 := Aside0.mk A640
                  clear A640
                  replace H := Option.bind_eq_some_iff.mp H
                  obtain ⟨⟨t238, t241, t242⟩, A650, H⟩ := H
                  replace H : ((plimsolllaw14_awake.f k3).bind fun t244 => (if t244 = true then (if t236 = 0 then (if t242 = 0 then ((plimsollref14_Same.f k3 t232 t235 t238 t241).bind fun t245 => (some t245)) else (some false)) else (some false)) else (some false))) = some r := H
                  have A65 := Aside0.mk A650
                  clear A650
                  replace H := Option.bind_eq_some_iff.mp H
                  obtain ⟨t244, A660, H⟩ := H
                  replace H : (if t244 = true then (if t236 = 0 then (if t242 = 0 then ((plimsollref14_Same.f k3 t232 t235 t238 t241).bind fun t245 => (some t245)) else (some false)) else (some false)) else (some false)) = some r := H
                  have A66 := Aside0.mk A660
                  clear A660
                  by_cases c67 : t244 = true
                  · subst c67
                    have H1 : (if t236 = 0 then (if t242 = 0 then ((plimsollref14_Same.f k3 t232 t235 t238 t241).bind fun t245 => (some t245)) else (some false)) else (some false)) = some r := by rw [if_pos rfl] at H; exact H
                    clear H
                    have H := H1
                    clear H1
                    by_cases c68 : t236 = 0
                    · rw [if_pos c68] at H
                      have c68b0 : (t236 == 0) = true := beq_iff_eq.mpr c68
                      have c68b1 : (t236 != 0) = false := bne_eq_false_iff_eq.mpr c68
                      clear c68
                      by_cases c69 : t242 = 0
                      · rw [if_pos c69] at H
                        have c69b0 : (t242 == 0) = true := beq_iff_eq.mpr c69
                        have c69b1 : (t242 != 0) = false := bne_eq_false_iff_eq.mpr c69
                        clear c69
                        replace H := Option.bind_eq_some_iff.mp H
                        obtain ⟨t245, A700, H⟩ := H
                        replace H : (some t245) = some r := H
                        have A70 := Aside0.mk A700
                        clear A700
                        obtain rfl := Option.some.inj H
                        obtain ⟨Ao71, co71, eo71⟩ := Kd.R_slice HO_7.out
                        subst eo71
                        go_wp2_with (first | ((with_reducible refine gate_callee (f := 11) rfl ?_); refine goesL_ (some 136) rfl rfl Try.func11 (by kernel_rfl) rfl #[.slice A0 l0.length c0, .slice Ao71 x7_3.length co71, .int .i64 x5_9] rfl (by (try simp only [List.map_toArray, List.map_cons, List.map_nil]); first | done | rfl | (simp only [List.length_drop, List.length_take]; rfl)) ?_; (with_reducible refine (lin_Sum.calls k3 _ _ l0 _ _ x7_3 x5_9 t232 t235 t236 _ ?side1 ?side2 ?side3 ?side4 A64.out).mono ?_); (case side1 => repeat (first | exact (Kd.V_reads' HO_0.out).2.2 | (with_reducible refine Kd.C_alloc ?_ _) | (with_reducible refine Kd.C_drewN ?_ _) | (with_reducible refine Kd.C_drew ?_))); (case side2 => exact (Kd.V_reads' HO_0.out).2.1); (case side3 => repeat (first | exact (Kd.R_reads' HO_7.out).2.2 | (with_reducible refine Kd.C_alloc ?_ _) | (with_reducible refine Kd.C_drewN ?_ _) | (with_reducible refine Kd.C_drew ?_))); (case side4 => exact (Kd.R_reads' HO_7.out).2.1); rintro e w72 ⟨v233, rfl, ho0, hb⟩; refine ⟨_, rfl, ?_⟩; have n0_ := Aside0.mk (Kd.V_elder' (by (with_reducible repeat (first | apply Kd.V_alloc | apply Kd.V_drewN | apply Kd.V_drew)); exact HO_0.out) (Kd.R_base ho0) hb); have n1_ := Aside0.mk (Kd.N_elder' (by (with_reducible repeat (first | apply Kd.N_alloc | apply Kd.N_drewN | apply Kd.N_drew)); exact HO_6.out) (Kd.R_base ho0) hb); have n2_ := Aside0.mk (Kd.R_elder' (by (with_reducible repeat (first | apply Kd.R_alloc | apply Kd.R_drewN | apply Kd.R_drew)); exact HO_7.out) (Kd.R_base ho0) hb); have n3_ := Aside0.mk (Kd.R_elder' (by (with_reducible repeat (first | apply Kd.R_alloc | apply Kd.R_drewN | apply Kd.R_drew)); exact HO_8.out) (Kd.R_base ho0) hb); have n4_ := Aside0.mk (Kd.R_lower (Kd.R_new' (Kd.R_new' (Kd.R_newM (M := fun k_ => (w.heap.size ≤ k_)) ho0 (below_size (by repeat (first | (with_reducible first | exact HB.out | apply below_alloc | apply pw_below_drewN | apply below_drew1) | exact HB.out))) (fun k_ h_ => h_)) (Kd.R_lt (by (with_reducible repeat (first | apply Kd.R_alloc | apply Kd.R_drewN | apply Kd.R_drew)); exact HO_7.out))) (Kd.R_lt (by (with_reducible repeat (first | apply Kd.R_alloc | apply Kd.R_drewN | apply Kd.R_drew)); exact HO_8.out))) (below_size (by repeat (first | (with_reducible first | exact HB.out | apply below_alloc | apply pw_below_drewN | apply below_drew1) | exact HB.out)))); have n5_ := Aside0.mk (below_step (by repeat (first | (with_reducible first | exact HB.out | apply below_alloc | apply pw_below_drewN | apply below_drew1) | exact HB.out)) hb); clear HO_0; clear HO_6; clear HO_7; clear HO_8; clear HB; have HO_0 := n0_; have HO_6 := n1_; have HO_7 := n2_; have HO_8 := n3_; have HO234 := n4_; have HB := n5_; clear n0_ n1_ n2_ n3_ n4_ n5_; (try clear hb); (try clear hb2); (try clear hk); (try clear hi); (try clear ho0)) | ((with_reducible refine gate_dst (N := 12) rfl ?_); (try (refine gate_guard (by rfl) ?_; dsimp only)); refine box_event ?hg (N := 12) ?hd (cs := #[.slice none 0 0, .int .i64 0]) (t := 27) ?hr ?_; (case hd => rfl); (case hg => rfl); (case hr => first | (go_simp; done) | (go_simp; rfl)); intro gb237 hg w73 hbox hb; have n0_ := Aside0.mk (Kd.V_below (Kd.V_elderB (by (with_reducible repeat (first | apply Kd.V_alloc | apply Kd.V_drewN | apply Kd.V_drew)); exact HO_0.out) gb237 (Nat.le_of_eq hg.symm)) hb); have n1_ := Aside0.mk (Kd.N_below (Kd.N_elderB (by (with_reducible repeat (first | apply Kd.N_alloc | apply Kd.N_drewN | apply Kd.N_drew)); exact HO_6.out) gb237 (Nat.le_of_eq hg.symm)) hb); have n2_ := Aside0.mk (Kd.R_below (by (with_reducible repeat (first | apply Kd.R_alloc | apply Kd.R_drewN | apply Kd.R_drew)); exact HO_7.out) hb); have n3_ := Aside0.mk (Kd.R_below (by (with_reducible repeat (first | apply Kd.R_alloc | apply Kd.R_drewN | apply Kd.R_drew)); exact HO_8.out) hb); have n4_ := Aside0.mk (Kd.R_below (by (with_reducible repeat (first | apply Kd.R_alloc | apply Kd.R_drewN | apply Kd.R_drew)); exact HO234.out) hb); have n5_ := Aside0.mk (below_step (by repeat (first | (with_reducible first | exact HB.out | apply below_alloc | apply pw_below_drewN | apply below_drew1) | exact HB.out)) hb); have n6_ := Aside0.mk (hbox); have n7_ := Aside0.mk ((by rw [hg]; exact (below_size (by repeat (first | (with_reducible first | exact HB.out | apply below_alloc | apply pw_below_drewN | apply below_drew1) | exact HB.out))) : w.heap.size ≤ gb237)); have n8_ := Aside0.mk ((by rw [hg]; exact (below_size (by repeat (first | (with_reducible first | exact HB.out | apply below_alloc | apply pw_below_drewN | apply below_drew1) | exact HB.out))) : w.heap.size ≤ gb237)); clear HO_0; clear HO_6; clear HO_7; clear HO_8; clear HO234; clear HB; have HO_0 := n0_; have HO_6 := n1_; have HO_7 := n2_; have HO_8 := n3_; have HO234 := n4_; have HB := n5_; have BK237 := n6_; have GW237 := n7_; have GE237 := n8_; clear n0_ n1_ n2_ n3_ n4_ n5_ n6_ n7_ n8_; clear hb hbox hg; obtain ⟨Ao74, co74, eo74⟩ := Kd.R_slice HO234.out; subst eo74; have hcz75_0 : w73.cell? ⟨gb237, 0, none⟩ = some (.slice none 0 0) := (blk_cell BK237.out 0).trans rfl; have hcz75_1 : w73.cell? ⟨gb237, 1, none⟩ = some (.int .i64 0) := (blk_cell BK237.out 1).trans rfl; have hfz75_0 := blk_frozen BK237.out 0; have hfz75_1 := blk_frozen BK237.out 1; obtain ⟨Ao76, co76, eo76⟩ := Kd.N_slice HO_6.out; subst eo76; obtain ⟨Ao77, co77, eo77⟩ := Kd.R_slice HO_8.out; subst eo77) | ((with_reducible refine gate_callee (f := 11) rfl ?_); refine goesL_ (some 143) rfl rfl Try.func11 (by kernel_rfl) rfl #[.slice Ao76 x6_3.length co76, .slice Ao77 x8_3.length co77, .int .i64 x5_9] rfl (by (try simp only [List.map_toArray, List.map_cons, List.map_nil]); first | done | rfl | (simp only [List.length_drop, List.length_take]; rfl)) ?_; (with_reducible refine (lin_Sum.calls k3 _ _ x6_3 _ _ x8_3 x5_9 t238 t241 t242 _ ?side1 ?side2 ?side3 ?side4 A65.out).mono ?_); (case side1 => refine (Kd.N_reads' (e := 27) (base := w.heap.size) (ok := fun k_ => ((((P0_ k_ ∨ w.heap.size ≤ k_) ∧ (some k_ ≠ (.slice Ao71 x7_3.length co71 : Value).ownBlock ∧ some k_ ≠ (.slice Ao77 x8_3.length co77 : Value).ownBlock)) ∧ some k_ ≠ (.slice Ao74 t232.length co74 : Value).ownBlock) ∧ k_ ≠ gb237)) (n := x6_3.length) (c := co76) ?_).2.2; exact (by (with_reducible repeat (first | apply Kd.N_alloc | apply Kd.N_drewN | apply Kd.N_drew)); exact (Kd.N_mono (Kd.N_far (p := ⟨gb237, 1, none⟩) (Kd.N_far (p := ⟨gb237, 0, none⟩) (Kd.N_mono HO_6.out (fun k_ hk => (⟨hk, hk.2⟩ : _ ∧ k_ ≠ gb237))) (fun _ hk => hk.2) (.slice Ao74 t232.length co74)) (fun _ hk => hk.2) (.int .i64 t235)) (fun _ h_ => h_.1)))); (case side2 => exact (Kd.N_reads' HO_6.out).2.1); (case side3 => refine (Kd.R_reads' (e := 3) (base := w.heap.size) (ok := fun k_ => (((w.heap.size ≤ k_) ∧ some k_ ≠ (.slice Ao71 x7_3.length co71 : Value).ownBlock) ∧ some k_ ≠ (.slice Ao74 t232.length co74 : Value).ownBlock)) (n := x8_3.length) (c := co77) ?_).2.2; exact (by (with_reducible repeat (first | apply Kd.R_alloc | apply Kd.R_drewN | apply Kd.R_drew)); exact (Kd.R_mono (Kd.R_far (p := ⟨gb237, 1, none⟩) (Kd.R_far (p := ⟨gb237, 0, none⟩) (Kd.R_types HO_8.out BK237.out (by decide)) (fun _ hk => hk.2) (.slice Ao74 t232.length co74)) (fun _ hk => hk.2) (.int .i64 t235)) (fun _ h_ => h_.1)))); (case side4 => exact (Kd.R_reads' HO_8.out).2.1); rintro e w78 ⟨v239, rfl, ho0, hb⟩; refine ⟨_, rfl, ?_⟩; have n0_ := Aside0.mk (Kd.V_elder' (by (with_reducible repeat (first | apply Kd.V_alloc | apply Kd.V_drewN | apply Kd.V_drew)); exact (Kd.V_mono (Kd.V_far (p := ⟨gb237, 1, none⟩) (Kd.V_far (p := ⟨gb237, 0, none⟩) (Kd.V_mono HO_0.out (fun k_ hk => (⟨hk, hk.2⟩ : _ ∧ k_ ≠ gb237))) (fun _ hk => hk.2) (.slice Ao74 t232.length co74)) (fun _ hk => hk.2) (.int .i64 t235)) (fun _ h_ => h_.1))) (Kd.R_base ho0) hb); have n1_ := Aside0.mk (Kd.N_elder' (by (with_reducible repeat (first | apply Kd.N_alloc | apply Kd.N_drewN | apply Kd.N_drew)); exact (Kd.N_mono (Kd.N_far (p := ⟨gb237, 1, none⟩) (Kd.N_far (p := ⟨gb237, 0, none⟩) (Kd.N_mono HO_6.out (fun k_ hk => (⟨hk, hk.2⟩ : _ ∧ k_ ≠ gb237))) (fun _ hk => hk.2) (.slice Ao74 t232.length co74)) (fun _ hk => hk.2) (.int .i64 t235)) (fun _ h_ => h_.1))) (Kd.R_base ho0) hb); have n2_ := Aside0.mk (Kd.R_elder' (by (with_reducible repeat (first | apply Kd.R_alloc | apply Kd.R_drewN | apply Kd.R_drew)); exact (Kd.R_mono (Kd.R_far (p := ⟨gb237, 1, none⟩) (Kd.R_far (p := ⟨gb237, 0, none⟩) (Kd.R_types HO_7.out BK237.out (by decide)) (fun _ hk => hk.2) (.slice Ao74 t232.length co74)) (fun _ hk => hk.2) (.int .i64 t235)) (fun _ h_ => h_.1))) (Kd.R_base ho0) hb); have n3_ := Aside0.mk (Kd.R_elder' (by (with_reducible repeat (first | apply Kd.R_alloc | apply Kd.R_drewN | apply Kd.R_drew)); exact (Kd.R_mono (Kd.R_far (p := ⟨gb237, 1, none⟩) (Kd.R_far (p := ⟨gb237, 0, none⟩) (Kd.R_types HO_8.out BK237.out (by decide)) (fun _ hk => hk.2) (.slice Ao74 t232.length co74)) (fun _ hk => hk.2) (.int .i64 t235)) (fun _ h_ => h_.1))) (Kd.R_base ho0) hb); have n4_ := Aside0.mk (Kd.R_elder' (by (with_reducible repeat (first | apply Kd.R_alloc | apply Kd.R_drewN | apply Kd.R_drew)); exact (Kd.R_mono (Kd.R_far (p := ⟨gb237, 1, none⟩) (Kd.R_far (p := ⟨gb237, 0, none⟩) (Kd.R_types HO234.out BK237.out (by decide)) (fun _ hk => hk.2) (.slice Ao74 t232.length co74)) (fun _ hk => hk.2) (.int .i64 t235)) (fun _ h_ => h_.1))) (Kd.R_base ho0) hb); have n5_ := Aside0.mk (Kd.R_lower (Kd.R_new' (Kd.R_new' (Kd.R_new' (Kd.R_newM (M := fun k_ => (w.heap.size ≤ k_)) ho0 (below_size (by repeat (first | (with_reducible first | exact HB.out | apply below_alloc | apply pw_below_drewN | apply below_drew1 | refine below_set ?_ GE237.out) | exact HB.out))) (fun k_ h_ => h_)) (Kd.R_lt (by (with_reducible repeat (first | apply Kd.R_alloc | apply Kd.R_drewN | apply Kd.R_drew)); exact (Kd.R_mono (Kd.R_far (p := ⟨gb237, 1, none⟩) (Kd.R_far (p := ⟨gb237, 0, none⟩) (Kd.R_types HO_7.out BK237.out (by decide)) (fun _ hk => hk.2) (.slice Ao74 t232.length co74)) (fun _ hk => hk.2) (.int .i64 t235)) (fun _ h_ => h_.1))))) (Kd.R_lt (by (with_reducible repeat (first | apply Kd.R_alloc | apply Kd.R_drewN | apply Kd.R_drew)); exact (Kd.R_mono (Kd.R_far (p := ⟨gb237, 1, none⟩) (Kd.R_far (p := ⟨gb237, 0, none⟩) (Kd.R_types HO_8.out BK237.out (by decide)) (fun _ hk => hk.2) (.slice Ao74 t232.length co74)) (fun _ hk => hk.2) (.int .i64 t235)) (fun _ h_ => h_.1))))) (Kd.R_lt (by (with_reducible repeat (first | apply Kd.R_alloc | apply Kd.R_drewN | apply Kd.R_drew)); exact (Kd.R_mono (Kd.R_far (p := ⟨gb237, 1, none⟩) (Kd.R_far (p := ⟨gb237, 0, none⟩) (Kd.R_types HO234.out BK237.out (by decide)) (fun _ hk => hk.2) (.slice Ao74 t232.length co74)) (fun _ hk => hk.2) (.int .i64 t235)) (fun _ h_ => h_.1))))) (below_size (by repeat (first | (with_reducible first | exact HB.out | apply below_alloc | apply pw_below_drewN | apply below_drew1 | refine below_set ?_ GE237.out) | exact HB.out)))); have n6_ := Aside0.mk (blk_below (g := gb237) (o := .cells #[.slice Ao74 t232.length co74, .int .i64 t235] 27 (0, 0)) (by (with_reducible repeat (first | refine blk_drewN ?_ _ | refine blk_drew ?_ | refine blk_alloc ?_ _)); refine blk_put (cs := #[.slice Ao74 t232.length co74, .int .i64 0]) ?_ 1 _ rfl; (with_reducible repeat (first | refine blk_drewN ?_ _ | refine blk_drew ?_ | refine blk_alloc ?_ _)); refine blk_put (cs := #[.slice none 0 0, .int .i64 0]) ?_ 0 _ rfl; (with_reducible repeat (first | refine blk_drewN ?_ _ | refine blk_drew ?_ | refine blk_alloc ?_ _)); exact BK237.out) hb); have n7_ := Aside0.mk (below_step (by repeat (first | (with_reducible first | exact HB.out | apply below_alloc | apply pw_below_drewN | apply below_drew1 | refine below_set ?_ GE237.out) | exact HB.out)) hb); clear HO_0; clear HO_6; clear HO_7; clear HO_8; clear HO234; clear BK237; clear HB; have HO_0 := n0_; have HO_6 := n1_; have HO_7 := n2_; have HO_8 := n3_; have HO234 := n4_; have HO240 := n5_; have BK237 := n6_; have HB := n7_; clear n0_ n1_ n2_ n3_ n4_ n5_ n6_ n7_; (try clear hb); (try clear hb2); (try clear hk); (try clear hi); (try clear ho0)) | ((with_reducible refine gate_dst (N := 14) rfl ?_); (try (refine gate_guard (by rfl) ?_; dsimp only)); refine box_event ?hg (N := 14) ?hd (cs := #[.slice none 0 0, .int .i64 0]) (t := 27) ?hr ?_; (case hd => rfl); (case hg => rfl); (case hr => first | (go_simp; done) | (go_simp; rfl)); intro gb243 hg w79 hbox hb; have n0_ := Aside0.mk (Kd.V_below (Kd.V_elderB (by (with_reducible repeat (first | apply Kd.V_alloc | apply Kd.V_drewN | apply Kd.V_drew)); exact HO_0.out) gb243 (Nat.le_of_eq hg.symm)) hb); have n1_ := Aside0.mk (Kd.N_below (Kd.N_elderB (by (with_reducible repeat (first | apply Kd.N_alloc | apply Kd.N_drewN | apply Kd.N_drew)); exact HO_6.out) gb243 (Nat.le_of_eq hg.symm)) hb); have n2_ := Aside0.mk (Kd.R_below (by (with_reducible repeat (first | apply Kd.R_alloc | apply Kd.R_drewN | apply Kd.R_drew)); exact HO_7.out) hb); have n3_ := Aside0.mk (Kd.R_below (by (with_reducible repeat (first | apply Kd.R_alloc | apply Kd.R_drewN | apply Kd.R_drew)); exact HO_8.out) hb); have n4_ := Aside0.mk (Kd.R_below (by (with_reducible repeat (first | apply Kd.R_alloc | apply Kd.R_drewN | apply Kd.R_drew)); exact HO234.out) hb); have n5_ := Aside0.mk (Kd.R_below (by (with_reducible repeat (first | apply Kd.R_alloc | apply Kd.R_drewN | apply Kd.R_drew)); exact HO240.out) hb); have n6_ := Aside0.mk (blk_below (g := gb237) (o := .cells #[.slice Ao74 t232.length co74, .int .i64 t235] 27 (0, 0)) (by (with_reducible repeat (first | refine blk_drewN ?_ _ | refine blk_drew ?_ | refine blk_alloc ?_ _)); exact BK237.out) hb); have n7_ := Aside0.mk (below_step (by repeat (first | (with_reducible first | exact HB.out | apply below_alloc | apply pw_below_drewN | apply below_drew1 | refine below_set ?_ GE237.out) | exact HB.out)) hb); have n8_ := Aside0.mk (hbox); have n9_ := Aside0.mk ((by rw [hg]; exact (below_size (by repeat (first | (with_reducible first | exact HB.out | apply below_alloc | apply pw_below_drewN | apply below_drew1 | refine below_set ?_ GE237.out) | exact HB.out))) : w.heap.size ≤ gb243)); have n10_ := Aside0.mk ((by rw [hg]; exact (below_size (by repeat (first | (with_reducible first | exact HB.out | apply below_alloc | apply pw_below_drewN | apply below_drew1 | refine below_set ?_ GE237.out) | exact HB.out))) : w.heap.size ≤ gb243)); have n11_ := Aside0.mk ((by rw [hg]; exact Nat.ne_of_lt (blk_lt (g := gb237) (o := .cells #[.slice Ao74 t232.length co74, .int .i64 t235] 27 (0, 0)) (by (with_reducible repeat (first | refine blk_drewN ?_ _ | refine blk_drew ?_ | refine blk_alloc ?_ _)); exact BK237.out)) : gb237 ≠ gb243)); have n12_ := Aside0.mk ((by rw [hg]; exact Nat.ne_of_gt (blk_lt (g := gb237) (o := .cells #[.slice Ao74 t232.length co74, .int .i64 t235] 27 (0, 0)) (by (with_reducible repeat (first | refine blk_drewN ?_ _ | refine blk_drew ?_ | refine blk_alloc ?_ _)); exact BK237.out)) : gb243 ≠ gb237)); clear HO_0; clear HO_6; clear HO_7; clear HO_8; clear HO234; clear HO240; clear BK237; clear HB; have HO_0 := n0_; have HO_6 := n1_; have HO_7 := n2_; have HO_8 := n3_; have HO234 := n4_; have HO240 := n5_; have BK237 := n6_; have HB := n7_; have BK243 := n8_; have GW243 := n9_; have GE243 := n10_; have NB237_243 := n11_; have NB243_237 := n12_; clear n0_ n1_ n2_ n3_ n4_ n5_ n6_ n7_ n8_ n9_ n10_ n11_ n12_; clear hb hbox hg; obtain ⟨Ao80, co80, eo80⟩ := Kd.R_slice HO240.out; subst eo80; have hnb81 := NB243_237.out; have hnc81 := NB237_243.out; have hcz82_0 : w79.cell? ⟨gb243, 0, none⟩ = some (.slice none 0 0) := (blk_cell BK243.out 0).trans rfl; have hcz82_1 : w79.cell? ⟨gb243, 1, none⟩ = some (.int .i64 0) := (blk_cell BK243.out 1).trans rfl; have hfz82_0 := blk_frozen BK243.out 0; have hfz82_1 := blk_frozen BK243.out 1) | ((with_reducible refine gate_callee (f := 10) rfl ?_); refine goesL_ (some 146) rfl rfl Try.func10 (by kernel_rfl) rfl #[] rfl (by (try simp only [List.map_toArray, List.map_cons, List.map_nil]); first | done | rfl | (simp only [List.length_drop, List.length_take]; rfl)) ?_; (with_reducible refine (plimsolllaw14_awake.calls k3  true _ A66.out).mono ?_); rintro e w83 ⟨rfl, hb⟩; refine ⟨_, rfl, ?_⟩; have n0_ := Aside0.mk (Kd.V_below (by (with_reducible repeat (first | apply Kd.V_alloc | apply Kd.V_drewN | apply Kd.V_drew)); exact (Kd.V_mono (Kd.V_far (p := ⟨gb243, 1, none⟩) (Kd.V_far (p := ⟨gb243, 0, none⟩) (Kd.V_mono HO_0.out (fun k_ hk => (⟨hk, hk.2⟩ : _ ∧ k_ ≠ gb243))) (fun _ hk => hk.2) (.slice Ao80 t238.length co80)) (fun _ hk => hk.2) (.int .i64 t241)) (fun _ h_ => h_.1))) hb); have n1_ := Aside0.mk (Kd.N_below (by (with_reducible repeat (first | apply Kd.N_alloc | apply Kd.N_drewN | apply Kd.N_drew)); exact (Kd.N_mono (Kd.N_far (p := ⟨gb243, 1, none⟩) (Kd.N_far (p := ⟨gb243, 0, none⟩) (Kd.N_mono HO_6.out (fun k_ hk => (⟨hk, hk.2⟩ : _ ∧ k_ ≠ gb243))) (fun _ hk => hk.2) (.slice Ao80 t238.length co80)) (fun _ hk => hk.2) (.int .i64 t241)) (fun _ h_ => h_.1))) hb); have n2_ := Aside0.mk (Kd.R_below (by (with_reducible repeat (first | apply Kd.R_alloc | apply Kd.R_drewN | apply Kd.R_drew)); exact (Kd.R_mono (Kd.R_far (p := ⟨gb243, 1, none⟩) (Kd.R_far (p := ⟨gb243, 0, none⟩) (Kd.R_types HO_7.out BK243.out (by decide)) (fun _ hk => hk.2) (.slice Ao80 t238.length co80)) (fun _ hk => hk.2) (.int .i64 t241)) (fun _ h_ => h_.1))) hb); have n3_ := Aside0.mk (Kd.R_below (by (with_reducible repeat (first | apply Kd.R_alloc | apply Kd.R_drewN | apply Kd.R_drew)); exact (Kd.R_mono (Kd.R_far (p := ⟨gb243, 1, none⟩) (Kd.R_far (p := ⟨gb243, 0, none⟩) (Kd.R_types HO_8.out BK243.out (by decide)) (fun _ hk => hk.2) (.slice Ao80 t238.length co80)) (fun _ hk => hk.2) (.int .i64 t241)) (fun _ h_ => h_.1))) hb); have n4_ := Aside0.mk (Kd.R_below (by (with_reducible repeat (first | apply Kd.R_alloc | apply Kd.R_drewN | apply Kd.R_drew)); exact (Kd.R_mono (Kd.R_far (p := ⟨gb243, 1, none⟩) (Kd.R_far (p := ⟨gb243, 0, none⟩) (Kd.R_types HO234.out BK243.out (by decide)) (fun _ hk => hk.2) (.slice Ao80 t238.length co80)) (fun _ hk => hk.2) (.int .i64 t241)) (fun _ h_ => h_.1))) hb); have n5_ := Aside0.mk (Kd.R_below (by (with_reducible repeat (first | apply Kd.R_alloc | apply Kd.R_drewN | apply Kd.R_drew)); exact (Kd.R_mono (Kd.R_far (p := ⟨gb243, 1, none⟩) (Kd.R_far (p := ⟨gb243, 0, none⟩) (Kd.R_types HO240.out BK243.out (by decide)) (fun _ hk => hk.2) (.slice Ao80 t238.length co80)) (fun _ hk => hk.2) (.int .i64 t241)) (fun _ h_ => h_.1))) hb); have n6_ := Aside0.mk (blk_below (g := gb237) (o := .cells #[.slice Ao74 t232.length co74, .int .i64 t235] 27 (0, 0)) (by (with_reducible repeat (first | refine blk_drewN ?_ _ | refine blk_drew ?_ | refine blk_alloc ?_ _)); refine blk_far ?_ NB237_243.out _; (with_reducible repeat (first | refine blk_drewN ?_ _ | refine blk_drew ?_ | refine blk_alloc ?_ _)); refine blk_far ?_ NB237_243.out _; (with_reducible repeat (first | refine blk_drewN ?_ _ | refine blk_drew ?_ | refine blk_alloc ?_ _)); exact BK237.out) hb); have n7_ := Aside0.mk (blk_below (g := gb243) (o := .cells #[.slice Ao80 t238.length co80, .int .i64 t241] 27 (0, 0)) (by (with_reducible repeat (first | refine blk_drewN ?_ _ | refine blk_drew ?_ | refine blk_alloc ?_ _)); refine blk_put (cs := #[.slice Ao80 t238.length co80, .int .i64 0]) ?_ 1 _ rfl; (with_reducible repeat (first | refine blk_drewN ?_ _ | refine blk_drew ?_ | refine blk_alloc ?_ _)); refine blk_put (cs := #[.slice none 0 0, .int .i64 0]) ?_ 0 _ rfl; (with_reducible repeat (first | refine blk_drewN ?_ _ | refine blk_drew ?_ | refine blk_alloc ?_ _)); exact BK243.out) hb); have n8_ := Aside0.mk (below_step (by repeat (first | (with_reducible first | exact HB.out | apply below_alloc | apply pw_below_drewN | apply below_drew1 | refine below_set ?_ GE237.out | refine below_set ?_ GE243.out) | exact HB.out)) hb); clear HO_0; clear HO_6; clear HO_7; clear HO_8; clear HO234; clear HO240; clear BK237; clear BK243; clear HB; have HO_0 := n0_; have HO_6 := n1_; have HO_7 := n2_; have HO_8 := n3_; have HO234 := n4_; have HO240 := n5_; have BK237 := n6_; have BK243 := n7_; have HB := n8_; clear n0_ n1_ n2_ n3_ n4_ n5_ n6_ n7_ n8_; (try clear hb); (try clear hb2); (try clear hk); (try clear hi); have hcz84_0 : w83.cell? ⟨gb237, 0, none⟩ = some (.slice Ao74 t232.length co74) := (blk_cell BK237.out 0).trans rfl; have hcz84_1 : w83.cell? ⟨gb237, 1, none⟩ = some (.int .i64 t235) := (blk_cell BK237.out 1).trans rfl; have hfz84_0 := blk_frozen BK237.out 0; have hfz84_1 := blk_frozen BK237.out 1; have hcz85_0 : w83.cell? ⟨gb243, 0, none⟩ = some (.slice Ao80 t238.length co80) := (blk_cell BK243.out 0).trans rfl; have hcz85_1 : w83.cell? ⟨gb243, 1, none⟩ = some (.int .i64 t241) := (blk_cell BK243.out 1).trans rfl; have hfz85_0 := blk_frozen BK243.out 0; have hfz85_1 := blk_frozen BK243.out 1) | (go_at_call 13; (with_reducible refine (plimsollref14_Same.calls k3 _ _ t232 t235 _ _ t238 t241 t245 _ ?side1 ?side2 ?side3 ?side4 A70.out).mono ?_); (case side1 => repeat (first | exact (Kd.R_reads' HO234.out).2.2 | (with_reducible refine Kd.C_alloc ?_ _) | (with_reducible refine Kd.C_drewN ?_ _) | (with_reducible refine Kd.C_drew ?_))); (case side2 => exact (Kd.R_reads' HO234.out).2.1); (case side3 => repeat (first | exact (Kd.R_reads' HO240.out).2.2 | (with_reducible refine Kd.C_alloc ?_ _) | (with_reducible refine Kd.C_drewN ?_ _) | (with_reducible refine Kd.C_drew ?_))); (case side4 => exact (Kd.R_reads' HO240.out).2.1); rintro e w86 ⟨rfl, hb⟩; have n0_ := Aside0.mk (Kd.V_below (by (with_reducible repeat (first | apply Kd.V_alloc | apply Kd.V_drewN | apply Kd.V_drew)); exact HO_0.out) hb); have n1_ := Aside0.mk (Kd.N_below (by (with_reducible repeat (first | apply Kd.N_alloc | apply Kd.N_drewN | apply Kd.N_drew)); exact HO_6.out) hb); have n2_ := Aside0.mk (Kd.R_below (by (with_reducible repeat (first | apply Kd.R_alloc | apply Kd.R_drewN | apply Kd.R_drew)); exact HO_7.out) hb); have n3_ := Aside0.mk (Kd.R_below (by (with_reducible repeat (first | apply Kd.R_alloc | apply Kd.R_drewN | apply Kd.R_drew)); exact HO_8.out) hb); have n4_ := Aside0.mk (Kd.R_below (by (with_reducible repeat (first | apply Kd.R_alloc | apply Kd.R_drewN | apply Kd.R_drew)); exact HO234.out) hb); have n5_ := Aside0.mk (Kd.R_below (by (with_reducible repeat (first | apply Kd.R_alloc | apply Kd.R_drewN | apply Kd.R_drew)); exact HO240.out) hb); have n6_ := Aside0.mk (blk_below (g := gb237) (o := .cells #[.slice Ao74 t232.length co74, .int .i64 t235] 27 (0, 0)) (by (with_reducible repeat (first | refine blk_drewN ?_ _ | refine blk_drew ?_ | refine blk_alloc ?_ _)); exact BK237.out) hb); have n7_ := Aside0.mk (blk_below (g := gb243) (o := .cells #[.slice Ao80 t238.length co80, .int .i64 t241] 27 (0, 0)) (by (with_reducible repeat (first | refine blk_drewN ?_ _ | refine blk_drew ?_ | refine blk_alloc ?_ _)); exact BK243.out) hb); have n8_ := Aside0.mk (below_step (by repeat (first | (with_reducible first | exact HB.out | apply below_alloc | apply pw_below_drewN | apply below_drew1 | refine below_set ?_ GE237.out | refine below_set ?_ GE243.out) | exact HB.out)) hb); clear HO_0; clear HO_6; clear HO_7; clear HO_8; clear HO234; clear HO240; clear BK237; clear BK243; clear HB; have HO_0 := n0_; have HO_6 := n1_; have HO_7 := n2_; have HO_8 := n3_; have HO234 := n4_; have HO240 := n5_; have BK237 := n6_; have BK243 := n7_; have HB := n8_; clear n0_ n1_ n2_ n3_ n4_ n5_ n6_ n7_ n8_; (try clear hb); (try clear hb2); (try clear hk); (try clear hi)))
                        go_ret
                        exact ⟨by first | rfl | (simp [errW_none, errW_some] <;> rfl) | (simp [*, errW_none, errW_some] <;> rfl), by repeat (first | (with_reducible first | exact HB.out | apply below_alloc | apply pw_below_drewN | apply below_drew1 | refine below_set ?_ GE237.out | refine below_set ?_ GE243.out) | exact HB.out)⟩
                      · rw [if_neg c69] at H
                        have c69b0 : (t242 == 0) = false := beq_eq_false_iff_ne.mpr c69
                        have c69b1 : (t242 != 0) = true := bne_iff_ne.mpr c69
                        exact absurd ((Option.some.inj H).trans hrt.out) (by decide)
                    · rw [if_neg c68] at H
                      have c68b0 : (t236 == 0) = false := beq_eq_false_iff_ne.mpr c68
                      have c68b1 : (t236 != 0) = true := bne_iff_ne.mpr c68
                      exact absurd ((Option.some.inj H).trans hrt.out) (by decide)
                  · replace c67 := Bool.eq_false_iff.mpr c67
                    subst c67
                    have H1 : (some false) = some r := by rw [if_neg (show ¬ (false = true) by decide)] at H; exact H
                    clear H
                    have H := H1
                    clear H1
                    exact absurd ((Option.some.inj H).trans hrt.out) (by decide)

end Go.Proofs.Ythfkajolockcgaa.QLinOrder
