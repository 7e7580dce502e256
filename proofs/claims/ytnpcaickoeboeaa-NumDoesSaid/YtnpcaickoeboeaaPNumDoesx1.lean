-- PRINTED BY print.sh 35421559b90ae4d0a3588c463048766b98c2df88dd9212a6774a882060cdf62d: not written by this session
import Derived.Test.YtnpcaickoeboeaaPNumDoesx0
namespace Go.Proofs.Ytnpcaickoeboeaa.PNumDoes
open Go.RowKit Go.Proofs.YtnpcaickoeboeaaW.PrintWords Go.Proofs.YtnpcaickoeboeaaW.PrintLast Go.Proofs.YtnpcaickoeboeaaW.PrintMore
attribute [local go_sem] max2_int min2_int max_two min_two max_three min_three max_four min_four   -- for this text's walks alone
set_option linter.unusedVariables false
set_option linter.unusedSimpArgs false

/-! ### num_divide: function 12 -/
def num_divide.j0 : Nat → Int → Int → Int → Bool → Option (Int)
  | 0, _, _, _, _ => none
  | k + 1, x0, x1, x2, x7 => if x7 = true then (some (wrap32 (-x1))) else (if x2 = (-1) then (some 0) else (if x0 = 10 then (if x2 = 0 then (none) else (some (wrap32 (Int.tdiv x1 x2)))) else (if x2 = 0 then (none) else (some (Int.tmod x1 x2)))))
def num_divide.f (k : Nat) (a0 : Int) (a1 : Int) (a2 : Int) : Option (Int) := if a2 = (-1) then (num_divide.j0 k a0 a1 a2 (a0 == 10)) else (num_divide.j0 k a0 a1 a2 false)
theorem num_divide.mono_l : ∀ k, (∀ y0 y1 y2 y3, LeO (num_divide.j0 k y0 y1 y2 y3) (num_divide.j0 (k + 1) y0 y1 y2 y3))
  | 0 => fun _ _ _ _ r h => by simp [num_divide.j0] at h
  | k + 1 => by
    have ih0 := num_divide.mono_l k
    · intro y0 y1 y2 y3
      unfold num_divide.j0
      repeat' first
      | (with_reducible exact ih0 _ _ _ _)
      | (with_reducible exact LeO.refl _)
      | (with_reducible exact LeO.none _)
      | (with_reducible refine LeO.ite ?_ ?_)
      | (with_reducible refine LeO.bind ?_ (fun _ => ?_))
      | exact ih0 _ _ _ _
      | exact LeO.none _
      | refine LeO.ite ?_ ?_
      | refine LeO.bind ?_ (fun _ => ?_)
theorem num_divide.mono : ∀ a0 a1 a2 k, LeO (num_divide.f k a0 a1 a2) (num_divide.f (k + 1) a0 a1 a2) := by
  intro a0 a1 a2 k
  have ih0 := num_divide.mono_l k
  unfold num_divide.f
  repeat' first
      | (with_reducible exact ih0 _ _ _ _)
      | (with_reducible exact LeO.refl _)
      | (with_reducible exact LeO.none _)
      | (with_reducible refine LeO.ite ?_ ?_)
      | (with_reducible refine LeO.bind ?_ (fun _ => ?_))
      | exact ih0 _ _ _ _
      | exact LeO.none _
      | refine LeO.ite ?_ ?_
      | refine LeO.bind ?_ (fun _ => ?_)
set_option maxHeartbeats 8000000 in
set_option maxRecDepth 100000 in
theorem num_divide.calls (k : Nat) (a0 : Int) (a1 : Int) (a2 : Int) (r : Int) (w : World) (h : num_divide.f k a0 a1 a2 = some r) :
    Calls Try.prog 12 #[.int .i64 a0, .int .i32 a1, .int .i32 a2] w fun e w' => e = .returned (.int .i32 r) ∧ Drawn0 w w' := by
  have H : (if a2 = (-1) then (num_divide.j0 k a0 a1 a2 (a0 == 10)) else (num_divide.j0 k a0 a1 a2 false)) = some r := h
  clear h
  have HC4 := Aside0.mk H
  clear H
  go_enter Try.func12, Try.ntmps12
  go_upto_region 1 with (fail)
  go_cut [7] (fun v7 wc => ∃ (kq : Nat) (x7_3 : Bool), v7 = .bool x7_3 ∧ Aside0 (num_divide.j0 kq a0 a1 a2 x7_3 = some r) ∧ Aside0 (kq ≤ k) ∧ Drawn0 w wc)
  case first =>
    have H := HC4.out
    clear HC4
    by_cases c5 : a2 = (-1)
    · rw [if_pos c5] at H
      have c5b0 : (a2 == (-1)) = true := beq_iff_eq.mpr c5
      have c5b1 : (a2 != (-1)) = false := bne_eq_false_iff_eq.mpr c5
      clear c5
      (first | rw [c5b0] | (simp only [i64_w, i32_w]; rw [c5b0]) | skip)
      have H' := Aside0.mk H
      clear H
      go_wp2
      go_meet
      case rel => exact ⟨_, ((a0 == 10)), (by first | rfl | (simp; done) | (simp [*]; done)), H', ⟨by first | omega | exact Nat.le_refl _⟩, by repeat (first | exact Drawn0.refl _ | apply Drawn0.step)⟩
    · rw [if_neg c5] at H
      have c5b0 : (a2 == (-1)) = false := beq_eq_false_iff_ne.mpr c5
      have c5b1 : (a2 != (-1)) = true := bne_iff_ne.mpr c5
      (first | rw [c5b0] | (simp only [i64_w, i32_w]; rw [c5b0]) | skip)
      have H' := Aside0.mk H
      clear H
      go_wp2
      go_meet
      case rel => exact ⟨_, (false), (by first | rfl | (simp; done) | (simp [*]; done)), H', ⟨by first | omega | exact Nat.le_refl _⟩, by repeat (first | exact Drawn0.refl _ | apply Drawn0.step)⟩
  case rest =>
    clear HC4
    try clear c1
    try clear p2
    try clear c5
    try clear c5b0
    try clear c5b1
    obtain ⟨kq, x7_3, rfl, HA, HJ3, ⟨mc3, rfl⟩⟩ := hcut
    cases kq with
    | zero => exact absurd HA.out (by simp [num_divide.j0])
    | succ kj3 =>
      have H := HA.out
      clear HA
      simp only [num_divide.j0] at H
      by_cases c6 : x7_3 = true
      · subst c6
        have H1 : (some (wrap32 (-a1))) = some r := by rw [if_pos rfl] at H; exact H
        clear H
        have H := H1
        clear H1
        obtain rfl := Option.some.inj H
        go_wp2
        go_ret
        exact ⟨by first | rfl | (simp; done) | (simp [*]; done), by repeat (first | exact Drawn0.refl _ | apply Drawn0.step)⟩
      · replace c6 := Bool.eq_false_iff.mpr c6
        subst c6
        have H1 : (if a2 = (-1) then (some 0) else (if a0 = 10 then (if a2 = 0 then (none) else (some (wrap32 (Int.tdiv a1 a2)))) else (if a2 = 0 then (none) else (some (Int.tmod a1 a2))))) = some r := by rw [if_neg (show ¬ (false = true) by decide)] at H; exact H
        clear H
        have H := H1
        clear H1
        by_cases c7 : a2 = (-1)
        · rw [if_pos c7] at H
          have c7b0 : (a2 == (-1)) = true := beq_iff_eq.mpr c7
          have c7b1 : (a2 != (-1)) = false := bne_eq_false_iff_eq.mpr c7
          clear c7
          obtain rfl := Option.some.inj H
          go_wp2
          go_ret
          exact ⟨by first | rfl | (simp; done) | (simp [*]; done), by repeat (first | exact Drawn0.refl _ | apply Drawn0.step)⟩
        · rw [if_neg c7] at H
          have c7b0 : (a2 == (-1)) = false := beq_eq_false_iff_ne.mpr c7
          have c7b1 : (a2 != (-1)) = true := bne_iff_ne.mpr c7
          by_cases c8 : a0 = 10
          · rw [if_pos c8] at H
            have c8b0 : (a0 == 10) = true := beq_iff_eq.mpr c8
            have c8b1 : (a0 != 10) = false := bne_eq_false_iff_eq.mpr c8
            clear c8
            by_cases c9 : a2 = 0
            · rw [if_pos c9] at H
              exact absurd H (by simp)
            · rw [if_neg c9] at H
              have c9b0 : (a2 == 0) = false := beq_eq_false_iff_ne.mpr c9
              have c9b1 : (a2 != 0) = true := bne_iff_ne.mpr c9
              obtain rfl := Option.some.inj H
              go_wp2
              go_ret
              exact ⟨by first | rfl | (simp; done) | (simp [*]; done), by repeat (first | exact Drawn0.refl _ | apply Drawn0.step)⟩
          · rw [if_neg c8] at H
            have c8b0 : (a0 == 10) = false := beq_eq_false_iff_ne.mpr c8
            have c8b1 : (a0 != 10) = true := bne_iff_ne.mpr c8
            by_cases c10 : a2 = 0
            · rw [if_pos c10] at H
              exact absurd H (by simp)
            · rw [if_neg c10] at H
              have c10b0 : (a2 == 0) = false := beq_eq_false_iff_ne.mpr c10
              have c10b1 : (a2 != 0) = true := bne_iff_ne.mpr c10
              obtain rfl := Option.some.inj H
              go_wp2
              go_ret
              exact ⟨by first | rfl | (simp; done) | (simp [*]; done), by repeat (first | exact Drawn0.refl _ | apply Drawn0.step)⟩

/-! ### num_flag: function 13 -/
def num_flag.f (a0 : Bool) : Option (Int) := if a0 = true then (some 1) else (some 0)
set_option maxHeartbeats 8000000 in
set_option maxRecDepth 100000 in
theorem num_flag.calls (a0 : Bool) (r : Int) (w : World) (h : num_flag.f a0 = some r) :
    Calls Try.prog 13 #[.bool a0] w fun e w' => e = .returned (.int .i32 r) ∧ Drawn0 w w' := by
  have H : (if a0 = true then (some 1) else (some 0)) = some r := h
  clear h
  by_cases c2 : a0 = true
  · subst c2
    have H1 : (some 1) = some r := by rw [if_pos rfl] at H; exact H
    clear H
    have H := H1
    clear H1
    obtain rfl := Option.some.inj H
    go_enter Try.func13, Try.ntmps13
    go_wp2
    go_ret
    exact ⟨by first | rfl | (simp; done) | (simp [*]; done), by repeat (first | exact Drawn0.refl _ | apply Drawn0.step)⟩
  · replace c2 := Bool.eq_false_iff.mpr c2
    subst c2
    have H1 : (some 0) = some r := by rw [if_neg (show ¬ (false = true) by decide)] at H; exact H
    clear H
    have H := H1
    clear H1
    obtain rfl := Option.some.inj H
    go_enter Try.func13, Try.ntmps13
    go_wp2
    go_ret
    exact ⟨by first | rfl | (simp; done) | (simp [*]; done), by repeat (first | exact Drawn0.refl _ | apply Drawn0.step)⟩

/-! ### num_Do: function 8 -/
def num_Do.j0 : Nat → Int → Int → Int → Int → Bool → Option (Int × Bool)
  | 0, _, _, _, _, _ => none
  | k + 1, x0, x1, x2, x8, x24 => if x24 = true then (if x2 = 0 then (some (0, false)) else ((num_divide.f k x0 x1 x2).bind fun t101 => (some (t101, true)))) else (if x8 = 12 then (some (Go.bits .and .i32 x1 x2, true)) else (if x8 = 13 then (some (Go.bits .xor .i32 x1 x2, true)) else (if x8 = 14 then (some (wrap32 (x1 * 2 ^ (((x2) % 4294967296) % 32).toNat), true)) else (if x8 = 15 then (some (x1 / 2 ^ (((x2) % 4294967296) % 32).toNat, true)) else (if x8 = 16 then ((num_flag.f (decide (x1 < x2))).bind fun t102 => (some (t102, true))) else (if x8 = 17 then ((num_flag.f (x1 == x2)).bind fun t103 => (some (t103, true))) else (some (0, false))))))))
def num_Do.f (k : Nat) (a0 : Int) (a1 : Int) (a2 : Int) : Option (Int × Bool) := if a0 = 7 then (some (wrap32 (a1 + a2), true)) else (if a0 = 8 then (some (wrap32 (a1 - a2), true)) else (if a0 = 9 then (some (wrap32 (a1 * a2), true)) else (if a0 = 10 then (num_Do.j0 k a0 a1 a2 a0 (a0 == 10)) else (num_Do.j0 k a0 a1 a2 a0 (a0 == 11)))))
theorem num_Do.mono_l : ∀ k, (∀ y0 y1 y2 y3 y4, LeO (num_Do.j0 k y0 y1 y2 y3 y4) (num_Do.j0 (k + 1) y0 y1 y2 y3 y4))
  | 0 => fun _ _ _ _ _ r h => by simp [num_Do.j0] at h
  | k + 1 => by
    have ih0 := num_Do.mono_l k
    · intro y0 y1 y2 y3 y4
      unfold num_Do.j0
      repeat' first
      | (with_reducible exact ih0 _ _ _ _ _)
      | (with_reducible exact num_divide.mono _ _ _ _)
      | (with_reducible exact LeO.refl _)
      | (with_reducible exact LeO.none _)
      | (with_reducible refine LeO.ite ?_ ?_)
      | (with_reducible refine LeO.bind ?_ (fun _ => ?_))
      | exact ih0 _ _ _ _ _
      | exact num_divide.mono _ _ _ _
      | exact LeO.none _
      | refine LeO.ite ?_ ?_
      | refine LeO.bind ?_ (fun _ => ?_)
theorem num_Do.mono : ∀ a0 a1 a2 k, LeO (num_Do.f k a0 a1 a2) (num_Do.f (k + 1) a0 a1 a2) := by
  intro a0 a1 a2 k
  have ih0 := num_Do.mono_l k
  unfold num_Do.f
  repeat' first
      | (with_reducible exact ih0 _ _ _ _ _)
      | (with_reducible exact num_divide.mono _ _ _ _)
      | (with_reducible exact LeO.refl _)
      | (with_reducible exact LeO.none _)
      | (with_reducible refine LeO.ite ?_ ?_)
      | (with_reducible refine LeO.bind ?_ (fun _ => ?_))
      | exact ih0 _ _ _ _ _
      | exact num_divide.mono _ _ _ _
      | exact LeO.none _
      | refine LeO.ite ?_ ?_
      | refine LeO.bind ?_ (fun _ => ?_)
set_option maxHeartbeats 8000000 in
set_option maxRecDepth 100000 in
theorem num_Do.calls (k : Nat) (a0 : Int) (a1 : Int) (a2 : Int) (r1 : Int) (r2 : Bool) (w : World) (h : num_Do.f k a0 a1 a2 = some (r1, r2)) :
    Calls Try.prog 8 #[.int .i64 a0, .int .i32 a1, .int .i32 a2] w fun e w' => e = .returned (.tuple #[.int .i32 r1, .bool r2]) ∧ Drawn0 w w' := by
  have H : (if a0 = 7 then (some (wrap32 (a1 + a2), true)) else (if a0 = 8 then (some (wrap32 (a1 - a2), true)) else (if a0 = 9 then (some (wrap32 (a1 * a2), true)) else (if a0 = 10 then (num_Do.j0 k a0 a1 a2 a0 (a0 == 10)) else (num_Do.j0 k a0 a1 a2 a0 (a0 == 11)))))) = some (r1, r2) := h
  clear h
  by_cases c4 : a0 = 7
  · rw [if_pos c4] at H
    have c4b0 : (a0 == 7) = true := beq_iff_eq.mpr c4
    have c4b1 : (a0 != 7) = false := bne_eq_false_iff_eq.mpr c4
    clear c4
    simp only [Option.some.injEq, Prod.mk.injEq] at H
    obtain ⟨rfl, rfl⟩ := H
    go_enter Try.func8, Try.ntmps8
    go_wp2
    go_ret2
    exact ⟨by first | rfl | (simp; done) | (simp [*]; done), by repeat (first | exact Drawn0.refl _ | apply Drawn0.step)⟩
  · rw [if_neg c4] at H
    have c4b0 : (a0 == 7) = false := beq_eq_false_iff_ne.mpr c4
    have c4b1 : (a0 != 7) = true := bne_iff_ne.mpr c4
    by_cases c5 : a0 = 8
    · rw [if_pos c5] at H
      have c5b0 : (a0 == 8) = true := beq_iff_eq.mpr c5
      have c5b1 : (a0 != 8) = false := bne_eq_false_iff_eq.mpr c5
      clear c5
      simp only [Option.some.injEq, Prod.mk.injEq] at H
      obtain ⟨rfl, rfl⟩ := H
      go_enter Try.func8, Try.ntmps8
      go_wp2
      go_ret2
      exact ⟨by first | rfl | (simp; done) | (simp [*]; done), by repeat (first | exact Drawn0.refl _ | apply Drawn0.step)⟩
    · rw [if_neg c5] at H
      have c5b0 : (a0 == 8) = false := beq_eq_false_iff_ne.mpr c5
      have c5b1 : (a0 != 8) = true := bne_iff_ne.mpr c5
      by_cases c6 : a0 = 9
      · rw [if_pos c6] at H
        have c6b0 : (a0 == 9) = true := beq_iff_eq.mpr c6
        have c6b1 : (a0 != 9) = false := bne_eq_false_iff_eq.mpr c6
        clear c6
        simp only [Option.some.injEq, Prod.mk.injEq] at H
        obtain ⟨rfl, rfl⟩ := H
        go_enter Try.func8, Try.ntmps8
        go_wp2
        go_ret2
        exact ⟨by first | rfl | (simp; done) | (simp [*]; done), by repeat (first | exact Drawn0.refl _ | apply Drawn0.step)⟩
      · rw [if_neg c6] at H
        have c6b0 : (a0 == 9) = false := beq_eq_false_iff_ne.mpr c6
        have c6b1 : (a0 != 9) = true := bne_iff_ne.mpr c6
        have HC7 := Aside0.mk H
        clear H
        go_enter Try.func8, Try.ntmps8
        go_upto_if 24 with (fail)
        go_cut [24] (fun v24 wc => ∃ (kq : Nat) (x24_6 : Bool), v24 = .bool x24_6 ∧ Aside0 (num_Do.j0 kq a0 a1 a2 a0 x24_6 = some (r1, r2)) ∧ Aside0 (kq ≤ k) ∧ Drawn0 w wc)
        case first =>
          have H := HC7.out
          clear HC7
          by_cases c8 : a0 = 10
          · rw [if_pos c8] at H
            have c8b0 : (a0 == 10) = true := beq_iff_eq.mpr c8
            have c8b1 : (a0 != 10) = false := bne_eq_false_iff_eq.mpr c8
            clear c8
            (first | rw [c8b0] | (simp only [i64_w, i32_w]; rw [c8b0]) | skip)
            have H' := Aside0.mk H
            clear H
            go_wp2
            go_meet
            case rel => exact ⟨_, ((a0 == 10)), (by first | rfl | (simp; done) | (simp [*]; done)), H', ⟨by first | omega | exact Nat.le_refl _⟩, by repeat (first | exact Drawn0.refl _ | apply Drawn0.step)⟩
          · rw [if_neg c8] at H
            have c8b0 : (a0 == 10) = false := beq_eq_false_iff_ne.mpr c8
            have c8b1 : (a0 != 10) = true := bne_iff_ne.mpr c8
            (first | rw [c8b0] | (simp only [i64_w, i32_w]; rw [c8b0]) | skip)
            have H' := Aside0.mk H
            clear H
            go_wp2
            go_meet
            case rel => exact ⟨_, ((a0 == 11)), (by first | rfl | (simp; done) | (simp [*]; done)), H', ⟨by first | omega | exact Nat.le_refl _⟩, by repeat (first | exact Drawn0.refl _ | apply Drawn0.step)⟩
        case rest =>
          clear HC7
          try clear p2
          try clear p3
          try clear c4
          try clear c4b0
          try clear c4b1
          try clear c5
          try clear c5b0
          try clear c5b1
          try clear c6
          try clear c6b0
          try clear c6b1
          try clear c8
          try clear c8b0
          try clear c8b1
          obtain ⟨kq, x24_6, rfl, HA, HJ6, ⟨mc6, rfl⟩⟩ := hcut
          cases kq with
          | zero => exact absurd HA.out (by simp [num_Do.j0])
          | succ kj6 =>
            have H := HA.out
            clear HA
            simp only [num_Do.j0] at H
            by_cases c9 : x24_6 = true
            · subst c9
              have H1 : (if a2 = 0 then (some (0, false)) else ((num_divide.f kj6 a0 a1 a2).bind fun t101 => (some (t101, true)))) = some (r1, r2) := by rw [if_pos rfl] at H; exact H
              clear H
              have H := H1
              clear H1
              by_cases c10 : a2 = 0
              · rw [if_pos c10] at H
                have c10b0 : (a2 == 0) = true := beq_iff_eq.mpr c10
                have c10b1 : (a2 != 0) = false := bne_eq_false_iff_eq.mpr c10
                clear c10
                simp only [Option.some.injEq, Prod.mk.injEq] at H
                obtain ⟨rfl, rfl⟩ := H
                go_wp2
                go_ret2
                exact ⟨by first | rfl | (simp; done) | (simp [*]; done), by repeat (first | exact Drawn0.refl _ | apply Drawn0.step)⟩
              · rw [if_neg c10] at H
                have c10b0 : (a2 == 0) = false := beq_eq_false_iff_ne.mpr c10
                have c10b1 : (a2 != 0) = true := bne_iff_ne.mpr c10
                replace H := Option.bind_eq_some_iff.mp H
                obtain ⟨t101, A110, H⟩ := H
                replace H : (some (t101, true)) = some (r1, r2) := H
                have A11 := Aside0.mk A110
                clear A110
                simp only [Option.some.injEq, Prod.mk.injEq] at H
                obtain ⟨rfl, rfl⟩ := H
                go_wp2_with (first | ((with_reducible refine gate_callee (f := 12) rfl ?_); refine goesL_ (some 32) rfl rfl Try.func12 (by kernel_rfl) rfl #[.int .i64 a0, .int .i32 a1, .int .i32 a2] rfl (by (try simp only [List.map_toArray, List.map_cons, List.map_nil]); first | done | rfl | (simp only [List.length_drop, List.length_take]; rfl)) ?_; (with_reducible refine (num_divide.calls kj6 a0 a1 a2 t101 _ A11.out).mono ?_); rintro e w' ⟨rfl, ⟨nd, rfl⟩⟩; refine ⟨_, rfl, ?_⟩))
                go_ret2
                exact ⟨by first | rfl | (simp; done) | (simp [*]; done), by repeat (first | exact Drawn0.refl _ | apply Drawn0.step)⟩
            · replace c9 := Bool.eq_false_iff.mpr c9
              subst c9
              have H1 : (if a0 = 12 then (some (Go.bits .and .i32 a1 a2, true)) else (if a0 = 13 then (some (Go.bits .xor .i32 a1 a2, true)) else (if a0 = 14 then (some (wrap32 (a1 * 2 ^ (((a2) % 4294967296) % 32).toNat), true)) else (if a0 = 15 then (some (a1 / 2 ^ (((a2) % 4294967296) % 32).toNat, true)) else (if a0 = 16 then ((num_flag.f (decide (a1 < a2))).bind fun t102 => (some (t102, true))) else (if a0 = 17 then ((num_flag.f (a1 == a2)).bind fun t103 => (some (t103, true))) else (some (0, false)))))))) = some (r1, r2) := by rw [if_neg (show ¬ (false = true) by decide)] at H; exact H
              clear H
              have H := H1
              clear H1
              by_cases c12 : a0 = 12
              · rw [if_pos c12] at H
                have c12b0 : (a0 == 12) = true := beq_iff_eq.mpr c12
                have c12b1 : (a0 != 12) = false := bne_eq_false_iff_eq.mpr c12
                clear c12
                simp only [Option.some.injEq, Prod.mk.injEq] at H
                obtain ⟨rfl, rfl⟩ := H
                go_wp2
                go_ret2
                exact ⟨by first | rfl | (simp; done) | (simp [*]; done), by repeat (first | exact Drawn0.refl _ | apply Drawn0.step)⟩
              · rw [if_neg c12] at H
                have c12b0 : (a0 == 12) = false := beq_eq_false_iff_ne.mpr c12
                have c12b1 : (a0 != 12) = true := bne_iff_ne.mpr c12
                by_cases c13 : a0 = 13
                · rw [if_pos c13] at H
                  have c13b0 : (a0 == 13) = true := beq_iff_eq.mpr c13
                  have c13b1 : (a0 != 13) = false := bne_eq_false_iff_eq.mpr c13
                  clear c13
                  simp only [Option.some.injEq, Prod.mk.injEq] at H
                  obtain ⟨rfl, rfl⟩ := H
                  go_wp2
                  go_ret2
                  exact ⟨by first | rfl | (simp; done) | (simp [*]; done), by repeat (first | exact Drawn0.refl _ | apply Drawn0.step)⟩
                · rw [if_neg c13] at H
                  have c13b0 : (a0 == 13) = false := beq_eq_false_iff_ne.mpr c13
                  have c13b1 : (a0 != 13) = true := bne_iff_ne.mpr c13
                  by_cases c14 : a0 = 14
                  · rw [if_pos c14] at H
                    have c14b0 : (a0 == 14) = true := beq_iff_eq.mpr c14
                    have c14b1 : (a0 != 14) = false := bne_eq_false_iff_eq.mpr c14
                    clear c14
                    simp only [Option.some.injEq, Prod.mk.injEq] at H
                    obtain ⟨rfl, rfl⟩ := H
                    go_wp2
                    go_ret2
                    exact ⟨by first | rfl | (simp; done) | (simp [*]; done), by repeat (first | exact Drawn0.refl _ | apply Drawn0.step)⟩
                  · rw [if_neg c14] at H
                    have c14b0 : (a0 == 14) = false := beq_eq_false_iff_ne.mpr c14
                    have c14b1 : (a0 != 14) = true := bne_iff_ne.mpr c14
                    by_cases c15 : a0 = 15
                    · rw [if_pos c15] at H
                      have c15b0 : (a0 == 15) = true := beq_iff_eq.mpr c15
                      have c15b1 : (a0 != 15) = false := bne_eq_false_iff_eq.mpr c15
                      clear c15
                      simp only [Option.some.injEq, Prod.mk.injEq] at H
                      obtain ⟨rfl, rfl⟩ := H
                      go_wp2
                      go_ret2
                      exact ⟨by first | rfl | (simp; done) | (simp [*]; done), by repeat (first | exact Drawn0.refl _ | apply Drawn0.step)⟩
                    · rw [if_neg c15] at H
                      have c15b0 : (a0 == 15) = false := beq_eq_false_iff_ne.mpr c15
                      have c15b1 : (a0 != 15) = true := bne_iff_ne.mpr c15
                      by_cases c16 : a0 = 16
                      · rw [if_pos c16] at H
                        have c16b0 : (a0 == 16) = true := beq_iff_eq.mpr c16
                        have c16b1 : (a0 != 16) = false := bne_eq_false_iff_eq.mpr c16
                        clear c16
                        replace H := Option.bind_eq_some_iff.mp H
                        obtain ⟨t102, A170, H⟩ := H
                        replace H : (some (t102, true)) = some (r1, r2) := H
                        have A17 := Aside0.mk A170
                        clear A170
                        simp only [Option.some.injEq, Prod.mk.injEq] at H
                        obtain ⟨rfl, rfl⟩ := H
                        go_wp2_with (first | ((with_reducible refine gate_callee (f := 13) rfl ?_); refine goesL_ (some 62) rfl rfl Try.func13 (by kernel_rfl) rfl #[.bool (decide (a1 < a2))] rfl (by (try simp only [List.map_toArray, List.map_cons, List.map_nil]); first | done | rfl | (simp only [List.length_drop, List.length_take]; rfl)) ?_; (with_reducible refine (num_flag.calls (decide (a1 < a2)) t102 _ A17.out).mono ?_); rintro e w' ⟨rfl, ⟨nd, rfl⟩⟩; refine ⟨_, rfl, ?_⟩))
                        go_ret2
                        exact ⟨by first | rfl | (simp; done) | (simp [*]; done), by repeat (first | exact Drawn0.refl _ | apply Drawn0.step)⟩
                      · rw [if_neg c16] at H
                        have c16b0 : (a0 == 16) = false := beq_eq_false_iff_ne.mpr c16
                        have c16b1 : (a0 != 16) = true := bne_iff_ne.mpr c16
                        by_cases c18 : a0 = 17
                        · rw [if_pos c18] at H
                          have c18b0 : (a0 == 17) = true := beq_iff_eq.mpr c18
                          have c18b1 : (a0 != 17) = false := bne_eq_false_iff_eq.mpr c18
                          clear c18
                          replace H := Option.bind_eq_some_iff.mp H
                          obtain ⟨t103, A190, H⟩ := H
                          replace H : (some (t103, true)) = some (r1, r2) := H
                          have A19 := Aside0.mk A190
                          clear A190
                          simp only [Option.some.injEq, Prod.mk.injEq] at H
                          obtain ⟨rfl, rfl⟩ := H
                          go_wp2_with (first | ((with_reducible refine gate_callee (f := 13) rfl ?_); refine goesL_ (some 68) rfl rfl Try.func13 (by kernel_rfl) rfl #[.bool (a1 == a2)] rfl (by (try simp only [List.map_toArray, List.map_cons, List.map_nil]); first | done | rfl | (simp only [List.length_drop, List.length_take]; rfl)) ?_; (with_reducible refine (num_flag.calls (a1 == a2) t103 _ A19.out).mono ?_); rintro e w' ⟨rfl, ⟨nd, rfl⟩⟩; refine ⟨_, rfl, ?_⟩))
                          go_ret2
                          exact ⟨by first | rfl | (simp; done) | (simp [*]; done), by repeat (first | exact Drawn0.refl _ | apply Drawn0.step)⟩
                        · rw [if_neg c18] at H
                          have c18b0 : (a0 == 17) = false := beq_eq_false_iff_ne.mpr c18
                          have c18b1 : (a0 != 17) = true := bne_iff_ne.mpr c18
                          simp only [Option.some.injEq, Prod.mk.injEq] at H
                          obtain ⟨rfl, rfl⟩ := H
                          go_wp2
                          go_ret2
                          exact ⟨by first | rfl | (simp; done) | (simp [*]; done), by repeat (first | exact Drawn0.refl _ | apply Drawn0.step)⟩

/-! ### plimsollref01_wrap: function 14 -/
def plimsollref01_wrap.f (a0 : Int) : Option (Int) := if (Int.tmod a0 4294967296) < 0 then (if (wrap64 ((Int.tmod a0 4294967296) + 4294967296)) ≥ 2147483648 then (some (wrap32 (wrap64 ((wrap64 ((Int.tmod a0 4294967296) + 4294967296)) - 4294967296)))) else (some (wrap32 (wrap64 ((Int.tmod a0 4294967296) + 4294967296))))) else (if (Int.tmod a0 4294967296) ≥ 2147483648 then (some (wrap32 (wrap64 ((Int.tmod a0 4294967296) - 4294967296)))) else (some (wrap32 (Int.tmod a0 4294967296))))
set_option maxHeartbeats 8000000 in
set_option maxRecDepth 100000 in
theorem plimsollref01_wrap.calls (a0 : Int) (r : Int) (w : World) (h : plimsollref01_wrap.f a0 = some r) :
    Calls Try.prog 14 #[.int .i64 a0] w fun e w' => e = .returned (.int .i32 r) ∧ Drawn0 w w' := by
  have H : (if (Int.tmod a0 4294967296) < 0 then (if (wrap64 ((Int.tmod a0 4294967296) + 4294967296)) ≥ 2147483648 then (some (wrap32 (wrap64 ((wrap64 ((Int.tmod a0 4294967296) + 4294967296)) - 4294967296)))) else (some (wrap32 (wrap64 ((Int.tmod a0 4294967296) + 4294967296))))) else (if (Int.tmod a0 4294967296) ≥ 2147483648 then (some (wrap32 (wrap64 ((Int.tmod a0 4294967296) - 4294967296)))) else (some (wrap32 (Int.tmod a0 4294967296))))) = some r := h
  clear h
  by_cases c2 : (Int.tmod a0 4294967296) < 0
  · rw [if_pos c2] at H
    have c2b0 : decide ((Int.tmod a0 4294967296) < 0) = true := decide_eq_true c2
    clear c2
    by_cases c3 : (wrap64 ((Int.tmod a0 4294967296) + 4294967296)) ≥ 2147483648
    · rw [if_pos c3] at H
      have c3b0 : decide (2147483648 ≤ (wrap64 ((Int.tmod a0 4294967296) + 4294967296))) = true := decide_eq_true c3
      clear c3
      obtain rfl := Option.some.inj H
      go_enter Try.func14, Try.ntmps14
      go_wp2
      go_ret
      exact ⟨by first | rfl | (simp; done) | (simp [*]; done), by repeat (first | exact Drawn0.refl _ | apply Drawn0.step)⟩
    · rw [if_neg c3] at H
      have c3b0 : decide (2147483648 ≤ (wrap64 ((Int.tmod a0 4294967296) + 4294967296))) = false := decide_eq_false c3
      clear c3
      obtain rfl := Option.some.inj H
      go_enter Try.func14, Try.ntmps14
      go_wp2
      go_ret
      exact ⟨by first | rfl | (simp; done) | (simp [*]; done), by repeat (first | exact Drawn0.refl _ | apply Drawn0.step)⟩
  · rw [if_neg c2] at H
    have c2b0 : decide ((Int.tmod a0 4294967296) < 0) = false := decide_eq_false c2
    clear c2
    by_cases c4 : (Int.tmod a0 4294967296) ≥ 2147483648
    · rw [if_pos c4] at H
      have c4b0 : decide (2147483648 ≤ (Int.tmod a0 4294967296)) = true := decide_eq_true c4
      clear c4
      obtain rfl := Option.some.inj H
      go_enter Try.func14, Try.ntmps14
      go_wp2
      go_ret
      exact ⟨by first | rfl | (simp; done) | (simp [*]; done), by repeat (first | exact Drawn0.refl _ | apply Drawn0.step)⟩
    · rw [if_neg c4] at H
      have c4b0 : decide (2147483648 ≤ (Int.tmod a0 4294967296)) = false := decide_eq_false c4
      clear c4
      obtain rfl := Option.some.inj H
      go_enter Try.func14, Try.ntmps14
      go_wp2
      go_ret
      exact ⟨by first | rfl | (simp; done) | (simp [*]; done), by repeat (first | exact Drawn0.refl _ | apply Drawn0.step)⟩

/-! ### plimsollref01_bitwise: function 15 -/
def plimsollref01_bitwise.l0 : Nat → Int → Int → Int → Int → Int → Int → Option (Int)
  | 0, _, _, _, _, _, _ => none
  | k + 1, x0, x1, x2, x7, x8, x9 => if x9 < 32 then (if x0 = 12 then (if (Int.tmod x1 2) = 1 then (if (Int.tmod x2 2) = 1 then (plimsollref01_bitwise.l0 k x0 (wrap64 (Int.tdiv x1 2)) (wrap64 (Int.tdiv x2 2)) (wrap64 (x7 + x8)) (wrap64 (x8 * 2)) (wrap64 (x9 + 1))) else (if x0 = 13 then (if (Int.tmod x1 2) = (Int.tmod x2 2) then (plimsollref01_bitwise.l0 k x0 (wrap64 (Int.tdiv x1 2)) (wrap64 (Int.tdiv x2 2)) x7 (wrap64 (x8 * 2)) (wrap64 (x9 + 1))) else (plimsollref01_bitwise.l0 k x0 (wrap64 (Int.tdiv x1 2)) (wrap64 (Int.tdiv x2 2)) (wrap64 (x7 + x8)) (wrap64 (x8 * 2)) (wrap64 (x9 + 1)))) else (plimsollref01_bitwise.l0 k x0 (wrap64 (Int.tdiv x1 2)) (wrap64 (Int.tdiv x2 2)) x7 (wrap64 (x8 * 2)) (wrap64 (x9 + 1))))) else (if x0 = 13 then (if (Int.tmod x1 2) = (Int.tmod x2 2) then (plimsollref01_bitwise.l0 k x0 (wrap64 (Int.tdiv x1 2)) (wrap64 (Int.tdiv x2 2)) x7 (wrap64 (x8 * 2)) (wrap64 (x9 + 1))) else (plimsollref01_bitwise.l0 k x0 (wrap64 (Int.tdiv x1 2)) (wrap64 (Int.tdiv x2 2)) (wrap64 (x7 + x8)) (wrap64 (x8 * 2)) (wrap64 (x9 + 1)))) else (plimsollref01_bitwise.l0 k x0 (wrap64 (Int.tdiv x1 2)) (wrap64 (Int.tdiv x2 2)) x7 (wrap64 (x8 * 2)) (wrap64 (x9 + 1))))) else (if x0 = 13 then (if (Int.tmod x1 2) = (Int.tmod x2 2) then (plimsollref01_bitwise.l0 k x0 (wrap64 (Int.tdiv x1 2)) (wrap64 (Int.tdiv x2 2)) x7 (wrap64 (x8 * 2)) (wrap64 (x9 + 1))) else (plimsollref01_bitwise.l0 k x0 (wrap64 (Int.tdiv x1 2)) (wrap64 (Int.tdiv x2 2)) (wrap64 (x7 + x8)) (wrap64 (x8 * 2)) (wrap64 (x9 + 1)))) else (plimsollref01_bitwise.l0 k x0 (wrap64 (Int.tdiv x1 2)) (wrap64 (Int.tdiv x2 2)) x7 (wrap64 (x8 * 2)) (wrap64 (x9 + 1))))) else (some x7)
def plimsollref01_bitwise.f (k : Nat) (a0 : Int) (a1 : Int) (a2 : Int) : Option (Int) := plimsollref01_bitwise.l0 k a0 a1 a2 0 1 0
theorem plimsollref01_bitwise.mono_l : ∀ k, (∀ y0 y1 y2 y3 y4 y5, LeO (plimsollref01_bitwise.l0 k y0 y1 y2 y3 y4 y5) (plimsollref01_bitwise.l0 (k + 1) y0 y1 y2 y3 y4 y5))
  | 0 => fun _ _ _ _ _ _ r h => by simp [plimsollref01_bitwise.l0] at h
  | k + 1 => by
    have ih0 := plimsollref01_bitwise.mono_l k
    · intro y0 y1 y2 y3 y4 y5
      unfold plimsollref01_bitwise.l0
      repeat' first
      | (with_reducible exact ih0 _ _ _ _ _ _)
      | (with_reducible exact LeO.refl _)
      | (with_reducible exact LeO.none _)
      | (with_reducible refine LeO.ite ?_ ?_)
      | (with_reducible refine LeO.bind ?_ (fun _ => ?_))
      | exact ih0 _ _ _ _ _ _
      | exact LeO.none _
      | refine LeO.ite ?_ ?_
      | refine LeO.bind ?_ (fun _ => ?_)
theorem plimsollref01_bitwise.mono : ∀ a0 a1 a2 k, LeO (plimsollref01_bitwise.f k a0 a1 a2) (plimsollref01_bitwise.f (k + 1) a0 a1 a2) := by
  intro a0 a1 a2 k
  have ih0 := plimsollref01_bitwise.mono_l k
  unfold plimsollref01_bitwise.f
  repeat' first
      | (with_reducible exact ih0 _ _ _ _ _ _)
      | (with_reducible exact LeO.refl _)
      | (with_reducible exact LeO.none _)
      | (with_reducible refine LeO.ite ?_ ?_)
      | (with_reducible refine LeO.bind ?_ (fun _ => ?_))
      | exact ih0 _ _ _ _ _ _
      | exact LeO.none _
      | refine LeO.ite ?_ ?_
      | refine LeO.bind ?_ (fun _ => ?_)
set_option maxHeartbeats 8000000 in
set_option maxRecDepth 100000 in
theorem plimsollref01_bitwise.calls (k : Nat) (a0 : Int) (a1 : Int) (a2 : Int) (r : Int) (w : World) (h : plimsollref01_bitwise.f k a0 a1 a2 = some r) :
    Calls Try.prog 15 #[.int .i64 a0, .int .i64 a1, .int .i64 a2] w fun e w' => e = .returned (.int .i64 r) ∧ Drawn0 w w' := by
  have H : (plimsollref01_bitwise.l0 k a0 a1 a2 0 1 0) = some r := h
  clear h
  have H' := Aside0.mk H
  clear H
  go_enter Try.func15, Try.ntmps15
  go_wp2
  go_loopg [1, 2, 7, 8, 9] k (fun kq v1 v2 v7 v8 v9 w' => ∃ (x1_1 : Int) (x2_1 : Int) (x7_1 : Int) (x8_1 : Int) (x9_1 : Int), v1 = .int .i64 x1_1 ∧ v2 = .int .i64 x2_1 ∧ v7 = .int .i64 x7_1 ∧ v8 = .int .i64 x8_1 ∧ v9 = .int .i64 x9_1 ∧ Aside0 (plimsollref01_bitwise.l0 kq a0 x1_1 x2_1 x7_1 x8_1 x9_1 = some r) ∧ Aside0 (kq ≤ k) ∧ Drawn0 w w')
  case atStart => exact ⟨(a1), (a2), (0), (1), (0), (by first | rfl | (simp; done) | (simp [*]; done)), (by first | rfl | (simp; done) | (simp [*]; done)), (by first | rfl | (simp; done) | (simp [*]; done)), (by first | rfl | (simp; done) | (simp [*]; done)), (by first | rfl | (simp; done) | (simp [*]; done)), H', ⟨Nat.le_refl _⟩, by repeat (first | exact Drawn0.refl _ | apply Drawn0.step)⟩
  case round =>
    clear H'
    try clear c1
    try clear p2
    obtain ⟨x1_1, x2_1, x7_1, x8_1, x9_1, rfl, rfl, rfl, rfl, rfl, HA, HK1, ⟨m1, rfl⟩⟩ := hrel
    cases gk with
    | zero => exact absurd HA.out (by simp [plimsollref01_bitwise.l0])
    | succ k1 =>
      have H := HA.out
      clear HA
      simp only [plimsollref01_bitwise.l0] at H
      by_cases c4 : x9_1 < 32
      · rw [if_pos c4] at H
        have c4b0 : decide (x9_1 < 32) = true := decide_eq_true c4
        clear c4
        by_cases c5 : a0 = 12
        · rw [if_pos c5] at H
          have c5b0 : (a0 == 12) = true := beq_iff_eq.mpr c5
          have c5b1 : (a0 != 12) = false := bne_eq_false_iff_eq.mpr c5
          clear c5
          by_cases c6 : (Int.tmod x1_1 2) = 1
          · rw [if_pos c6] at H
            have c6b0 : ((Int.tmod x1_1 2) == 1) = true := beq_iff_eq.mpr c6
            have c6b1 : ((Int.tmod x1_1 2) != 1) = false := bne_eq_false_iff_eq.mpr c6
            clear c6
            by_cases c7 : (Int.tmod x2_1 2) = 1
            · rw [if_pos c7] at H
              have c7b0 : ((Int.tmod x2_1 2) == 1) = true := beq_iff_eq.mpr c7
              have c7b1 : ((Int.tmod x2_1 2) != 1) = false := bne_eq_false_iff_eq.mpr c7
              clear c7
              have H' := Aside0.mk H
              clear H
              go_wp2
              go_roundg k1
              case measure => have := HK1.out; omega
              case rel => exact ⟨(wrap64 (Int.tdiv x1_1 2)), (wrap64 (Int.tdiv x2_1 2)), (wrap64 (x7_1 + x8_1)), (wrap64 (x8_1 * 2)), (wrap64 (x9_1 + 1)), (by first | rfl | (simp; done) | (simp [*]; done)), (by first | rfl | (simp; done) | (simp [*]; done)), (by first | rfl | (simp; done) | (simp [*]; done)), (by first | rfl | (simp; done) | (simp [*]; done)), (by first | rfl | (simp; done) | (simp [*]; done)), H', ⟨by have := HK1.out; omega⟩, by repeat (first | exact Drawn0.refl _ | apply Drawn0.step)⟩
            · rw [if_neg c7] at H
              have c7b0 : ((Int.tmod x2_1 2) == 1) = false := beq_eq_false_iff_ne.mpr c7
              have c7b1 : ((Int.tmod x2_1 2) != 1) = true := bne_iff_ne.mpr c7
              by_cases c8 : a0 = 13
              · rw [if_pos c8] at H
                have c8b0 : (a0 == 13) = true := beq_iff_eq.mpr c8
                have c8b1 : (a0 != 13) = false := bne_eq_false_iff_eq.mpr c8
                clear c8
                by_cases c9 : (Int.tmod x1_1 2) = (Int.tmod x2_1 2)
                · rw [if_pos c9] at H
                  have c9b0 : ((Int.tmod x1_1 2) == (Int.tmod x2_1 2)) = true := beq_iff_eq.mpr c9
                  have c9b1 : ((Int.tmod x1_1 2) != (Int.tmod x2_1 2)) = false := bne_eq_false_iff_eq.mpr c9
                  clear c9
                  have H' := Aside0.mk H
                  clear H
                  go_wp2
                  go_roundg k1
                  case measure => have := HK1.out; omega
                  case rel => exact ⟨(wrap64 (Int.tdiv x1_1 2)), (wrap64 (Int.tdiv x2_1 2)), (x7_1), (wrap64 (x8_1 * 2)), (wrap64 (x9_1 + 1)), (by first | rfl | (simp; done) | (simp [*]; done)), (by first | rfl | (simp; done) | (simp [*]; done)), (by first | rfl | (simp; done) | (simp [*]; done)), (by first | rfl | (simp; done) | (simp [*]; done)), (by first | rfl | (simp; done) | (simp [*]; done)), H', ⟨by have := HK1.out; omega⟩, by repeat (first | exact Drawn0.refl _ | apply Drawn0.step)⟩
                · rw [if_neg c9] at H
                  have c9b0 : ((Int.tmod x1_1 2) == (Int.tmod x2_1 2)) = false := beq_eq_false_iff_ne.mpr c9
                  have c9b1 : ((Int.tmod x1_1 2) != (Int.tmod x2_1 2)) = true := bne_iff_ne.mpr c9
                  have H' := Aside0.mk H
                  clear H
                  go_wp2
                  go_roundg k1
                  case measure => have := HK1.out; omega
                  case rel => exact ⟨(wrap64 (Int.tdiv x1_1 2)), (wrap64 (Int.tdiv x2_1 2)), (wrap64 (x7_1 + x8_1)), (wrap64 (x8_1 * 2)), (wrap64 (x9_1 + 1)), (by first | rfl | (simp; done) | (simp [*]; done)), (by first | rfl | (simp; done) | (simp [*]; done)), (by first | rfl | (simp; done) | (simp [*]; done)), (by first | rfl | (simp; done) | (simp [*]; done)), (by first | rfl | (simp; done) | (simp [*]; done)), H', ⟨by have := HK1.out; omega⟩, by repeat (first | exact Drawn0.refl _ | apply Drawn0.step)⟩
              · rw [if_neg c8] at H
                have c8b0 : (a0 == 13) = false := beq_eq_false_iff_ne.mpr c8
                have c8b1 : (a0 != 13) = true := bne_iff_ne.mpr c8
                have H' := Aside0.mk H
                clear H
                go_wp2
                go_roundg k1
                case measure => have := HK1.out; omega
                case rel => exact ⟨(wrap64 (Int.tdiv x1_1 2)), (wrap64 (Int.tdiv x2_1 2)), (x7_1), (wrap64 (x8_1 * 2)), (wrap64 (x9_1 + 1)), (by first | rfl | (simp; done) | (simp [*]; done)), (by first | rfl | (simp; done) | (simp [*]; done)), (by first | rfl | (simp; done) | (simp [*]; done)), (by first | rfl | (simp; done) | (simp [*]; done)), (by first | rfl | (simp; done) | (simp [*]; done)), H', ⟨by have := HK1.out; omega⟩, by repeat (first | exact Drawn0.refl _ | apply Drawn0.step)⟩
          · rw [if_neg c6] at H
            have c6b0 : ((Int.tmod x1_1 2) == 1) = false := beq_eq_false_iff_ne.mpr c6
            have c6b1 : ((Int.tmod x1_1 2) != 1) = true := bne_iff_ne.mpr c6
            by_cases c10 : a0 = 13
            · rw [if_pos c10] at H
              have c10b0 : (a0 == 13) = true := beq_iff_eq.mpr c10
              have c10b1 : (a0 != 13) = false := bne_eq_false_iff_eq.mpr c10
              clear c10
              by_cases c11 : (Int.tmod x1_1 2) = (Int.tmod x2_1 2)
              · rw [if_pos c11] at H
                have c11b0 : ((Int.tmod x1_1 2) == (Int.tmod x2_1 2)) = true := beq_iff_eq.mpr c11
                have c11b1 : ((Int.tmod x1_1 2) != (Int.tmod x2_1 2)) = false := bne_eq_false_iff_eq.mpr c11
                clear c11
                have H' := Aside0.mk H
                clear H
                go_wp2
                go_roundg k1
                case measure => have := HK1.out; omega
                case rel => exact ⟨(wrap64 (Int.tdiv x1_1 2)), (wrap64 (Int.tdiv x2_1 2)), (x7_1), (wrap64 (x8_1 * 2)), (wrap64 (x9_1 + 1)), (by first | rfl | (simp; done) | (simp [*]; done)), (by first | rfl | (simp; done) | (simp [*]; done)), (by first | rfl | (simp; done) | (simp [*]; done)), (by first | rfl | (simp; done) | (simp [*]; done)), (by first | rfl | (simp; done) | (simp [*]; done)), H', ⟨by have := HK1.out; omega⟩, by repeat (first | exact Drawn0.refl _ | apply Drawn0.step)⟩
              · rw [if_neg c11] at H
                have c11b0 : ((Int.tmod x1_1 2) == (Int.tmod x2_1 2)) = false := beq_eq_false_iff_ne.mpr c11
                have c11b1 : ((Int.tmod x1_1 2) != (Int.tmod x2_1 2)) = true := bne_iff_ne.mpr c11
                have H' := Aside0.mk H
                clear H
                go_wp2
                go_roundg k1
                case measure => have := HK1.out; omega
                case rel => exact ⟨(wrap64 (Int.tdiv x1_1 2)), (wrap64 (Int.tdiv x2_1 2)), (wrap64 (x7_1 + x8_1)), (wrap64 (x8_1 * 2)), (wrap64 (x9_1 + 1)), (by first | rfl | (simp; done) | (simp [*]; done)), (by first | rfl | (simp; done) | (simp [*]; done)), (by first | rfl | (simp; done) | (simp [*]; done)), (by first | rfl | (simp; done) | (simp [*]; done)), (by first | rfl | (simp; done) | (simp [*]; done)), H', ⟨by have := HK1.out; omega⟩, by repeat (first | exact Drawn0.refl _ | apply Drawn0.step)⟩
            · rw [if_neg c10] at H
              have c10b0 : (a0 == 13) = false := beq_eq_false_iff_ne.mpr c10
              have c10b1 : (a0 != 13) = true := bne_iff_ne.mpr c10
              have H' := Aside0.mk H
              clear H
              go_wp2
              go_roundg k1
              case measure => have := HK1.out; omega
              case rel => exact ⟨(wrap64 (Int.tdiv x1_1 2)), (wrap64 (Int.tdiv x2_1 2)), (x7_1), (wrap64 (x8_1 * 2)), (wrap64 (x9_1 + 1)), (by first | rfl | (simp; done) | (simp [*]; done)), (by first | rfl | (simp; done) | (simp [*]; done)), (by first | rfl | (simp; done) | (simp [*]; done)), (by first | rfl | (simp; done) | (simp [*]; done)), (by first | rfl | (simp; done) | (simp [*]; done)), H', ⟨by have := HK1.out; omega⟩, by repeat (first | exact Drawn0.refl _ | apply Drawn0.step)⟩
        · rw [if_neg c5] at H
          have c5b0 : (a0 == 12) = false := beq_eq_false_iff_ne.mpr c5
          have c5b1 : (a0 != 12) = true := bne_iff_ne.mpr c5
          by_cases c12 : a0 = 13
          · rw [if_pos c12] at H
            have c12b0 : (a0 == 13) = true := beq_iff_eq.mpr c12
            have c12b1 : (a0 != 13) = false := bne_eq_false_iff_eq.mpr c12
            clear c12
            by_cases c13 : (Int.tmod x1_1 2) = (Int.tmod x2_1 2)
            · rw [if_pos c13] at H
              have c13b0 : ((Int.tmod x1_1 2) == (Int.tmod x2_1 2)) = true := beq_iff_eq.mpr c13
              have c13b1 : ((Int.tmod x1_1 2) != (Int.tmod x2_1 2)) = false := bne_eq_false_iff_eq.mpr c13
              clear c13
              have H' := Aside0.mk H
              clear H
              go_wp2
              go_roundg k1
              case measure => have := HK1.out; omega
              case rel => exact ⟨(wrap64 (Int.tdiv x1_1 2)), (wrap64 (Int.tdiv x2_1 2)), (x7_1), (wrap64 (x8_1 * 2)), (wrap64 (x9_1 + 1)), (by first | rfl | (simp; done) | (simp [*]; done)), (by first | rfl | (simp; done) | (simp [*]; done)), (by first | rfl | (simp; done) | (simp [*]; done)), (by first | rfl | (simp; done) | (simp [*]; done)), (by first | rfl | (simp; done) | (simp [*]; done)), H', ⟨by have := HK1.out; omega⟩, by repeat (first | exact Drawn0.refl _ | apply Drawn0.step)⟩
            · rw [if_neg c13] at H
              have c13b0 : ((Int.tmod x1_1 2) == (Int.tmod x2_1 2)) = false := beq_eq_false_iff_ne.mpr c13
              have c13b1 : ((Int.tmod x1_1 2) != (Int.tmod x2_1 2)) = true := bne_iff_ne.mpr c13
              have H' := Aside0.mk H
              clear H
              go_wp2
              go_roundg k1
              case measure => have := HK1.out; omega
              case rel => exact ⟨(wrap64 (Int.tdiv x1_1 2)), (wrap64 (Int.tdiv x2_1 2)), (wrap64 (x7_1 + x8_1)), (wrap64 (x8_1 * 2)), (wrap64 (x9_1 + 1)), (by first | rfl | (simp; done) | (simp [*]; done)), (by first | rfl | (simp; done) | (simp [*]; done)), (by first | rfl | (simp; done) | (simp [*]; done)), (by first | rfl | (simp; done) | (simp [*]; done)), (by first | rfl | (simp; done) | (simp [*]; done)), H', ⟨by have := HK1.out; omega⟩, by repeat (first | exact Drawn0.refl _ | apply Drawn0.step)⟩
          · rw [if_neg c12] at H
            have c12b0 : (a0 == 13) = false := beq_eq_false_iff_ne.mpr c12
            have c12b1 : (a0 != 13) = true := bne_iff_ne.mpr c12
            have H' := Aside0.mk H
            clear H
            go_wp2
            go_roundg k1
            case measure => have := HK1.out; omega
            case rel => exact ⟨(wrap64 (Int.tdiv x1_1 2)), (wrap64 (Int.tdiv x2_1 2)), (x7_1), (wrap64 (x8_1 * 2)), (wrap64 (x9_1 + 1)), (by first | rfl | (simp; done) | (simp [*]; done)), (by first | rfl | (simp; done) | (simp [*]; done)), (by first | rfl | (simp; done) | (simp [*]; done)), (by first | rfl | (simp; done) | (simp [*]; done)), (by first | rfl | (simp; done) | (simp [*]; done)), H', ⟨by have := HK1.out; omega⟩, by repeat (first | exact Drawn0.refl _ | apply Drawn0.step)⟩
      · rw [if_neg c4] at H
        have c4b0 : decide (x9_1 < 32) = false := decide_eq_false c4
        clear c4
        obtain rfl := Option.some.inj H
        go_wp2
        go_ret
        exact ⟨by first | rfl | (simp; done) | (simp [*]; done), by repeat (first | exact Drawn0.refl _ | apply Drawn0.step)⟩

/-! ### plimsollref01_whole: function 16 -/
def plimsollref01_whole.f (a0 : Int) : Option (Int) := if a0 < 0 then (some (wrap64 ((wrap64 (a0)) + 4294967296))) else (some (wrap64 (a0)))
set_option maxHeartbeats 8000000 in
set_option maxRecDepth 100000 in
theorem plimsollref01_whole.calls (a0 : Int) (r : Int) (w : World) (h : plimsollref01_whole.f a0 = some r) :
    Calls Try.prog 16 #[.int .i32 a0] w fun e w' => e = .returned (.int .i64 r) ∧ Drawn0 w w' := by
  have H : (if a0 < 0 then (some (wrap64 ((wrap64 (a0)) + 4294967296))) else (some (wrap64 (a0)))) = some r := h
  clear h
  by_cases c2 : a0 < 0
  · rw [if_pos c2] at H
    have c2b0 : decide (a0 < 0) = true := decide_eq_true c2
    clear c2
    obtain rfl := Option.some.inj H
    go_enter Try.func16, Try.ntmps16
    go_wp2
    go_ret
    exact ⟨by first | rfl | (simp; done) | (simp [*]; done), by repeat (first | exact Drawn0.refl _ | apply Drawn0.step)⟩
  · rw [if_neg c2] at H
    have c2b0 : decide (a0 < 0) = false := decide_eq_false c2
    clear c2
    obtain rfl := Option.some.inj H
    go_enter Try.func16, Try.ntmps16
    go_wp2
    go_ret
    exact ⟨by first | rfl | (simp; done) | (simp [*]; done), by repeat (first | exact Drawn0.refl _ | apply Drawn0.step)⟩

end Go.Proofs.Ytnpcaickoeboeaa.PNumDoes
