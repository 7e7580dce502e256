-- PRINTED BY print.sh 35421559b90ae4d0a3588c463048766b98c2df88dd9212a6774a882060cdf62d: not written by this session
import Derived.Test.YtnpcaickoeboeaaPNumDoesx0
import Derived.Test.YtnpcaickoeboeaaPNumDoesx1
namespace Go.Proofs.Ytnpcaickoeboeaa.PNumDoes
open Go.RowKit Go.Proofs.YtnpcaickoeboeaaW.PrintWords Go.Proofs.YtnpcaickoeboeaaW.PrintLast Go.Proofs.YtnpcaickoeboeaaW.PrintMore
attribute [local go_sem] max2_int min2_int max_two min_two max_three min_three max_four min_four   -- for this text's walks alone
set_option linter.unusedVariables false
set_option linter.unusedSimpArgs false

/-! ### plimsollref01_Do: function 9 -/
mutual
def plimsollref01_Do.j0 : Nat → Int → Int → Int → Int → Int → Int → Bool → Option (Int × Bool)
  | 0, _, _, _, _, _, _, _ => none
  | k + 1, x0, x1, x2, x8, x9, x18, x37 => if x37 = true then (if x9 = 0 then (some (0, false)) else (if x0 = 10 then ((plimsollref01_wrap.f (wrap64 (Int.tdiv x8 x9))).bind fun t107 => (some (t107, true))) else ((plimsollref01_wrap.f (Int.tmod x8 x9)).bind fun t108 => (some (t108, true))))) else (if x18 = 12 then (plimsollref01_Do.j1 k x0 x1 x2 x8 x18 (x18 == 12)) else (plimsollref01_Do.j1 k x0 x1 x2 x8 x18 (x18 == 13)))
def plimsollref01_Do.j1 : Nat → Int → Int → Int → Int → Int → Bool → Option (Int × Bool)
  | 0, _, _, _, _, _, _ => none
  | k + 1, x0, x1, x2, x8, x18, x52 => if x52 = true then ((plimsollref01_whole.f x1).bind fun t109 => ((plimsollref01_whole.f x2).bind fun t110 => ((plimsollref01_bitwise.f k x0 t109 t110).bind fun t111 => ((plimsollref01_wrap.f t111).bind fun t112 => (some (t112, true)))))) else (if x18 = 14 then (plimsollref01_Do.l0 k x2 x8 0) else (if x18 = 15 then (plimsollref01_Do.l1 k x2 x8 0) else (if x18 = 16 then (if x1 < x2 then (some (1, true)) else (some (0, true))) else (if x18 = 17 then (if x1 = x2 then (some (1, true)) else (some (0, true))) else (some (0, false))))))
def plimsollref01_Do.l0 : Nat → Int → Int → Int → Option (Int × Bool)
  | 0, _, _, _ => none
  | k + 1, x2, x10, x11 => (plimsollref01_whole.f x2).bind fun t113 => (if x11 < (Int.tmod t113 32) then ((plimsollref01_wrap.f (wrap64 (2 * x10))).bind fun t114 => (plimsollref01_Do.l0 k x2 (wrap64 (t114)) (wrap64 (x11 + 1)))) else ((plimsollref01_wrap.f x10).bind fun t115 => (some (t115, true))))
def plimsollref01_Do.l1 : Nat → Int → Int → Int → Option (Int × Bool)
  | 0, _, _, _ => none
  | k + 1, x2, x12, x13 => (plimsollref01_whole.f x2).bind fun t116 => (if x13 < (Int.tmod t116 32) then (if x12 < 0 then (plimsollref01_Do.l1 k x2 (wrap64 (Int.tdiv (wrap64 (x12 - 1)) 2)) (wrap64 (x13 + 1))) else (plimsollref01_Do.l1 k x2 (wrap64 (Int.tdiv x12 2)) (wrap64 (x13 + 1)))) else ((plimsollref01_wrap.f x12).bind fun t117 => (some (t117, true))))
end
def plimsollref01_Do.f (k : Nat) (a0 : Int) (a1 : Int) (a2 : Int) : Option (Int × Bool) := if a0 = 7 then ((plimsollref01_wrap.f (wrap64 ((wrap64 (a1)) + (wrap64 (a2))))).bind fun t104 => (some (t104, true))) else (if a0 = 8 then ((plimsollref01_wrap.f (wrap64 ((wrap64 (a1)) - (wrap64 (a2))))).bind fun t105 => (some (t105, true))) else (if a0 = 9 then ((plimsollref01_wrap.f (wrap64 ((wrap64 (a1)) * (wrap64 (a2))))).bind fun t106 => (some (t106, true))) else (if a0 = 10 then (plimsollref01_Do.j0 k a0 a1 a2 (wrap64 (a1)) (wrap64 (a2)) a0 (a0 == 10)) else (plimsollref01_Do.j0 k a0 a1 a2 (wrap64 (a1)) (wrap64 (a2)) a0 (a0 == 11)))))
theorem plimsollref01_Do.mono_l : ∀ k, (∀ y0 y1 y2 y3 y4 y5 y6, LeO (plimsollref01_Do.j0 k y0 y1 y2 y3 y4 y5 y6) (plimsollref01_Do.j0 (k + 1) y0 y1 y2 y3 y4 y5 y6)) ∧ (∀ y0 y1 y2 y3 y4 y5, LeO (plimsollref01_Do.j1 k y0 y1 y2 y3 y4 y5) (plimsollref01_Do.j1 (k + 1) y0 y1 y2 y3 y4 y5)) ∧ (∀ y0 y1 y2, LeO (plimsollref01_Do.l0 k y0 y1 y2) (plimsollref01_Do.l0 (k + 1) y0 y1 y2)) ∧ (∀ y0 y1 y2, LeO (plimsollref01_Do.l1 k y0 y1 y2) (plimsollref01_Do.l1 (k + 1) y0 y1 y2))
  | 0 => ⟨fun _ _ _ _ _ _ _ r h => by simp [plimsollref01_Do.j0] at h, fun _ _ _ _ _ _ r h => by simp [plimsollref01_Do.j1] at h, fun _ _ _ r h => by simp [plimsollref01_Do.l0] at h, fun _ _ _ r h => by simp [plimsollref01_Do.l1] at h⟩
  | k + 1 => by
    obtain ⟨ih0, ih1, ih2, ih3⟩ := plimsollref01_Do.mono_l k
    refine ⟨?_, ?_, ?_, ?_⟩
    · intro y0 y1 y2 y3 y4 y5 y6
      unfold plimsollref01_Do.j0
      repeat' first
      | (with_reducible exact ih0 _ _ _ _ _ _ _)
      | (with_reducible exact ih1 _ _ _ _ _ _)
      | (with_reducible exact ih2 _ _ _)
      | (with_reducible exact ih3 _ _ _)
      | (with_reducible exact plimsollref01_bitwise.mono _ _ _ _)
      | (with_reducible exact LeO.refl _)
      | (with_reducible exact LeO.none _)
      | (with_reducible refine LeO.ite ?_ ?_)
      | (with_reducible refine LeO.bind ?_ (fun _ => ?_))
      | exact ih0 _ _ _ _ _ _ _
      | exact ih1 _ _ _ _ _ _
      | exact ih2 _ _ _
      | exact ih3 _ _ _
      | exact plimsollref01_bitwise.mono _ _ _ _
      | exact LeO.none _
      | refine LeO.ite ?_ ?_
      | refine LeO.bind ?_ (fun _ => ?_)
    · intro y0 y1 y2 y3 y4 y5
      unfold plimsollref01_Do.j1
      repeat' first
      | (with_reducible exact ih0 _ _ _ _ _ _ _)
      | (with_reducible exact ih1 _ _ _ _ _ _)
      | (with_reducible exact ih2 _ _ _)
      | (with_reducible exact ih3 _ _ _)
      | (with_reducible exact plimsollref01_bitwise.mono _ _ _ _)
      | (with_reducible exact LeO.refl _)
      | (with_reducible exact LeO.none _)
      | (with_reducible refine LeO.ite ?_ ?_)
      | (with_reducible refine LeO.bind ?_ (fun _ => ?_))
      | exact ih0 _ _ _ _ _ _ _
      | exact ih1 _ _ _ _ _ _
      | exact ih2 _ _ _
      | exact ih3 _ _ _
      | exact plimsollref01_bitwise.mono _ _ _ _
      | exact LeO.none _
      | refine LeO.ite ?_ ?_
      | refine LeO.bind ?_ (fun _ => ?_)
    · intro y0 y1 y2
      unfold plimsollref01_Do.l0
      repeat' first
      | (with_reducible exact ih0 _ _ _ _ _ _ _)
      | (with_reducible exact ih1 _ _ _ _ _ _)
      | (with_reducible exact ih2 _ _ _)
      | (with_reducible exact ih3 _ _ _)
      | (with_reducible exact plimsollref01_bitwise.mono _ _ _ _)
      | (with_reducible exact LeO.refl _)
      | (with_reducible exact LeO.none _)
      | (with_reducible refine LeO.ite ?_ ?_)
      | (with_reducible refine LeO.bind ?_ (fun _ => ?_))
      | exact ih0 _ _ _ _ _ _ _
      | exact ih1 _ _ _ _ _ _
      | exact ih2 _ _ _
      | exact ih3 _ _ _
      | exact plimsollref01_bitwise.mono _ _ _ _
      | exact LeO.none _
      | refine LeO.ite ?_ ?_
      | refine LeO.bind ?_ (fun _ => ?_)
    · intro y0 y1 y2
      unfold plimsollref01_Do.l1
      repeat' first
      | (with_reducible exact ih0 _ _ _ _ _ _ _)
      | (with_reducible exact ih1 _ _ _ _ _ _)
      | (with_reducible exact ih2 _ _ _)
      | (with_reducible exact ih3 _ _ _)
      | (with_reducible exact plimsollref01_bitwise.mono _ _ _ _)
      | (with_reducible exact LeO.refl _)
      | (with_reducible exact LeO.none _)
      | (with_reducible refine LeO.ite ?_ ?_)
      | (with_reducible refine LeO.bind ?_ (fun _ => ?_))
      | exact ih0 _ _ _ _ _ _ _
      | exact ih1 _ _ _ _ _ _
      | exact ih2 _ _ _
      | exact ih3 _ _ _
      | exact plimsollref01_bitwise.mono _ _ _ _
      | exact LeO.none _
      | refine LeO.ite ?_ ?_
      | refine LeO.bind ?_ (fun _ => ?_)
theorem plimsollref01_Do.mono : ∀ a0 a1 a2 k, LeO (plimsollref01_Do.f k a0 a1 a2) (plimsollref01_Do.f (k + 1) a0 a1 a2) := by
  intro a0 a1 a2 k
  obtain ⟨ih0, ih1, ih2, ih3⟩ := plimsollref01_Do.mono_l k
  unfold plimsollref01_Do.f
  repeat' first
      | (with_reducible exact ih0 _ _ _ _ _ _ _)
      | (with_reducible exact ih1 _ _ _ _ _ _)
      | (with_reducible exact ih2 _ _ _)
      | (with_reducible exact ih3 _ _ _)
      | (with_reducible exact plimsollref01_bitwise.mono _ _ _ _)
      | (with_reducible exact LeO.refl _)
      | (with_reducible exact LeO.none _)
      | (with_reducible refine LeO.ite ?_ ?_)
      | (with_reducible refine LeO.bind ?_ (fun _ => ?_))
      | exact ih0 _ _ _ _ _ _ _
      | exact ih1 _ _ _ _ _ _
      | exact ih2 _ _ _
      | exact ih3 _ _ _
      | exact plimsollref01_bitwise.mono _ _ _ _
      | exact LeO.none _
      | refine LeO.ite ?_ ?_
      | refine LeO.bind ?_ (fun _ => ?_)
set_option maxHeartbeats 8000000 in
set_option maxRecDepth 100000 in
theorem plimsollref01_Do.calls (k : Nat) (a0 : Int) (a1 : Int) (a2 : Int) (r1 : Int) (r2 : Bool) (w : World) (h : plimsollref01_Do.f k a0 a1 a2 = some (r1, r2)) :
    Calls Try.prog 9 #[.int .i64 a0, .int .i32 a1, .int .i32 a2] w fun e w' => e = .returned (.tuple #[.int .i32 r1, .bool r2]) ∧ Drawn0 w w' := by
  have H : (if a0 = 7 then ((plimsollref01_wrap.f (wrap64 ((wrap64 (a1)) + (wrap64 (a2))))).bind fun t104 => (some (t104, true))) else (if a0 = 8 then ((plimsollref01_wrap.f (wrap64 ((wrap64 (a1)) - (wrap64 (a2))))).bind fun t105 => (some (t105, true))) else (if a0 = 9 then ((plimsollref01_wrap.f (wrap64 ((wrap64 (a1)) * (wrap64 (a2))))).bind fun t106 => (some (t106, true))) else (if a0 = 10 then (plimsollref01_Do.j0 k a0 a1 a2 (wrap64 (a1)) (wrap64 (a2)) a0 (a0 == 10)) else (plimsollref01_Do.j0 k a0 a1 a2 (wrap64 (a1)) (wrap64 (a2)) a0 (a0 == 11)))))) = some (r1, r2) := h
  clear h
  by_cases c4 : a0 = 7
  · rw [if_pos c4] at H
    have c4b0 : (a0 == 7) = true := beq_iff_eq.mpr c4
    have c4b1 : (a0 != 7) = false := bne_eq_false_iff_eq.mpr c4
    clear c4
    replace H := Option.bind_eq_some_iff.mp H
    obtain ⟨t104, A50, H⟩ := H
    replace H : (some (t104, true)) = some (r1, r2) := H
    have A5 := Aside0.mk A50
    clear A50
    simp only [Option.some.injEq, Prod.mk.injEq] at H
    obtain ⟨rfl, rfl⟩ := H
    go_enter Try.func9, Try.ntmps9
    go_wp2_with (first | ((with_reducible refine gate_callee (f := 14) rfl ?_); refine goesL_ (some 24) rfl rfl Try.func14 (by kernel_rfl) rfl #[.int .i64 (wrap64 ((wrap64 (a1)) + (wrap64 (a2))))] rfl (by (try simp only [List.map_toArray, List.map_cons, List.map_nil]); first | done | rfl | (simp only [List.length_drop, List.length_take]; rfl)) ?_; (with_reducible refine (plimsollref01_wrap.calls (wrap64 ((wrap64 (a1)) + (wrap64 (a2)))) t104 _ A5.out).mono ?_); rintro e w' ⟨rfl, ⟨nd, rfl⟩⟩; refine ⟨_, rfl, ?_⟩))
    go_ret2
    exact ⟨by first | rfl | (simp; done) | (simp [*]; done), by repeat (first | exact Drawn0.refl _ | apply Drawn0.step)⟩
  · rw [if_neg c4] at H
    have c4b0 : (a0 == 7) = false := beq_eq_false_iff_ne.mpr c4
    have c4b1 : (a0 != 7) = true := bne_iff_ne.mpr c4
    by_cases c6 : a0 = 8
    · rw [if_pos c6] at H
      have c6b0 : (a0 == 8) = true := beq_iff_eq.mpr c6
      have c6b1 : (a0 != 8) = false := bne_eq_false_iff_eq.mpr c6
      clear c6
      replace H := Option.bind_eq_some_iff.mp H
      obtain ⟨t105, A70, H⟩ := H
      replace H : (some (t105, true)) = some (r1, r2) := H
      have A7 := Aside0.mk A70
      clear A70
      simp only [Option.some.injEq, Prod.mk.injEq] at H
      obtain ⟨rfl, rfl⟩ := H
      go_enter Try.func9, Try.ntmps9
      go_wp2_with (first | ((with_reducible refine gate_callee (f := 14) rfl ?_); refine goesL_ (some 30) rfl rfl Try.func14 (by kernel_rfl) rfl #[.int .i64 (wrap64 ((wrap64 (a1)) - (wrap64 (a2))))] rfl (by (try simp only [List.map_toArray, List.map_cons, List.map_nil]); first | done | rfl | (simp only [List.length_drop, List.length_take]; rfl)) ?_; (with_reducible refine (plimsollref01_wrap.calls (wrap64 ((wrap64 (a1)) - (wrap64 (a2)))) t105 _ A7.out).mono ?_); rintro e w' ⟨rfl, ⟨nd, rfl⟩⟩; refine ⟨_, rfl, ?_⟩))
      go_ret2
      exact ⟨by first | rfl | (simp; done) | (simp [*]; done), by repeat (first | exact Drawn0.refl _ | apply Drawn0.step)⟩
    · rw [if_neg c6] at H
      have c6b0 : (a0 == 8) = false := beq_eq_false_iff_ne.mpr c6
      have c6b1 : (a0 != 8) = true := bne_iff_ne.mpr c6
      by_cases c8 : a0 = 9
      · rw [if_pos c8] at H
        have c8b0 : (a0 == 9) = true := beq_iff_eq.mpr c8
        have c8b1 : (a0 != 9) = false := bne_eq_false_iff_eq.mpr c8
        clear c8
        replace H := Option.bind_eq_some_iff.mp H
        obtain ⟨t106, A90, H⟩ := H
        replace H : (some (t106, true)) = some (r1, r2) := H
        have A9 := Aside0.mk A90
        clear A90
        simp only [Option.some.injEq, Prod.mk.injEq] at H
        obtain ⟨rfl, rfl⟩ := H
        go_enter Try.func9, Try.ntmps9
        go_wp2_with (first | ((with_reducible refine gate_callee (f := 14) rfl ?_); refine goesL_ (some 36) rfl rfl Try.func14 (by kernel_rfl) rfl #[.int .i64 (wrap64 ((wrap64 (a1)) * (wrap64 (a2))))] rfl (by (try simp only [List.map_toArray, List.map_cons, List.map_nil]); first | done | rfl | (simp only [List.length_drop, List.length_take]; rfl)) ?_; (with_reducible refine (plimsollref01_wrap.calls (wrap64 ((wrap64 (a1)) * (wrap64 (a2)))) t106 _ A9.out).mono ?_); rintro e w' ⟨rfl, ⟨nd, rfl⟩⟩; refine ⟨_, rfl, ?_⟩))
        go_ret2
        exact ⟨by first | rfl | (simp; done) | (simp [*]; done), by repeat (first | exact Drawn0.refl _ | apply Drawn0.step)⟩
      · rw [if_neg c8] at H
        have c8b0 : (a0 == 9) = false := beq_eq_false_iff_ne.mpr c8
        have c8b1 : (a0 != 9) = true := bne_iff_ne.mpr c8
        have HC10 := Aside0.mk H
        clear H
        go_enter Try.func9, Try.ntmps9
        go_upto_if 37 with (fail)
        go_cut [37] (fun v37 wc => ∃ (kq : Nat) (x37_9 : Bool), v37 = .bool x37_9 ∧ Aside0 (plimsollref01_Do.j0 kq a0 a1 a2 (wrap64 (a1)) (wrap64 (a2)) a0 x37_9 = some (r1, r2)) ∧ Aside0 (kq ≤ k) ∧ Drawn0 w wc)
        case first =>
          have H := HC10.out
          clear HC10
          by_cases c11 : a0 = 10
          · rw [if_pos c11] at H
            have c11b0 : (a0 == 10) = true := beq_iff_eq.mpr c11
            have c11b1 : (a0 != 10) = false := bne_eq_false_iff_eq.mpr c11
            clear c11
            (first | rw [c11b0] | (simp only [i64_w, i32_w]; rw [c11b0]) | skip)
            have H' := Aside0.mk H
            clear H
            go_wp2
            go_meet
            case rel => exact ⟨_, ((a0 == 10)), (by first | rfl | (simp; done) | (simp [*]; done)), H', ⟨by first | omega | exact Nat.le_refl _⟩, by repeat (first | exact Drawn0.refl _ | apply Drawn0.step)⟩
          · rw [if_neg c11] at H
            have c11b0 : (a0 == 10) = false := beq_eq_false_iff_ne.mpr c11
            have c11b1 : (a0 != 10) = true := bne_iff_ne.mpr c11
            (first | rw [c11b0] | (simp only [i64_w, i32_w]; rw [c11b0]) | skip)
            have H' := Aside0.mk H
            clear H
            go_wp2
            go_meet
            case rel => exact ⟨_, ((a0 == 11)), (by first | rfl | (simp; done) | (simp [*]; done)), H', ⟨by first | omega | exact Nat.le_refl _⟩, by repeat (first | exact Drawn0.refl _ | apply Drawn0.step)⟩
        case rest =>
          clear HC10
          try clear c1
          try clear p2
          try clear c4
          try clear c4b0
          try clear c4b1
          try clear c6
          try clear c6b0
          try clear c6b1
          try clear p6
          try clear c8
          try clear c8b0
          try clear c8b1
          try clear c9
          try clear c11
          try clear c11b0
          try clear c11b1
          obtain ⟨kq, x37_9, rfl, HA, HJ9, ⟨mc9, rfl⟩⟩ := hcut
          cases kq with
          | zero => exact absurd HA.out (by simp [plimsollref01_Do.j0])
          | succ kj9 =>
            have H := HA.out
            clear HA
            simp only [plimsollref01_Do.j0] at H
            by_cases c12 : x37_9 = true
            · subst c12
              have H1 : (if (wrap64 (a2)) = 0 then (some (0, false)) else (if a0 = 10 then ((plimsollref01_wrap.f (wrap64 (Int.tdiv (wrap64 (a1)) (wrap64 (a2))))).bind fun t107 => (some (t107, true))) else ((plimsollref01_wrap.f (Int.tmod (wrap64 (a1)) (wrap64 (a2)))).bind fun t108 => (some (t108, true))))) = some (r1, r2) := by rw [if_pos rfl] at H; exact H
              clear H
              have H := H1
              clear H1
              by_cases c13 : (wrap64 (a2)) = 0
              · rw [if_pos c13] at H
                have c13b0 : ((wrap64 (a2)) == 0) = true := beq_iff_eq.mpr c13
                have c13b1 : ((wrap64 (a2)) != 0) = false := bne_eq_false_iff_eq.mpr c13
                clear c13
                simp only [Option.some.injEq, Prod.mk.injEq] at H
                obtain ⟨rfl, rfl⟩ := H
                go_wp2
                go_ret2
                exact ⟨by first | rfl | (simp; done) | (simp [*]; done), by repeat (first | exact Drawn0.refl _ | apply Drawn0.step)⟩
              · rw [if_neg c13] at H
                have c13b0 : ((wrap64 (a2)) == 0) = false := beq_eq_false_iff_ne.mpr c13
                have c13b1 : ((wrap64 (a2)) != 0) = true := bne_iff_ne.mpr c13
                by_cases c14 : a0 = 10
                · rw [if_pos c14] at H
                  have c14b0 : (a0 == 10) = true := beq_iff_eq.mpr c14
                  have c14b1 : (a0 != 10) = false := bne_eq_false_iff_eq.mpr c14
                  clear c14
                  replace H := Option.bind_eq_some_iff.mp H
                  obtain ⟨t107, A150, H⟩ := H
                  replace H : (some (t107, true)) = some (r1, r2) := H
                  have A15 := Aside0.mk A150
                  clear A150
                  simp only [Option.some.injEq, Prod.mk.injEq] at H
                  obtain ⟨rfl, rfl⟩ := H
                  go_wp2_with (first | ((with_reducible refine gate_callee (f := 14) rfl ?_); refine goesL_ (some 47) rfl rfl Try.func14 (by kernel_rfl) rfl #[.int .i64 (wrap64 (Int.tdiv (wrap64 (a1)) (wrap64 (a2))))] rfl (by (try simp only [List.map_toArray, List.map_cons, List.map_nil]); first | done | rfl | (simp only [List.length_drop, List.length_take]; rfl)) ?_; (with_reducible refine (plimsollref01_wrap.calls (wrap64 (Int.tdiv (wrap64 (a1)) (wrap64 (a2)))) t107 _ A15.out).mono ?_); rintro e w' ⟨rfl, ⟨nd, rfl⟩⟩; refine ⟨_, rfl, ?_⟩))
                  go_ret2
                  exact ⟨by first | rfl | (simp; done) | (simp [*]; done), by repeat (first | exact Drawn0.refl _ | apply Drawn0.step)⟩
                · rw [if_neg c14] at H
                  have c14b0 : (a0 == 10) = false := beq_eq_false_iff_ne.mpr c14
                  have c14b1 : (a0 != 10) = true := bne_iff_ne.mpr c14
                  replace H := Option.bind_eq_some_iff.mp H
                  obtain ⟨t108, A160, H⟩ := H
                  replace H : (some (t108, true)) = some (r1, r2) := H
                  have A16 := Aside0.mk A160
                  clear A160
                  simp only [Option.some.injEq, Prod.mk.injEq] at H
                  obtain ⟨rfl, rfl⟩ := H
                  go_wp2_with (first | ((with_reducible refine gate_callee (f := 14) rfl ?_); refine goesL_ (some 51) rfl rfl Try.func14 (by kernel_rfl) rfl #[.int .i64 (Int.tmod (wrap64 (a1)) (wrap64 (a2)))] rfl (by (try simp only [List.map_toArray, List.map_cons, List.map_nil]); first | done | rfl | (simp only [List.length_drop, List.length_take]; rfl)) ?_; (with_reducible refine (plimsollref01_wrap.calls (Int.tmod (wrap64 (a1)) (wrap64 (a2))) t108 _ A16.out).mono ?_); rintro e w' ⟨rfl, ⟨nd, rfl⟩⟩; refine ⟨_, rfl, ?_⟩))
                  go_ret2
                  exact ⟨by first | rfl | (simp; done) | (simp [*]; done), by repeat (first | exact Drawn0.refl _ | apply Drawn0.step)⟩
            · replace c12 := Bool.eq_false_iff.mpr c12
              subst c12
              have H1 : (if a0 = 12 then (plimsollref01_Do.j1 kj9 a0 a1 a2 (wrap64 (a1)) a0 (a0 == 12)) else (plimsollref01_Do.j1 kj9 a0 a1 a2 (wrap64 (a1)) a0 (a0 == 13))) = some (r1, r2) := by rw [if_neg (show ¬ (false = true) by decide)] at H; exact H
              clear H
              have H := H1
              clear H1
              have HC17 := Aside0.mk H
              clear H
              go_upto_if 52 with (fail)
              go_cut [52] (fun v52 wc => ∃ (kq : Nat) (x52_16 : Bool), v52 = .bool x52_16 ∧ Aside0 (plimsollref01_Do.j1 kq a0 a1 a2 (wrap64 (a1)) a0 x52_16 = some (r1, r2)) ∧ Aside0 (kq ≤ kj9) ∧ Drawn0 w wc)
              case first =>
                have H := HC17.out
                clear HC17
                by_cases c18 : a0 = 12
                · rw [if_pos c18] at H
                  have c18b0 : (a0 == 12) = true := beq_iff_eq.mpr c18
                  have c18b1 : (a0 != 12) = false := bne_eq_false_iff_eq.mpr c18
                  clear c18
                  (first | rw [c18b0] | (simp only [i64_w, i32_w]; rw [c18b0]) | skip)
                  have H' := Aside0.mk H
                  clear H
                  go_wp2
                  go_meet
                  case rel => exact ⟨_, ((a0 == 12)), (by first | rfl | (simp; done) | (simp [*]; done)), H', ⟨by have := HJ9.out; first | omega | exact Nat.le_refl _⟩, by repeat (first | exact Drawn0.refl _ | apply Drawn0.step)⟩
                · rw [if_neg c18] at H
                  have c18b0 : (a0 == 12) = false := beq_eq_false_iff_ne.mpr c18
                  have c18b1 : (a0 != 12) = true := bne_iff_ne.mpr c18
                  (first | rw [c18b0] | (simp only [i64_w, i32_w]; rw [c18b0]) | skip)
                  have H' := Aside0.mk H
                  clear H
                  go_wp2
                  go_meet
                  case rel => exact ⟨_, ((a0 == 13)), (by first | rfl | (simp; done) | (simp [*]; done)), H', ⟨by have := HJ9.out; first | omega | exact Nat.le_refl _⟩, by repeat (first | exact Drawn0.refl _ | apply Drawn0.step)⟩
              case rest =>
                clear HC17
                try clear c1
                try clear p2
                try clear c4
                try clear c4b0
                try clear c4b1
                try clear c6
                try clear c6b0
                try clear c6b1
                try clear p6
                try clear c8
                try clear c8b0
                try clear c8b1
                try clear c9
                try clear c11
                try clear c11b0
                try clear c11b1
                try clear c12
                try clear c13
                try clear c13b0
                try clear c13b1
                try clear c14
                try clear c14b0
                try clear c14b1
                try clear c18
                try clear c18b0
                try clear c18b1
                try clear p2
                try clear p6
                obtain ⟨kq, x52_16, rfl, HA, HJ16, ⟨mc16, rfl⟩⟩ := hcut
                cases kq with
                | zero => exact absurd HA.out (by simp [plimsollref01_Do.j1])
                | succ kj16 =>
                  have H := HA.out
                  clear HA
                  simp only [plimsollref01_Do.j1] at H
                  by_cases c19 : x52_16 = true
                  · subst c19
                    have H1 : ((plimsollref01_whole.f a1).bind fun t109 => ((plimsollref01_whole.f a2).bind fun t110 => ((plimsollref01_bitwise.f kj16 a0 t109 t110).bind fun t111 => ((plimsollref01_wrap.f t111).bind fun t112 => (some (t112, true)))))) = some (r1, r2) := by rw [if_pos rfl] at H; exact H
                    clear H
                    have H := H1
                    clear H1
                    replace H := Option.bind_eq_some_iff.mp H
                    obtain ⟨t109, A200, H⟩ := H
                    replace H : ((plimsollref01_whole.f a2).bind fun t110 => ((plimsollref01_bitwise.f kj16 a0 t109 t110).bind fun t111 => ((plimsollref01_wrap.f t111).bind fun t112 => (some (t112, true))))) = some (r1, r2) := H
                    have A20 := Aside0.mk A200
                    clear A200
                    replace H := Option.bind_eq_some_iff.mp H
                    obtain ⟨t110, A210, H⟩ := H
                    replace H : ((plimsollref01_bitwise.f kj16 a0 t109 t110).bind fun t111 => ((plimsollref01_wrap.f t111).bind fun t112 => (some (t112, true)))) = some (r1, r2) := H
                    have A21 := Aside0.mk A210
                    clear A210
                    replace H := Option.bind_eq_some_iff.mp H
                    obtain ⟨t111, A220, H⟩ := H
                    replace H : ((plimsollref01_wrap.f t111).bind fun t112 => (some (t112, true))) = some (r1, r2) := H
                    have A22 := Aside0.mk A220
                    clear A220
                    replace H := Option.bind_eq_some_iff.mp H
                    obtain ⟨t112, A230, H⟩ := H
                    replace H : (some (t112, true)) = some (r1, r2) := H
                    have A23 := Aside0.mk A230
                    clear A230
                    simp only [Option.some.injEq, Prod.mk.injEq] at H
                    obtain ⟨rfl, rfl⟩ := H
                    go_wp2_with (first | ((with_reducible refine gate_callee (f := 16) rfl ?_); refine goesL_ (some 57) rfl rfl Try.func16 (by kernel_rfl) rfl #[.int .i32 a1] rfl (by (try simp only [List.map_toArray, List.map_cons, List.map_nil]); first | done | rfl | (simp only [List.length_drop, List.length_take]; rfl)) ?_; (with_reducible refine (plimsollref01_whole.calls a1 t109 _ A20.out).mono ?_); rintro e w' ⟨rfl, ⟨nd, rfl⟩⟩; refine ⟨_, rfl, ?_⟩) | ((with_reducible refine gate_callee (f := 16) rfl ?_); refine goesL_ (some 59) rfl rfl Try.func16 (by kernel_rfl) rfl #[.int .i32 a2] rfl (by (try simp only [List.map_toArray, List.map_cons, List.map_nil]); first | done | rfl | (simp only [List.length_drop, List.length_take]; rfl)) ?_; (with_reducible refine (plimsollref01_whole.calls a2 t110 _ A21.out).mono ?_); rintro e w' ⟨rfl, ⟨nd, rfl⟩⟩; refine ⟨_, rfl, ?_⟩) | ((with_reducible refine gate_callee (f := 15) rfl ?_); refine goesL_ (some 60) rfl rfl Try.func15 (by kernel_rfl) rfl #[.int .i64 a0, .int .i64 t109, .int .i64 t110] rfl (by (try simp only [List.map_toArray, List.map_cons, List.map_nil]); first | done | rfl | (simp only [List.length_drop, List.length_take]; rfl)) ?_; (with_reducible refine (plimsollref01_bitwise.calls kj16 a0 t109 t110 t111 _ A22.out).mono ?_); rintro e w' ⟨rfl, ⟨nd, rfl⟩⟩; refine ⟨_, rfl, ?_⟩) | ((with_reducible refine gate_callee (f := 14) rfl ?_); refine goesL_ (some 61) rfl rfl Try.func14 (by kernel_rfl) rfl #[.int .i64 t111] rfl (by (try simp only [List.map_toArray, List.map_cons, List.map_nil]); first | done | rfl | (simp only [List.length_drop, List.length_take]; rfl)) ?_; (with_reducible refine (plimsollref01_wrap.calls t111 t112 _ A23.out).mono ?_); rintro e w' ⟨rfl, ⟨nd, rfl⟩⟩; refine ⟨_, rfl, ?_⟩))
                    go_ret2
                    exact ⟨by first | rfl | (simp; done) | (simp [*]; done), by repeat (first | exact Drawn0.refl _ | apply Drawn0.step)⟩
                  · replace c19 := Bool.eq_false_iff.mpr c19
                    subst c19
                    have H1 : (if a0 = 14 then (plimsollref01_Do.l0 kj16 a2 (wrap64 (a1)) 0) else (if a0 = 15 then (plimsollref01_Do.l1 kj16 a2 (wrap64 (a1)) 0) else (if a0 = 16 then (if a1 < a2 then (some (1, true)) else (some (0, true))) else (if a0 = 17 then (if a1 = a2 then (some (1, true)) else (some (0, true))) else (some (0, false)))))) = some (r1, r2) := by rw [if_neg (show ¬ (false = true) by decide)] at H; exact H
                    clear H
                    have H := H1
                    clear H1
                    by_cases c24 : a0 = 14
                    · rw [if_pos c24] at H
                      have c24b0 : (a0 == 14) = true := beq_iff_eq.mpr c24
                      have c24b1 : (a0 != 14) = false := bne_eq_false_iff_eq.mpr c24
                      clear c24
                      have H' := Aside0.mk H
                      clear H
                      go_wp2
                      go_loopg [10, 11] kj16 (fun kq v10 v11 w' => ∃ (x10_3 : Int) (x11_3 : Int), v10 = .int .i64 x10_3 ∧ v11 = .int .i64 x11_3 ∧ Aside0 (plimsollref01_Do.l0 kq a2 x10_3 x11_3 = some (r1, r2)) ∧ Aside0 (kq ≤ kj16) ∧ Drawn0 w w')
                      case atStart => exact ⟨((wrap64 (a1))), (0), (by first | rfl | (simp; done) | (simp [*]; done)), (by first | rfl | (simp; done) | (simp [*]; done)), H', ⟨Nat.le_refl _⟩, by repeat (first | exact Drawn0.refl _ | apply Drawn0.step)⟩
                      case round =>
                        clear H'
                        try clear c1
                        try clear c2
                        try clear p2
                        try clear c4
                        try clear c4b0
                        try clear c4b1
                        try clear c6
                        try clear c6b0
                        try clear c6b1
                        try clear p6
                        try clear c8
                        try clear c8b0
                        try clear c8b1
                        try clear c9
                        try clear c11
                        try clear c11b0
                        try clear c11b1
                        try clear c12
                        try clear c13
                        try clear c13b0
                        try clear c13b1
                        try clear c14
                        try clear c14b0
                        try clear c14b1
                        try clear c15
                        try clear c16
                        try clear c18
                        try clear c18b0
                        try clear c18b1
                        try clear c19
                        try clear c24
                        try clear c24b0
                        try clear c24b1
                        try clear p2
                        try clear p6
                        obtain ⟨x10_3, x11_3, rfl, rfl, HA, HK3, ⟨m3, rfl⟩⟩ := hrel
                        cases gk with
                        | zero => exact absurd HA.out (by simp [plimsollref01_Do.l0])
                        | succ k3 =>
                          have H := HA.out
                          clear HA
                          simp only [plimsollref01_Do.l0] at H
                          replace H := Option.bind_eq_some_iff.mp H
                          obtain ⟨t113, A250, H⟩ := H
                          replace H : (if x11_3 < (Int.tmod t113 32) then ((plimsollref01_wrap.f (wrap64 (2 * x10_3))).bind fun t114 => (plimsollref01_Do.l0 k3 a2 (wrap64 (t114)) (wrap64 (x11_3 + 1)))) else ((plimsollref01_wrap.f x10_3).bind fun t115 => (some (t115, true)))) = some (r1, r2) := H
                          have A25 := Aside0.mk A250
                          clear A250
                          by_cases c26 : x11_3 < (Int.tmod t113 32)
                          · rw [if_pos c26] at H
                            have c26b0 : decide (x11_3 < (Int.tmod t113 32)) = true := decide_eq_true c26
                            clear c26
                            replace H := Option.bind_eq_some_iff.mp H
                            obtain ⟨t114, A270, H⟩ := H
                            replace H : (plimsollref01_Do.l0 k3 a2 (wrap64 (t114)) (wrap64 (x11_3 + 1))) = some (r1, r2) := H
                            have A27 := Aside0.mk A270
                            clear A270
                            have H' := Aside0.mk H
                            clear H
                            go_wp2_with (first | ((with_reducible refine gate_callee (f := 16) rfl ?_); refine goesL_ (some 67) rfl rfl Try.func16 (by kernel_rfl) rfl #[.int .i32 a2] rfl (by (try simp only [List.map_toArray, List.map_cons, List.map_nil]); first | done | rfl | (simp only [List.length_drop, List.length_take]; rfl)) ?_; (with_reducible refine (plimsollref01_whole.calls a2 t113 _ A25.out).mono ?_); rintro e w' ⟨rfl, ⟨nd, rfl⟩⟩; refine ⟨_, rfl, ?_⟩) | ((with_reducible refine gate_callee (f := 14) rfl ?_); refine goesL_ (some 74) rfl rfl Try.func14 (by kernel_rfl) rfl #[.int .i64 (wrap64 (2 * x10_3))] rfl (by (try simp only [List.map_toArray, List.map_cons, List.map_nil]); first | done | rfl | (simp only [List.length_drop, List.length_take]; rfl)) ?_; (with_reducible refine (plimsollref01_wrap.calls (wrap64 (2 * x10_3)) t114 _ A27.out).mono ?_); rintro e w' ⟨rfl, ⟨nd, rfl⟩⟩; refine ⟨_, rfl, ?_⟩))
                            go_roundg k3
                            case measure => have := HJ9.out; have := HJ16.out; have := HK3.out; omega
                            case rel => exact ⟨(wrap64 (t114)), (wrap64 (x11_3 + 1)), (by first | rfl | (simp; done) | (simp [*]; done)), (by first | rfl | (simp; done) | (simp [*]; done)), H', ⟨by have := HJ9.out; have := HJ16.out; have := HK3.out; omega⟩, by repeat (first | exact Drawn0.refl _ | apply Drawn0.step)⟩
                          · rw [if_neg c26] at H
                            have c26b0 : decide (x11_3 < (Int.tmod t113 32)) = false := decide_eq_false c26
                            clear c26
                            replace H := Option.bind_eq_some_iff.mp H
                            obtain ⟨t115, A280, H⟩ := H
                            replace H : (some (t115, true)) = some (r1, r2) := H
                            have A28 := Aside0.mk A280
                            clear A280
                            simp only [Option.some.injEq, Prod.mk.injEq] at H
                            obtain ⟨rfl, rfl⟩ := H
                            go_wp2_with (first | ((with_reducible refine gate_callee (f := 16) rfl ?_); refine goesL_ (some 67) rfl rfl Try.func16 (by kernel_rfl) rfl #[.int .i32 a2] rfl (by (try simp only [List.map_toArray, List.map_cons, List.map_nil]); first | done | rfl | (simp only [List.length_drop, List.length_take]; rfl)) ?_; (with_reducible refine (plimsollref01_whole.calls a2 t113 _ A25.out).mono ?_); rintro e w' ⟨rfl, ⟨nd, rfl⟩⟩; refine ⟨_, rfl, ?_⟩) | ((with_reducible refine gate_callee (f := 14) rfl ?_); refine goesL_ (some 77) rfl rfl Try.func14 (by kernel_rfl) rfl #[.int .i64 x10_3] rfl (by (try simp only [List.map_toArray, List.map_cons, List.map_nil]); first | done | rfl | (simp only [List.length_drop, List.length_take]; rfl)) ?_; (with_reducible refine (plimsollref01_wrap.calls x10_3 t115 _ A28.out).mono ?_); rintro e w' ⟨rfl, ⟨nd, rfl⟩⟩; refine ⟨_, rfl, ?_⟩))
                            go_ret2
                            exact ⟨by first | rfl | (simp; done) | (simp [*]; done), by repeat (first | exact Drawn0.refl _ | apply Drawn0.step)⟩
                    · rw [if_neg c24] at H
                      have c24b0 : (a0 == 14) = false := beq_eq_false_iff_ne.mpr c24
                      have c24b1 : (a0 != 14) = true := bne_iff_ne.mpr c24
                      by_cases c29 : a0 = 15
                      · rw [if_pos c29] at H
                        have c29b0 : (a0 == 15) = true := beq_iff_eq.mpr c29
                        have c29b1 : (a0 != 15) = false := bne_eq_false_iff_eq.mpr c29
                        clear c29
                        have H' := Aside0.mk H
                        clear H
                        go_wp2
                        go_loopg [12, 13] kj16 (fun kq v12 v13 w' => ∃ (x12_3 : Int) (x13_3 : Int), v12 = .int .i64 x12_3 ∧ v13 = .int .i64 x13_3 ∧ Aside0 (plimsollref01_Do.l1 kq a2 x12_3 x13_3 = some (r1, r2)) ∧ Aside0 (kq ≤ kj16) ∧ Drawn0 w w')
                        case atStart => exact ⟨((wrap64 (a1))), (0), (by first | rfl | (simp; done) | (simp [*]; done)), (by first | rfl | (simp; done) | (simp [*]; done)), H', ⟨Nat.le_refl _⟩, by repeat (first | exact Drawn0.refl _ | apply Drawn0.step)⟩
                        case round =>
                          clear H'
                          try clear c1
                          try clear c2
                          try clear p2
                          try clear c4
                          try clear c4b0
                          try clear c4b1
                          try clear c6
                          try clear c6b0
                          try clear c6b1
                          try clear p6
                          try clear c8
                          try clear c8b0
                          try clear c8b1
                          try clear c9
                          try clear c11
                          try clear c11b0
                          try clear c11b1
                          try clear c12
                          try clear c13
                          try clear c13b0
                          try clear c13b1
                          try clear c14
                          try clear c14b0
                          try clear c14b1
                          try clear c15
                          try clear c16
                          try clear c18
                          try clear c18b0
                          try clear c18b1
                          try clear c19
                          try clear c24
                          try clear c24b0
                          try clear c24b1
                          try clear c26
                          try clear c26b0
                          try clear c29
                          try clear c29b0
                          try clear c29b1
                          try clear p2
                          try clear p6
                          obtain ⟨x12_3, x13_3, rfl, rfl, HA, HK3, ⟨m3, rfl⟩⟩ := hrel
                          cases gk with
                          | zero => exact absurd HA.out (by simp [plimsollref01_Do.l1])
                          | succ k3 =>
                            have H := HA.out
                            clear HA
                            simp only [plimsollref01_Do.l1] at H
                            replace H := Option.bind_eq_some_iff.mp H
                            obtain ⟨t116, A300, H⟩ := H
                            replace H : (if x13_3 < (Int.tmod t116 32) then (if x12_3 < 0 then (plimsollref01_Do.l1 k3 a2 (wrap64 (Int.tdiv (wrap64 (x12_3 - 1)) 2)) (wrap64 (x13_3 + 1))) else (plimsollref01_Do.l1 k3 a2 (wrap64 (Int.tdiv x12_3 2)) (wrap64 (x13_3 + 1)))) else ((plimsollref01_wrap.f x12_3).bind fun t117 => (some (t117, true)))) = some (r1, r2) := H
                            have A30 := Aside0.mk A300
                            clear A300
                            by_cases c31 : x13_3 < (Int.tmod t116 32)
                            · rw [if_pos c31] at H
                              have c31b0 : decide (x13_3 < (Int.tmod t116 32)) = true := decide_eq_true c31
                              clear c31
                              by_cases c32 : x12_3 < 0
                              · rw [if_pos c32] at H
                                have c32b0 : decide (x12_3 < 0) = true := decide_eq_true c32
                                clear c32
                                have H' := Aside0.mk H
                                clear H
                                go_wp2_with (first | ((with_reducible refine gate_callee (f := 16) rfl ?_); refine goesL_ (some 83) rfl rfl Try.func16 (by kernel_rfl) rfl #[.int .i32 a2] rfl (by (try simp only [List.map_toArray, List.map_cons, List.map_nil]); first | done | rfl | (simp only [List.length_drop, List.length_take]; rfl)) ?_; (with_reducible refine (plimsollref01_whole.calls a2 t116 _ A30.out).mono ?_); rintro e w' ⟨rfl, ⟨nd, rfl⟩⟩; refine ⟨_, rfl, ?_⟩))
                                go_roundg k3
                                case measure => have := HJ9.out; have := HJ16.out; have := HK3.out; omega
                                case rel => exact ⟨(wrap64 (Int.tdiv (wrap64 (x12_3 - 1)) 2)), (wrap64 (x13_3 + 1)), (by first | rfl | (simp; done) | (simp [*]; done)), (by first | rfl | (simp; done) | (simp [*]; done)), H', ⟨by have := HJ9.out; have := HJ16.out; have := HK3.out; omega⟩, by repeat (first | exact Drawn0.refl _ | apply Drawn0.step)⟩
                              · rw [if_neg c32] at H
                                have c32b0 : decide (x12_3 < 0) = false := decide_eq_false c32
                                clear c32
                                have H' := Aside0.mk H
                                clear H
                                go_wp2_with (first | ((with_reducible refine gate_callee (f := 16) rfl ?_); refine goesL_ (some 83) rfl rfl Try.func16 (by kernel_rfl) rfl #[.int .i32 a2] rfl (by (try simp only [List.map_toArray, List.map_cons, List.map_nil]); first | done | rfl | (simp only [List.length_drop, List.length_take]; rfl)) ?_; (with_reducible refine (plimsollref01_whole.calls a2 t116 _ A30.out).mono ?_); rintro e w' ⟨rfl, ⟨nd, rfl⟩⟩; refine ⟨_, rfl, ?_⟩))
                                go_roundg k3
                                case measure => have := HJ9.out; have := HJ16.out; have := HK3.out; omega
                                case rel => exact ⟨(wrap64 (Int.tdiv x12_3 2)), (wrap64 (x13_3 + 1)), (by first | rfl | (simp; done) | (simp [*]; done)), (by first | rfl | (simp; done) | (simp [*]; done)), H', ⟨by have := HJ9.out; have := HJ16.out; have := HK3.out; omega⟩, by repeat (first | exact Drawn0.refl _ | apply Drawn0.step)⟩
                            · rw [if_neg c31] at H
                              have c31b0 : decide (x13_3 < (Int.tmod t116 32)) = false := decide_eq_false c31
                              clear c31
                              replace H := Option.bind_eq_some_iff.mp H
                              obtain ⟨t117, A330, H⟩ := H
                              replace H : (some (t117, true)) = some (r1, r2) := H
                              have A33 := Aside0.mk A330
                              clear A330
                              simp only [Option.some.injEq, Prod.mk.injEq] at H
                              obtain ⟨rfl, rfl⟩ := H
                              go_wp2_with (first | ((with_reducible refine gate_callee (f := 16) rfl ?_); refine goesL_ (some 83) rfl rfl Try.func16 (by kernel_rfl) rfl #[.int .i32 a2] rfl (by (try simp only [List.map_toArray, List.map_cons, List.map_nil]); first | done | rfl | (simp only [List.length_drop, List.length_take]; rfl)) ?_; (with_reducible refine (plimsollref01_whole.calls a2 t116 _ A30.out).mono ?_); rintro e w' ⟨rfl, ⟨nd, rfl⟩⟩; refine ⟨_, rfl, ?_⟩) | ((with_reducible refine gate_callee (f := 14) rfl ?_); refine goesL_ (some 96) rfl rfl Try.func14 (by kernel_rfl) rfl #[.int .i64 x12_3] rfl (by (try simp only [List.map_toArray, List.map_cons, List.map_nil]); first | done | rfl | (simp only [List.length_drop, List.length_take]; rfl)) ?_; (with_reducible refine (plimsollref01_wrap.calls x12_3 t117 _ A33.out).mono ?_); rintro e w' ⟨rfl, ⟨nd, rfl⟩⟩; refine ⟨_, rfl, ?_⟩))
                              go_ret2
                              exact ⟨by first | rfl | (simp; done) | (simp [*]; done), by repeat (first | exact Drawn0.refl _ | apply Drawn0.step)⟩
                      · rw [if_neg c29] at H
                        have c29b0 : (a0 == 15) = false := beq_eq_false_iff_ne.mpr c29
                        have c29b1 : (a0 != 15) = true := bne_iff_ne.mpr c29
                        by_cases c34 : a0 = 16
                        · rw [if_pos c34] at H
                          have c34b0 : (a0 == 16) = true := beq_iff_eq.mpr c34
                          have c34b1 : (a0 != 16) = false := bne_eq_false_iff_eq.mpr c34
                          clear c34
                          by_cases c35 : a1 < a2
                          · rw [if_pos c35] at H
                            have c35b0 : decide (a1 < a2) = true := decide_eq_true c35
                            clear c35
                            simp only [Option.some.injEq, Prod.mk.injEq] at H
                            obtain ⟨rfl, rfl⟩ := H
                            go_wp2
                            go_ret2
                            exact ⟨by first | rfl | (simp; done) | (simp [*]; done), by repeat (first | exact Drawn0.refl _ | apply Drawn0.step)⟩
                          · rw [if_neg c35] at H
                            have c35b0 : decide (a1 < a2) = false := decide_eq_false c35
                            clear c35
                            simp only [Option.some.injEq, Prod.mk.injEq] at H
                            obtain ⟨rfl, rfl⟩ := H
                            go_wp2
                            go_ret2
                            exact ⟨by first | rfl | (simp; done) | (simp [*]; done), by repeat (first | exact Drawn0.refl _ | apply Drawn0.step)⟩
                        · rw [if_neg c34] at H
                          have c34b0 : (a0 == 16) = false := beq_eq_false_iff_ne.mpr c34
                          have c34b1 : (a0 != 16) = true := bne_iff_ne.mpr c34
                          by_cases c36 : a0 = 17
                          · rw [if_pos c36] at H
                            have c36b0 : (a0 == 17) = true := beq_iff_eq.mpr c36
                            have c36b1 : (a0 != 17) = false := bne_eq_false_iff_eq.mpr c36
                            clear c36
                            by_cases c37 : a1 = a2
                            · rw [if_pos c37] at H
                              have c37b0 : (a1 == a2) = true := beq_iff_eq.mpr c37
                              have c37b1 : (a1 != a2) = false := bne_eq_false_iff_eq.mpr c37
                              clear c37
                              simp only [Option.some.injEq, Prod.mk.injEq] at H
                              obtain ⟨rfl, rfl⟩ := H
                              go_wp2
                              go_ret2
                              exact ⟨by first | rfl | (simp; done) | (simp [*]; done), by repeat (first | exact Drawn0.refl _ | apply Drawn0.step)⟩
                            · rw [if_neg c37] at H
                              have c37b0 : (a1 == a2) = false := beq_eq_false_iff_ne.mpr c37
                              have c37b1 : (a1 != a2) = true := bne_iff_ne.mpr c37
                              simp only [Option.some.injEq, Prod.mk.injEq] at H
                              obtain ⟨rfl, rfl⟩ := H
                              go_wp2
                              go_ret2
                              exact ⟨by first | rfl | (simp; done) | (simp [*]; done), by repeat (first | exact Drawn0.refl _ | apply Drawn0.step)⟩
                          · rw [if_neg c36] at H
                            have c36b0 : (a0 == 17) = false := beq_eq_false_iff_ne.mpr c36
                            have c36b1 : (a0 != 17) = true := bne_iff_ne.mpr c36
                            simp only [Option.some.injEq, Prod.mk.injEq] at H
                            obtain ⟨rfl, rfl⟩ := H
                            go_wp2
                            go_ret2
                            exact ⟨by first | rfl | (simp; done) | (simp [*]; done), by repeat (first | exact Drawn0.refl _ | apply Drawn0.step)⟩

/-! ### num_Is: function 11 -/
def num_Is.f (a0 : Int) : Option (Bool) := if a0 ≥ 7 then (some (decide (a0 ≤ 17))) else (some false)
set_option maxHeartbeats 8000000 in
set_option maxRecDepth 100000 in
theorem num_Is.calls (a0 : Int) (r : Bool) (w : World) (h : num_Is.f a0 = some r) :
    Calls Try.prog 11 #[.int .i64 a0] w fun e w' => e = .returned (.bool r) ∧ Drawn0 w w' := by
  have H : (if a0 ≥ 7 then (some (decide (a0 ≤ 17))) else (some false)) = some r := h
  clear h
  by_cases c2 : a0 ≥ 7
  · rw [if_pos c2] at H
    have c2b0 : decide (7 ≤ a0) = true := decide_eq_true c2
    clear c2
    obtain rfl := Option.some.inj H
    go_enter Try.func11, Try.ntmps11
    go_wp2
    go_ret
    exact ⟨by first | rfl | (simp; done) | (simp [*]; done), by repeat (first | exact Drawn0.refl _ | apply Drawn0.step)⟩
  · rw [if_neg c2] at H
    have c2b0 : decide (7 ≤ a0) = false := decide_eq_false c2
    clear c2
    obtain rfl := Option.some.inj H
    go_enter Try.func11, Try.ntmps11
    go_wp2
    go_ret
    exact ⟨by first | rfl | (simp; done) | (simp [*]; done), by repeat (first | exact Drawn0.refl _ | apply Drawn0.step)⟩

/-! ### plimsollref01_Bytes: function 17 -/
mutual
def plimsollref01_Bytes.j0 : Nat → Int → Option (List Int)
  | 0, _ => none
  | k + 1, x0 => plimsollref01_Bytes.l0 k x0 (([] : List Int))
def plimsollref01_Bytes.l0 : Nat → Int → List Int → Option (List Int)
  | 0, _, _ => none
  | k + 1, x0, x3 => if x0 ≥ 128 then (if x3.length < 140737488355328 then (plimsollref01_Bytes.l0 k (wrap64 (Int.tdiv x0 128)) (x3 ++ [(wrap64 (128 + (Int.tmod x0 128))) % 256])) else (none)) else (if x3.length < 140737488355328 then (some (x3 ++ [(x0) % 256])) else (none))
end
def plimsollref01_Bytes.f (k : Nat) (a0 : Int) : Option (List Int) := if a0 < 0 then (plimsollref01_Bytes.j0 k 0) else (plimsollref01_Bytes.j0 k a0)
theorem plimsollref01_Bytes.mono_l : ∀ k, (∀ y0, LeO (plimsollref01_Bytes.j0 k y0) (plimsollref01_Bytes.j0 (k + 1) y0)) ∧ (∀ y0 y1, LeO (plimsollref01_Bytes.l0 k y0 y1) (plimsollref01_Bytes.l0 (k + 1) y0 y1))
  | 0 => ⟨fun _ r h => by simp [plimsollref01_Bytes.j0] at h, fun _ _ r h => by simp [plimsollref01_Bytes.l0] at h⟩
  | k + 1 => by
    obtain ⟨ih0, ih1⟩ := plimsollref01_Bytes.mono_l k
    refine ⟨?_, ?_⟩
    · intro y0
      unfold plimsollref01_Bytes.j0
      repeat' first
      | (with_reducible exact ih0 _)
      | (with_reducible exact ih1 _ _)
      | (with_reducible exact LeO.refl _)
      | (with_reducible exact LeO.none _)
      | (with_reducible refine LeO.ite ?_ ?_)
      | (with_reducible refine LeO.bind ?_ (fun _ => ?_))
      | exact ih0 _
      | exact ih1 _ _
      | exact LeO.none _
      | refine LeO.ite ?_ ?_
      | refine LeO.bind ?_ (fun _ => ?_)
    · intro y0 y1
      unfold plimsollref01_Bytes.l0
      repeat' first
      | (with_reducible exact ih0 _)
      | (with_reducible exact ih1 _ _)
      | (with_reducible exact LeO.refl _)
      | (with_reducible exact LeO.none _)
      | (with_reducible refine LeO.ite ?_ ?_)
      | (with_reducible refine LeO.bind ?_ (fun _ => ?_))
      | exact ih0 _
      | exact ih1 _ _
      | exact LeO.none _
      | refine LeO.ite ?_ ?_
      | refine LeO.bind ?_ (fun _ => ?_)
theorem plimsollref01_Bytes.mono : ∀ a0 k, LeO (plimsollref01_Bytes.f k a0) (plimsollref01_Bytes.f (k + 1) a0) := by
  intro a0 k
  obtain ⟨ih0, ih1⟩ := plimsollref01_Bytes.mono_l k
  unfold plimsollref01_Bytes.f
  repeat' first
      | (with_reducible exact ih0 _)
      | (with_reducible exact ih1 _ _)
      | (with_reducible exact LeO.refl _)
      | (with_reducible exact LeO.none _)
      | (with_reducible refine LeO.ite ?_ ?_)
      | (with_reducible refine LeO.bind ?_ (fun _ => ?_))
      | exact ih0 _
      | exact ih1 _ _
      | exact LeO.none _
      | refine LeO.ite ?_ ?_
      | refine LeO.bind ?_ (fun _ => ?_)
set_option maxHeartbeats 8000000 in
set_option maxRecDepth 100000 in
theorem plimsollref01_Bytes.calls (k : Nat) (a0 : Int) (r : List Int) (w : World) (h : plimsollref01_Bytes.f k a0 = some r) :
    Calls Try.prog 17 #[.int .i64 a0] w fun e w' => ∃ v0_ : Value, e = .returned (v0_) ∧ Kd.R (Kd.int .u8) 5 w' w.heap.size (fun _ => True) v0_ r ∧ Below w.heap.size w w' := by
  have HB := Aside0.mk (Below.refl w.heap.size w)
  have H : (if a0 < 0 then (plimsollref01_Bytes.j0 k 0) else (plimsollref01_Bytes.j0 k a0)) = some r := h
  clear h
  have HC2 := Aside0.mk H
  clear H
  go_enter Try.func17, Try.ntmps17
  go_upto_if 5 with (fail)
  go_cut [0] (fun v0 wc => ∃ (kq : Nat) (x0_1 : Int), v0 = .int .i64 x0_1 ∧ Aside0 (plimsollref01_Bytes.j0 kq x0_1 = some r) ∧ Aside0 (kq ≤ k) ∧ Aside0 (Below w.heap.size w wc))
  case first =>
    have H := HC2.out
    clear HC2
    by_cases c3 : a0 < 0
    · rw [if_pos c3] at H
      have c3b0 : decide (a0 < 0) = true := decide_eq_true c3
      clear c3
      (first | rw [c3b0] | (simp only [i64_w, i32_w]; rw [c3b0]) | skip)
      have H' := Aside0.mk H
      clear H
      go_wp2
      go_meet
      case rel => exact ⟨_, (0), (by first | rfl | (simp; done) | (simp [*]; done)), H', ⟨by first | omega | exact Nat.le_refl _⟩, ⟨by repeat (first | (with_reducible first | exact HB.out | apply below_alloc | apply pw_below_drewN | apply below_drew1) | exact HB.out)⟩⟩
    · rw [if_neg c3] at H
      have c3b0 : decide (a0 < 0) = false := decide_eq_false c3
      clear c3
      (first | rw [c3b0] | (simp only [i64_w, i32_w]; rw [c3b0]) | skip)
      have H' := Aside0.mk H
      clear H
      go_wp2
      go_meet
      case rel => exact ⟨_, (a0), (by first | rfl | (simp; done) | (simp [*]; done)), H', ⟨by first | omega | exact Nat.le_refl _⟩, ⟨by repeat (first | (with_reducible first | exact HB.out | apply below_alloc | apply pw_below_drewN | apply below_drew1) | exact HB.out)⟩⟩
  case rest =>
    clear HC2
    try clear c1
    try clear p2
    try clear c3
    try clear c3b0
    obtain ⟨kq, x0_1, rfl, HA, HJ1, HB⟩ := hcut
    cases kq with
    | zero => exact absurd HA.out (by simp [plimsollref01_Bytes.j0])
    | succ kj1 =>
      have H := HA.out
      clear HA
      simp only [plimsollref01_Bytes.j0] at H
      obtain ⟨y118, hy118⟩ : ∃ y_ : List Int, y_ = (([] : List Int)) := ⟨_, rfl⟩
      replace H : (plimsollref01_Bytes.l0 kj1 x0_1 y118) = some r := by first | (rw [hy118]; with_reducible exact H) | (have H2_ := (Option.bind_some _ _).symm.trans H; rw [hy118]; with_reducible exact H2_) | (have H2_ := (Option.bind_some _ _).symm.trans H; with_reducible exact H2_) | with_reducible exact H | (rw [hy118]; exact H) | exact H
      have Ny118 := Aside0.mk hy118
      clear hy118
      have H' := Aside0.mk H
      clear H
      go_wp2_with (first | ((with_reducible refine gate_dst (N := 6) rfl ?_); refine Kd.R_lit (Kd.int .u8) _ 5 ?hg (N := 6) ?hd (xs := ([] : List Int)) (inner := []) (ok := fun _ => True) (okp := fun _ => True) ?hr ?hp (fun _ hk => hk) trivial (Below.refl _ _) (Nat.le_refl _) (by simp) ?_; (case hd => rfl); (case hg => rfl); (case hr => first | (go_simp; done) | (go_simp; rfl)); (case hp => exact (Reps.none _ _)); intro v119 w4 ho5 hb hg_ hnew_; clear hg_ hnew_; (first | rw [← Ny118.out] at ho5 | (simp only [Int.reduceToNat] at ho5; rw [← Ny118.out] at ho5)); have n0_ := Aside0.mk (Kd.R_lower ho5 (below_size (by repeat (first | (with_reducible first | exact HB.out | apply below_alloc | apply pw_below_drewN | apply below_drew1) | exact HB.out)))); have n1_ := Aside0.mk (below_step (by repeat (first | (with_reducible first | exact HB.out | apply below_alloc | apply pw_below_drewN | apply below_drew1) | exact HB.out)) hb); clear HB; have HO120 := n0_; have HB := n1_; clear n0_ n1_; clear hb ho5))
      go_loopg [0, 3] kj1 (fun kq v0 v3 w' => ∃ (x0_2 : Int) (x3_2 : List Int), v0 = .int .i64 x0_2 ∧ Aside0 (plimsollref01_Bytes.l0 kq x0_2 x3_2 = some r) ∧ Aside0 (kq ≤ kj1) ∧ Aside0 (Kd.R (Kd.int .u8) 5 w' w.heap.size (fun _ => True) v3 x3_2) ∧ Aside0 (Below w.heap.size w w'))
      case atStart => exact ⟨(x0_1), (y118), (by first | rfl | (simp; done) | (simp [*]; done)), H', ⟨Nat.le_refl _⟩, ⟨by (with_reducible repeat (first | apply Kd.R_alloc | apply Kd.R_drewN | apply Kd.R_drew)); exact HO120.out⟩, ⟨by repeat (first | (with_reducible first | exact HB.out | apply below_alloc | apply pw_below_drewN | apply below_drew1) | exact HB.out)⟩⟩
      case round =>
        clear H'
        try clear c1
        try clear p2
        try clear c3
        try clear c3b0
        try clear p2
        obtain ⟨x0_2, x3_2, rfl, HA, HK2, HO_3, HB⟩ := hrel
        cases gk with
        | zero => exact absurd HA.out (by simp [plimsollref01_Bytes.l0])
        | succ k2 =>
          have H := HA.out
          clear HA
          simp only [plimsollref01_Bytes.l0] at H
          by_cases c6 : x0_2 ≥ 128
          · rw [if_pos c6] at H
            have c6b0 : decide (128 ≤ x0_2) = true := decide_eq_true c6
            clear c6
            by_cases c7 : x3_2.length < 140737488355328
            · rw [if_pos c7] at H
              have LMc7 := Aside0.mk c7
              clear c7
              obtain ⟨y121, hy121⟩ : ∃ y_ : List Int, y_ = (x3_2 ++ [(wrap64 (128 + (Int.tmod x0_2 128))) % 256]) := ⟨_, rfl⟩
              replace H : (plimsollref01_Bytes.l0 k2 (wrap64 (Int.tdiv x0_2 128)) y121) = some r := by first | (rw [hy121]; with_reducible exact H) | (have H2_ := (Option.bind_some _ _).symm.trans H; rw [hy121]; with_reducible exact H2_) | (have H2_ := (Option.bind_some _ _).symm.trans H; with_reducible exact H2_) | with_reducible exact H | (rw [hy121]; exact H) | exact H
              have Ny121 := Aside0.mk hy121
              clear hy121
              have H' := Aside0.mk H
              clear H
              go_wp2_with (first | ((with_reducible refine gate_builtin (b := .append) (xs := #[.tmp 9, .tmp 14]) rfl ?_); at_builtin; refine Kd.R_append (Kd.int .u8) (w0 := w) w.heap.size rfl (.tmp 9) (.tmp 14) 35 5 (.int .u8 0) 1 rfl Try.underlying35 info5 rfl (by decide) (by omega) u3 x3_2 ((wrap64 (128 + (Int.tmod x0_2 128))) % 256) [.int .u8 ((wrap64 (128 + (Int.tmod x0_2 128))) % 256)] (fun _ => True) (fun _ => False) rfl rfl ?aP (fun _ hk => hk.elim) ?aF ?aO ?aB ?aS ?aL ?_; (case aP => exact rfl); (case aB => exact (by repeat (first | (with_reducible first | exact HB.out | apply below_alloc | apply pw_below_drewN | apply below_drew1) | exact HB.out))); (case aF => exact (fun _ _ => trivial)); (case aO => exact (by (with_reducible repeat (first | apply Kd.R_alloc | apply Kd.R_drewN | apply Kd.R_drew)); exact HO_3.out)); (case aS => exact (below_size (by repeat (first | (with_reducible first | exact HB.out | apply below_alloc | apply pw_below_drewN | apply below_drew1) | exact HB.out)))); (case aL => have := LMc7.out; omega); intro v122 w8 ho hb hg hat; rw [← Ny121.out] at ho; have n0_ := Aside0.mk (hb); have n1_ := Aside0.mk (ho); clear HB; clear HO_3; have HB := n0_; have HO123 := n1_; clear n0_ n1_; clear ho hb hg hat))
              go_roundg k2
              case measure => have := HJ1.out; have := HK2.out; omega
              case rel => exact ⟨(wrap64 (Int.tdiv x0_2 128)), (y121), (by first | rfl | (simp; done) | (simp [*]; done)), H', ⟨by have := HJ1.out; have := HK2.out; omega⟩, ⟨by (with_reducible repeat (first | apply Kd.R_alloc | apply Kd.R_drewN | apply Kd.R_drew)); exact HO123.out⟩, ⟨by repeat (first | (with_reducible first | exact HB.out | apply below_alloc | apply pw_below_drewN | apply below_drew1) | exact HB.out)⟩⟩
            · rw [if_neg c7] at H
              exact absurd H (by simp)
          · rw [if_neg c6] at H
            have c6b0 : decide (128 ≤ x0_2) = false := decide_eq_false c6
            clear c6
            by_cases c9 : x3_2.length < 140737488355328
            · rw [if_pos c9] at H
              have LMc9 := Aside0.mk c9
              clear c9
              obtain ⟨y124, hy124⟩ : ∃ y_ : List Int, y_ = (x3_2 ++ [(x0_2) % 256]) := ⟨_, rfl⟩
              replace H : (some y124) = some r := by first | (rw [hy124]; with_reducible exact H) | (have H2_ := (Option.bind_some _ _).symm.trans H; rw [hy124]; with_reducible exact H2_) | (have H2_ := (Option.bind_some _ _).symm.trans H; with_reducible exact H2_) | with_reducible exact H | (rw [hy124]; exact H) | exact H
              have Ny124 := Aside0.mk hy124
              clear hy124
              obtain rfl := Option.some.inj H
              go_wp2_with (first | ((with_reducible refine gate_builtin (b := .append) (xs := #[.tmp 18, .tmp 21]) rfl ?_); at_builtin; refine Kd.R_append (Kd.int .u8) (w0 := w) w.heap.size rfl (.tmp 18) (.tmp 21) 35 5 (.int .u8 0) 1 rfl Try.underlying35 info5 rfl (by decide) (by omega) u3 x3_2 ((x0_2) % 256) [.int .u8 ((x0_2) % 256)] (fun _ => True) (fun _ => False) rfl rfl ?aP (fun _ hk => hk.elim) ?aF ?aO ?aB ?aS ?aL ?_; (case aP => exact rfl); (case aB => exact (by repeat (first | (with_reducible first | exact HB.out | apply below_alloc | apply pw_below_drewN | apply below_drew1) | exact HB.out))); (case aF => exact (fun _ _ => trivial)); (case aO => exact (by (with_reducible repeat (first | apply Kd.R_alloc | apply Kd.R_drewN | apply Kd.R_drew)); exact HO_3.out)); (case aS => exact (below_size (by repeat (first | (with_reducible first | exact HB.out | apply below_alloc | apply pw_below_drewN | apply below_drew1) | exact HB.out)))); (case aL => have := LMc9.out; omega); intro v125 w10 ho hb hg hat; rw [← Ny124.out] at ho; have n0_ := Aside0.mk (hb); have n1_ := Aside0.mk (ho); clear HB; clear HO_3; have HB := n0_; have HO126 := n1_; clear n0_ n1_; clear ho hb hg hat))
              go_ret
              exact ⟨_, by first | rfl | (simp [errW_none, errW_some] <;> rfl) | (simp [*, errW_none, errW_some] <;> rfl), by (with_reducible repeat (first | apply Kd.R_alloc | apply Kd.R_drewN | apply Kd.R_drew)); exact HO126.out, by repeat (first | (with_reducible first | exact HB.out | apply below_alloc | apply pw_below_drewN | apply below_drew1) | exact HB.out)⟩
            · rw [if_neg c9] at H
              exact absurd H (by simp)

end Go.Proofs.Ytnpcaickoeboeaa.PNumDoes
