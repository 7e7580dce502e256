/- The contract of the law NumKinds: its Go text comes to what 'plimsolllaw01_NumKinds.f' says; no condition. Begun from the text that the kit's print wrote for this claim; two ways are walked anew: one function is called twice there, and both calls answer the same. -/
import Derived.Test.YtnpcaickoeboeaaPNumKindsx0
import Derived.Test.YtnpcaickoeboeaaPNumKindsx1
namespace Go.Proofs.Ytnpcaickoeboeaa.PNumKinds
open Go.RowKit Go.Proofs.YtnpcaickoeboeaaW.PrintWords Go.Proofs.YtnpcaickoeboeaaW.PrintLast Go.Proofs.YtnpcaickoeboeaaW.PrintMore
attribute [local go_sem] max2_int min2_int max_two min_two max_three min_three max_four min_four   -- for this text's walks alone
set_option linter.unusedVariables false
set_option linter.unusedSimpArgs false

/-! ### plimsolllaw01_NumKinds: function 4 -/
def plimsolllaw01_NumKinds.f (k : Nat) (a0 : Int) : Option (Bool) := (num_Do.f k a0 9 4).bind fun bt126 => ((plimsolllaw01_awake.f k).bind fun t128 => (if t128 = true then ((num_Is.f a0).bind fun t129 => (if a0 ≥ 7 then (if (t129 == (decide (a0 ≤ 17))) = true then ((num_Is.f a0).bind fun t130 => (some (bt126.2 == t130))) else (some false)) else (if (t129 == false) = true then ((num_Is.f a0).bind fun t131 => (some (bt126.2 == t131))) else (some false)))) else (some false)))
theorem plimsolllaw01_NumKinds.mono : ∀ a0 k, LeO (plimsolllaw01_NumKinds.f k a0) (plimsolllaw01_NumKinds.f (k + 1) a0) := by
  intro a0 k
  unfold plimsolllaw01_NumKinds.f
  repeat' first
      | (with_reducible exact num_Do.mono _ _ _ _)
      | (with_reducible exact plimsolllaw01_awake.mono _)
      | (with_reducible exact LeO.refl _)
      | (with_reducible exact LeO.none _)
      | (with_reducible refine LeO.ite ?_ ?_)
      | (with_reducible refine LeO.bind ?_ (fun _ => ?_))
      | exact num_Do.mono _ _ _ _
      | exact plimsolllaw01_awake.mono _
      | exact LeO.none _
      | refine LeO.ite ?_ ?_
      | refine LeO.bind ?_ (fun _ => ?_)
set_option maxHeartbeats 8000000 in
set_option maxRecDepth 100000 in
theorem plimsolllaw01_NumKinds.calls (k : Nat) (a0 : Int) (r : Bool) (w : World) (h : plimsolllaw01_NumKinds.f k a0 = some r) :
    Calls Try.prog 4 #[.int .i64 a0] w fun e w' => e = .returned (.bool r) ∧ Below w.heap.size w w' := by
  have HB := Aside0.mk (Below.refl w.heap.size w)
  have H : ((num_Do.f k a0 9 4).bind fun bt126 => ((plimsolllaw01_awake.f k).bind fun t128 => (if t128 = true then ((num_Is.f a0).bind fun t129 => (if a0 ≥ 7 then (if (t129 == (decide (a0 ≤ 17))) = true then ((num_Is.f a0).bind fun t130 => (some (bt126.2 == t130))) else (some false)) else (if (t129 == false) = true then ((num_Is.f a0).bind fun t131 => (some (bt126.2 == t131))) else (some false)))) else (some false)))) = some r := h
  clear h
  replace H := Option.bind_eq_some_iff.mp H
  obtain ⟨⟨t126, t127⟩, A20, H⟩ := H
  replace H : ((plimsolllaw01_awake.f k).bind fun t128 => (if t128 = true then ((num_Is.f a0).bind fun t129 => (if a0 ≥ 7 then (if (t129 == (decide (a0 ≤ 17))) = true then ((num_Is.f a0).bind fun t130 => (some (t127 == t130))) else (some false)) else (if (t129 == false) = true then ((num_Is.f a0).bind fun t131 => (some (t127 == t131))) else (some false)))) else (some false))) = some r := H
  have A2 := Aside0.mk A20
  clear A20
  replace H := Option.bind_eq_some_iff.mp H
  obtain ⟨t128, A30, H⟩ := H
  replace H : (if t128 = true then ((num_Is.f a0).bind fun t129 => (if a0 ≥ 7 then (if (t129 == (decide (a0 ≤ 17))) = true then ((num_Is.f a0).bind fun t130 => (some (t127 == t130))) else (some false)) else (if (t129 == false) = true then ((num_Is.f a0).bind fun t131 => (some (t127 == t131))) else (some false)))) else (some false)) = some r := H
  have A3 := Aside0.mk A30
  clear A30
  by_cases c4 : t128 = true
  · subst c4
    have H1 : ((num_Is.f a0).bind fun t129 => (if a0 ≥ 7 then (if (t129 == (decide (a0 ≤ 17))) = true then ((num_Is.f a0).bind fun t130 => (some (t127 == t130))) else (some false)) else (if (t129 == false) = true then ((num_Is.f a0).bind fun t131 => (some (t127 == t131))) else (some false)))) = some r := by rw [if_pos rfl] at H; exact H
    clear H
    have H := H1
    clear H1
    replace H := Option.bind_eq_some_iff.mp H
    obtain ⟨t129, A50, H⟩ := H
    replace H : (if a0 ≥ 7 then (if (t129 == (decide (a0 ≤ 17))) = true then ((num_Is.f a0).bind fun t130 => (some (t127 == t130))) else (some false)) else (if (t129 == false) = true then ((num_Is.f a0).bind fun t131 => (some (t127 == t131))) else (some false))) = some r := H
    have A5 := Aside0.mk A50
    clear A50
    by_cases c6 : a0 ≥ 7
    · rw [if_pos c6] at H
      have c6b0 : decide (7 ≤ a0) = true := decide_eq_true c6
      clear c6
      by_cases c7 : (t129 == (decide (a0 ≤ 17))) = true
      · rw [if_pos c7] at H
        have c7b0 : (t129 == (decide (a0 ≤ 17))) = true := c7
        (try (have c7b1 : decide (t129 = (decide (a0 ≤ 17))) = true := by simpa using c7))
        (try (have c7b2 : (t129 == (decide (a0 ≤ 17))) = true := by simpa using c7))
        clear c7
        replace H := Option.bind_eq_some_iff.mp H
        obtain ⟨t130, A80, H⟩ := H
        replace H : (some (t127 == t130)) = some r := H
        have A8 := Aside0.mk A80
        clear A80
        obtain rfl := Option.some.inj H
        obtain rfl : t129 = t130 := Option.some.inj (A5.out.symm.trans A8.out)
        go_enter Try.func4, Try.ntmps4
        go_wp2_with (first | ((with_reducible refine gate_callee (f := 8) rfl ?_); refine goesL_ (some 7) rfl rfl Try.func8 (by kernel_rfl) rfl #[.int .i64 a0, .int .i32 9, .int .i32 4] rfl (by (try simp only [List.map_toArray, List.map_cons, List.map_nil]); first | done | rfl | (simp only [List.length_drop, List.length_take]; rfl)) ?_; (with_reducible refine (num_Do.calls k a0 9 4 t126 t127 _ A2.out).mono ?_); rintro e w' ⟨rfl, ⟨nd, rfl⟩⟩; refine ⟨_, rfl, ?_⟩) | ((with_reducible refine gate_callee (f := 10) rfl ?_); refine goesL_ (some 10) rfl rfl Try.func10 (by kernel_rfl) rfl #[] rfl (by (try simp only [List.map_toArray, List.map_cons, List.map_nil]); first | done | rfl | (simp only [List.length_drop, List.length_take]; rfl)) ?_; (with_reducible refine (plimsolllaw01_awake.calls k  true _ A3.out).mono ?_); rintro e w9 ⟨rfl, hb⟩; refine ⟨_, rfl, ?_⟩; have n0_ := Aside0.mk (below_step (by repeat (first | (with_reducible first | exact HB.out | apply below_alloc | apply pw_below_drewN | apply below_drew1) | exact HB.out)) hb); clear HB; have HB := n0_; clear n0_; (try clear hb); (try clear hb2); (try clear hk); (try clear hi)) | (go_at_call 11; (with_reducible refine (num_Is.calls a0 t129 _ A5.out).mono ?_); rintro e w' ⟨rfl, ⟨nd, rfl⟩⟩) | (go_at_call 11; (with_reducible refine (num_Is.calls a0 t129 _ A8.out).mono ?_); rintro e w' ⟨rfl, ⟨nd, rfl⟩⟩))
        go_ret
        exact ⟨by first | rfl | (simp [errW_none, errW_some] <;> rfl) | (simp [*, errW_none, errW_some] <;> rfl), by repeat (first | (with_reducible first | exact HB.out | apply below_alloc | apply pw_below_drewN | apply below_drew1) | exact HB.out)⟩
      · rw [if_neg c7] at H
        have c7b0 : (t129 == (decide (a0 ≤ 17))) = false := by simpa using c7
        (try (have c7b1 : decide (t129 = (decide (a0 ≤ 17))) = false := by simpa using c7))
        (try (have c7b2 : (t129 == (decide (a0 ≤ 17))) = false := by simpa using c7))
        (try (have c7b3 : ¬ (t129 = (decide (a0 ≤ 17))) := by simpa using c7))
        clear c7
        obtain rfl := Option.some.inj H
        go_enter Try.func4, Try.ntmps4
        go_wp2_with (first | ((with_reducible refine gate_callee (f := 8) rfl ?_); refine goesL_ (some 7) rfl rfl Try.func8 (by kernel_rfl) rfl #[.int .i64 a0, .int .i32 9, .int .i32 4] rfl (by (try simp only [List.map_toArray, List.map_cons, List.map_nil]); first | done | rfl | (simp only [List.length_drop, List.length_take]; rfl)) ?_; (with_reducible refine (num_Do.calls k a0 9 4 t126 t127 _ A2.out).mono ?_); rintro e w' ⟨rfl, ⟨nd, rfl⟩⟩; refine ⟨_, rfl, ?_⟩) | ((with_reducible refine gate_callee (f := 10) rfl ?_); refine goesL_ (some 10) rfl rfl Try.func10 (by kernel_rfl) rfl #[] rfl (by (try simp only [List.map_toArray, List.map_cons, List.map_nil]); first | done | rfl | (simp only [List.length_drop, List.length_take]; rfl)) ?_; (with_reducible refine (plimsolllaw01_awake.calls k  true _ A3.out).mono ?_); rintro e w10 ⟨rfl, hb⟩; refine ⟨_, rfl, ?_⟩; have n0_ := Aside0.mk (below_step (by repeat (first | (with_reducible first | exact HB.out | apply below_alloc | apply pw_below_drewN | apply below_drew1) | exact HB.out)) hb); clear HB; have HB := n0_; clear n0_; (try clear hb); (try clear hb2); (try clear hk); (try clear hi)) | (go_at_call 11; (with_reducible refine (num_Is.calls a0 t129 _ A5.out).mono ?_); rintro e w' ⟨rfl, ⟨nd, rfl⟩⟩))
        go_ret
        exact ⟨by first | rfl | (simp [errW_none, errW_some] <;> rfl) | (simp [*, errW_none, errW_some] <;> rfl), by repeat (first | (with_reducible first | exact HB.out | apply below_alloc | apply pw_below_drewN | apply below_drew1) | exact HB.out)⟩
    · rw [if_neg c6] at H
      have c6b0 : decide (7 ≤ a0) = false := decide_eq_false c6
      clear c6
      by_cases c11 : (t129 == false) = true
      · rw [if_pos c11] at H
        have c11b0 : (t129 == false) = true := c11
        (try (have c11b1 : decide (t129 = false) = true := by simpa using c11))
        (try (have c11b2 : (t129 == false) = true := by simpa using c11))
        clear c11
        replace H := Option.bind_eq_some_iff.mp H
        obtain ⟨t131, A120, H⟩ := H
        replace H : (some (t127 == t131)) = some r := H
        have A12 := Aside0.mk A120
        clear A120
        obtain rfl := Option.some.inj H
        obtain rfl : t129 = t131 := Option.some.inj (A5.out.symm.trans A12.out)
        go_enter Try.func4, Try.ntmps4
        go_wp2_with (first | ((with_reducible refine gate_callee (f := 8) rfl ?_); refine goesL_ (some 7) rfl rfl Try.func8 (by kernel_rfl) rfl #[.int .i64 a0, .int .i32 9, .int .i32 4] rfl (by (try simp only [List.map_toArray, List.map_cons, List.map_nil]); first | done | rfl | (simp only [List.length_drop, List.length_take]; rfl)) ?_; (with_reducible refine (num_Do.calls k a0 9 4 t126 t127 _ A2.out).mono ?_); rintro e w' ⟨rfl, ⟨nd, rfl⟩⟩; refine ⟨_, rfl, ?_⟩) | ((with_reducible refine gate_callee (f := 10) rfl ?_); refine goesL_ (some 10) rfl rfl Try.func10 (by kernel_rfl) rfl #[] rfl (by (try simp only [List.map_toArray, List.map_cons, List.map_nil]); first | done | rfl | (simp only [List.length_drop, List.length_take]; rfl)) ?_; (with_reducible refine (plimsolllaw01_awake.calls k  true _ A3.out).mono ?_); rintro e w13 ⟨rfl, hb⟩; refine ⟨_, rfl, ?_⟩; have n0_ := Aside0.mk (below_step (by repeat (first | (with_reducible first | exact HB.out | apply below_alloc | apply pw_below_drewN | apply below_drew1) | exact HB.out)) hb); clear HB; have HB := n0_; clear n0_; (try clear hb); (try clear hb2); (try clear hk); (try clear hi)) | (go_at_call 11; (with_reducible refine (num_Is.calls a0 t129 _ A5.out).mono ?_); rintro e w' ⟨rfl, ⟨nd, rfl⟩⟩) | (go_at_call 11; (with_reducible refine (num_Is.calls a0 t129 _ A12.out).mono ?_); rintro e w' ⟨rfl, ⟨nd, rfl⟩⟩))
        go_ret
        exact ⟨by first | rfl | (simp [errW_none, errW_some] <;> rfl) | (simp [*, errW_none, errW_some] <;> rfl), by repeat (first | (with_reducible first | exact HB.out | apply below_alloc | apply pw_below_drewN | apply below_drew1) | exact HB.out)⟩
      · rw [if_neg c11] at H
        have c11b0 : (t129 == false) = false := by simpa using c11
        (try (have c11b1 : decide (t129 = false) = false := by simpa using c11))
        (try (have c11b2 : (t129 == false) = false := by simpa using c11))
        (try (have c11b3 : ¬ (t129 = false) := by simpa using c11))
        clear c11
        obtain rfl := Option.some.inj H
        go_enter Try.func4, Try.ntmps4
        go_wp2_with (first | ((with_reducible refine gate_callee (f := 8) rfl ?_); refine goesL_ (some 7) rfl rfl Try.func8 (by kernel_rfl) rfl #[.int .i64 a0, .int .i32 9, .int .i32 4] rfl (by (try simp only [List.map_toArray, List.map_cons, List.map_nil]); first | done | rfl | (simp only [List.length_drop, List.length_take]; rfl)) ?_; (with_reducible refine (num_Do.calls k a0 9 4 t126 t127 _ A2.out).mono ?_); rintro e w' ⟨rfl, ⟨nd, rfl⟩⟩; refine ⟨_, rfl, ?_⟩) | ((with_reducible refine gate_callee (f := 10) rfl ?_); refine goesL_ (some 10) rfl rfl Try.func10 (by kernel_rfl) rfl #[] rfl (by (try simp only [List.map_toArray, List.map_cons, List.map_nil]); first | done | rfl | (simp only [List.length_drop, List.length_take]; rfl)) ?_; (with_reducible refine (plimsolllaw01_awake.calls k  true _ A3.out).mono ?_); rintro e w14 ⟨rfl, hb⟩; refine ⟨_, rfl, ?_⟩; have n0_ := Aside0.mk (below_step (by repeat (first | (with_reducible first | exact HB.out | apply below_alloc | apply pw_below_drewN | apply below_drew1) | exact HB.out)) hb); clear HB; have HB := n0_; clear n0_; (try clear hb); (try clear hb2); (try clear hk); (try clear hi)) | (go_at_call 11; (with_reducible refine (num_Is.calls a0 t129 _ A5.out).mono ?_); rintro e w' ⟨rfl, ⟨nd, rfl⟩⟩))
        go_ret
        exact ⟨by first | rfl | (simp [errW_none, errW_some] <;> rfl) | (simp [*, errW_none, errW_some] <;> rfl), by repeat (first | (with_reducible first | exact HB.out | apply below_alloc | apply pw_below_drewN | apply below_drew1) | exact HB.out)⟩
  · replace c4 := Bool.eq_false_iff.mpr c4
    subst c4
    have H1 : (some false) = some r := by rw [if_neg (show ¬ (false = true) by decide)] at H; exact H
    clear H
    have H := H1
    clear H1
    obtain rfl := Option.some.inj H
    go_enter Try.func4, Try.ntmps4
    go_wp2_with (first | ((with_reducible refine gate_callee (f := 8) rfl ?_); refine goesL_ (some 7) rfl rfl Try.func8 (by kernel_rfl) rfl #[.int .i64 a0, .int .i32 9, .int .i32 4] rfl (by (try simp only [List.map_toArray, List.map_cons, List.map_nil]); first | done | rfl | (simp only [List.length_drop, List.length_take]; rfl)) ?_; (with_reducible refine (num_Do.calls k a0 9 4 t126 t127 _ A2.out).mono ?_); rintro e w' ⟨rfl, ⟨nd, rfl⟩⟩; refine ⟨_, rfl, ?_⟩) | ((with_reducible refine gate_callee (f := 10) rfl ?_); refine goesL_ (some 10) rfl rfl Try.func10 (by kernel_rfl) rfl #[] rfl (by (try simp only [List.map_toArray, List.map_cons, List.map_nil]); first | done | rfl | (simp only [List.length_drop, List.length_take]; rfl)) ?_; (with_reducible refine (plimsolllaw01_awake.calls k  false _ A3.out).mono ?_); rintro e w15 ⟨rfl, hb⟩; refine ⟨_, rfl, ?_⟩; have n0_ := Aside0.mk (below_step (by repeat (first | (with_reducible first | exact HB.out | apply below_alloc | apply pw_below_drewN | apply below_drew1) | exact HB.out)) hb); clear HB; have HB := n0_; clear n0_; (try clear hb); (try clear hb2); (try clear hk); (try clear hi)))
    go_ret
    exact ⟨by first | rfl | (simp [errW_none, errW_some] <;> rfl) | (simp [*, errW_none, errW_some] <;> rfl), by repeat (first | (with_reducible first | exact HB.out | apply below_alloc | apply pw_below_drewN | apply below_drew1) | exact HB.out)⟩

end Go.Proofs.Ytnpcaickoeboeaa.PNumKinds
