/- Contracts of within and New. -/
import Derived.Test.YtgpekomaoeockaaMemG
namespace Go.Proofs.Ytgpekomaoeockaa.MemC
open Go.RowKit Go.Proofs.YtgpekomaoeockaaW.PrintWords Go.Proofs.YtgpekomaoeockaaW.PrintLast Go.Proofs.YtgpekomaoeockaaW.PrintMore Go.Proofs.Ytgpekomaoeockaa.QMemSizes
attribute [local go_sem] max2_int min2_int max_two min_two max_three min_three max_four min_four
set_option linter.unusedVariables false
set_option linter.unusedSimpArgs false
/-! ### mem_within: function 18 -/
def mem_within.f (a0 : Int) : Option (Int) := some (mx 0 (mn a0 65536))
set_option maxHeartbeats 8000000 in
set_option maxRecDepth 100000 in
theorem mem_within.calls (a0 : Int) (r : Int) (w : World) (h : mem_within.f a0 = some r) :
    Calls Try.prog 18 #[.int .i64 a0] w fun e w' => e = .returned (.int .i64 r) ∧ Below w.heap.size w w' := by
  have HB := Aside0.mk (Below.refl w.heap.size w)
  have H : (some (mx 0 (mn a0 65536))) = some r := h
  clear h
  obtain ⟨ji2, hji2⟩ : ∃ j_ : Int, (mn a0 65536) = j_ := ⟨_, rfl⟩
  replace H : (some (mx 0 (ji2))) = some r := by first | (rw [hji2] at H; exact H) | (simp only [hji2] at H ⊢; exact H)
  (try (have hji2h : ji2 ≤ 65536 := by (rw [← hji2]; unfold mn; (repeat' split) <;> omega)))
  (try (have hji2g : ji2 ≤ 64 := by omega))
  have hji2_ : (if 65536 < a0 then 65536 else a0) = ji2 := hji2
  obtain ⟨ji3, hji3⟩ : ∃ j_ : Int, (mx 0 (ji2)) = j_ := ⟨_, rfl⟩
  replace H : (some ji3) = some r := by first | (rw [hji3] at H; exact H) | (simp only [hji3] at H ⊢; exact H)
  have hji3_ : (if 0 < (ji2) then (ji2) else 0) = ji3 := hji3
  obtain rfl := Option.some.inj H
  go_enter Try.func18, Try.ntmps18
  go_wp2
  go_ret
  exact ⟨by first | rfl | (simp [errW_none, errW_some] <;> rfl) | (simp only [← hji2, ← hji3]; first | rfl | (simp [errW_none, errW_some] <;> rfl)) | (simp [*, errW_none, errW_some] <;> rfl), by repeat (first | (with_reducible first | exact HB.out | apply below_alloc | apply pw_below_drewN | apply below_drew1) | exact HB.out)⟩

/-! ### mem_New: function 8 -/
def mem_New.f (a0 : Int) (a1 : Int) : Option (List Int × List Int) := (mem_within.f a0).bind fun t101 => (if 0 ≤ t101 then (if (t101 : Int).toNat ≤ 70368744177664 then ((mem_within.f a1).bind fun t105 => (if 0 ≤ t105 then (if (t105 : Int).toNat ≤ 70368744177664 then (some ((List.replicate (t101 : Int).toNat 0), (List.replicate (t105 : Int).toNat 0))) else (none)) else (none))) else (none)) else (none))
def mem_New.T1 : Bool × List (List Nat × List Nat) := (true, [([], []), ([0], [0]), ([1, 1], [1]), ([], []), ([3, 1], [3]), ([4, 4], [4]), ([2, 5], [2, 5]), ([6], [6]), ([7, 4, 0, 1, 2, 3, 4, 5, 6, 7], [7])])
def mem_New.B1 : List Nat := [0, 1, 3, 0, 11, 27, 63, 127, 255]
theorem mem_New.tab1 : rtab .any (opsOf Try.f8 1) = mem_New.T1 := by kernel_rfl
theorem mem_New.bits1 : waitsOk mem_New.T1.2 mem_New.B1 = true := by kernel_rfl
set_option maxHeartbeats 8000000 in
set_option maxRecDepth 100000 in
theorem mem_New.calls (a0 : Int) (a1 : Int) (r1 : List Int) (r2 : List Int) (w : World) (h : mem_New.f a0 a1 = some (r1, r2)) :
    Calls Try.prog 8 #[.int .i64 a0, .int .i64 a1] w fun e w' => ∃ (p : Nat) (v0_ v1_ : Value), Made v0_ r1.length ∧ Made v1_ r2.length ∧ e = .returned (.pointer (some ⟨p, 0, none⟩)) ∧ w'.heap[p]? = some (.cells #[v0_, v1_, .slice none 0 0] 48 (0, 0)) ∧ w.heap.size ≤ p ∧ Kd.R (Kd.int .i32) 21 w' w.heap.size (fun k_ => some k_ ≠ (v1_ : Value).ownBlock ∧ k_ ≠ p) v0_ r1 ∧ Kd.R (Kd.int .i32) 21 w' w.heap.size (fun k_ => some k_ ≠ (v0_ : Value).ownBlock ∧ k_ ≠ p) v1_ r2 ∧ Below w.heap.size w w' := by
  have HB := Aside0.mk (Below.refl w.heap.size w)
  have H : ((mem_within.f a0).bind fun t101 => (if 0 ≤ t101 then (if (t101 : Int).toNat ≤ 70368744177664 then ((mem_within.f a1).bind fun t105 => (if 0 ≤ t105 then (if (t105 : Int).toNat ≤ 70368744177664 then (some ((List.replicate (t101 : Int).toNat 0), (List.replicate (t105 : Int).toNat 0))) else (none)) else (none))) else (none)) else (none))) = some (r1, r2) := h
  clear h
  replace H := Option.bind_eq_some_iff.mp H
  obtain ⟨t101, A30, H⟩ := H
  replace H : (if 0 ≤ t101 then (if (t101 : Int).toNat ≤ 70368744177664 then ((mem_within.f a1).bind fun t105 => (if 0 ≤ t105 then (if (t105 : Int).toNat ≤ 70368744177664 then (some ((List.replicate (t101 : Int).toNat 0), (List.replicate (t105 : Int).toNat 0))) else (none)) else (none))) else (none)) else (none)) = some (r1, r2) := H
  have A3 := Aside0.mk A30
  clear A30
  by_cases c4 : 0 ≤ t101
  · rw [if_pos c4] at H
    have c4b0 := eq_true c4
    have c4b1 : decide (0 ≤ t101) = true := decide_eq_true c4
    clear c4
    by_cases c5 : (t101 : Int).toNat ≤ 70368744177664
    · rw [if_pos c5] at H
      have c5b0 := eq_true c5
      have c5b1 : decide ((t101 : Int).toNat ≤ 70368744177664) = true := decide_eq_true c5
      clear c5
      obtain ⟨y102, hy102⟩ : ∃ y_ : List Int, y_ = (List.replicate (t101 : Int).toNat 0) := ⟨_, rfl⟩
      replace H : ((mem_within.f a1).bind fun t105 => (if 0 ≤ t105 then (if (t105 : Int).toNat ≤ 70368744177664 then (some (y102, (List.replicate (t105 : Int).toNat 0))) else (none)) else (none))) = some (r1, r2) := by first | (rw [hy102]; with_reducible exact H) | (have H2_ := (Option.bind_some _ _).symm.trans H; rw [hy102]; with_reducible exact H2_) | (have H2_ := (Option.bind_some _ _).symm.trans H; with_reducible exact H2_) | with_reducible exact H | (rw [hy102]; exact H) | exact H
      have Ny102 := Aside0.mk hy102
      clear hy102
      replace H := Option.bind_eq_some_iff.mp H
      obtain ⟨t105, A60, H⟩ := H
      replace H : (if 0 ≤ t105 then (if (t105 : Int).toNat ≤ 70368744177664 then (some (y102, (List.replicate (t105 : Int).toNat 0))) else (none)) else (none)) = some (r1, r2) := H
      have A6 := Aside0.mk A60
      clear A60
      by_cases c7 : 0 ≤ t105
      · rw [if_pos c7] at H
        have c7b0 := eq_true c7
        have c7b1 : decide (0 ≤ t105) = true := decide_eq_true c7
        clear c7
        by_cases c8 : (t105 : Int).toNat ≤ 70368744177664
        · rw [if_pos c8] at H
          have c8b0 := eq_true c8
          have c8b1 : decide ((t105 : Int).toNat ≤ 70368744177664) = true := decide_eq_true c8
          clear c8
          obtain ⟨y106, hy106⟩ : ∃ y_ : List Int, y_ = (List.replicate (t105 : Int).toNat 0) := ⟨_, rfl⟩
          replace H : (some (y102, y106)) = some (r1, r2) := by first | (rw [hy106]; with_reducible exact H) | (have H2_ := (Option.bind_some _ _).symm.trans H; rw [hy106]; with_reducible exact H2_) | (have H2_ := (Option.bind_some _ _).symm.trans H; with_reducible exact H2_) | with_reducible exact H | (rw [hy106]; exact H) | exact H
          have Ny106 := Aside0.mk hy106
          clear hy106
          simp only [Option.some.injEq, Prod.mk.injEq] at H
          obtain ⟨rfl, rfl⟩ := H
          have hu48 := Try.underlying48
          go_enter Try.func8, Try.ntmps8
          try go_wp2
          have n0_ := Aside0.mk (below_drew1 HB.out)
          clear HB
          have HB := n0_
          clear n0_
          refine start_ (n := 9) (S := fun w' => True) (ds := []) #[false, false, false, false, false, false, false, false, false] (by kernel_rfl) rfl rfl trivial (fun hHeld => ?_); refine with_tabW mem_New.tab1 mem_New.bits1 (fun HT_ HW_ => ?_)
          generalize w.drew = w9 at HB hHeld ⊢
          refine pure_ (i := 0) (N := some 5) (v := ?_) (a' := ?_) #[true, false, false, false, false, false, false, false, false] rfl rfl (any_of HT_.out (by kernel_rfl)) (fun _ _ _ h => h) (Or.inl ⟨by rfl, ?_⟩) ?_ ?_
          rotate_left
          · intro w'
            go_simp
            with_reducible rfl
          rotate_left
          · simp only [Act.put, List.setIfInBounds_toArray, List.set_cons_zero, List.set_cons_succ, i64_w, i32_w]
            rfl
          refine pure_ (i := 3) (N := some 8) (v := ?_) (a' := ?_) #[true, false, false, true, false, false, false, false, false] rfl rfl (any_of HT_.out (by kernel_rfl)) (fun _ _ _ h => h) (Or.inl ⟨by rfl, ?_⟩) ?_ ?_
          rotate_left
          · intro w'
            go_simp
            with_reducible rfl
          rotate_left
          · simp only [Act.put, List.setIfInBounds_toArray, List.set_cons_zero, List.set_cons_succ, i64_w, i32_w]
            rfl
          refine one_ (i := 1) (N := some 6) #[true, true, false, true, false, false, false, false, false] rfl rfl (one_of HT_.out (by kernel_rfl)) (by decide) (fun K hK => ?_)
          refine goes_ Try.func18 (by kernel_rfl) rfl #[.int .i64 a0] (by rfl) rfl rfl (by (try simp only [List.map_toArray, List.map_cons, List.map_nil]); first | done | rfl | (simp only [List.length_drop, List.length_take]; rfl)) ?_
          with_reducible refine (mem_within.calls a0 t101 _ A3.out).mono ?_
          rintro e w10 ⟨rfl, hb⟩
          refine ⟨_, rfl, ?_⟩
          have n0_ := Aside0.mk (below_step (by repeat (first | (with_reducible first | exact HB.out | apply below_alloc | apply pw_below_drewN | apply below_drew1) | exact HB.out)) hb)
          clear HB
          have HB := n0_
          clear n0_
          (try clear hb)
          (try clear hb2)
          (try clear hk)
          (try clear hi)
          refine hK.out _ _ trivial (fun hHeld => ?_)
          clear hK K
          refine norm_ (a' := ?_) ?_ ?_
          rotate_left
          · show Act.put _ (some 6) _ = _
            simp only [Act.put, List.setIfInBounds_toArray, List.set_cons_zero, List.set_cons_succ, i64_w, i32_w]
            rfl
          refine join_ (σ := Value × Value) 3 #[true, true, true, true, true, true, false, false, false] (fun s_ => [(7, s_.1), (9, .int .i64 t105), (10, s_.2)]) (fun s_ w' => (Kd.R (Kd.int .i32) 21 w' w.heap.size (fun k_ => some k_ ≠ (s_.2 : Value).ownBlock) s_.1 y102) ∧ (Kd.R (Kd.int .i32) 21 w' w.heap.size (fun k_ => some k_ ≠ (s_.1 : Value).ownBlock) s_.2 y106) ∧ (Below w.heap.size w w') ∧ Made s_.1 y102.length ∧ Made s_.2 y106.length) ?_ ?_
          rotate_left
          · intro hCont
            refine two_ (i := 2) (j := 4) (Ni := some 7) (Nj := some 9) #[true, true, true, true, false, false, false, false, false] #[true, true, false, true, true, false, false, false, false] rfl rfl rfl rfl (two_of HT_.out (by kernel_rfl)) (by decide) (by decide) (fun K hK => ?_) (fun K hK => ?_)
            · skip
              refine make_ex (Kd.int .i32) _ 21 (by rfl) (N := 7) rfl 29 _ _ rfl t101 rfl rfl Try.underlying29 (.int .i32 0) 4 info21 rfl (by decide) (by omega) 0 (ok := fun _ => True) (okp := fun _ => True) rfl (fun _ hk => hk) trivial (of_decide_eq_true (by first | (with_reducible assumption) | assumption)) (Nat.le_trans (Nat.mul_le_mul_right _ (of_decide_eq_true (by first | (with_reducible assumption) | assumption) : t101.toNat ≤ 70368744177664)) (by omega)) (Below.refl _ _) (Nat.le_refl _) ?_
              intro v103 w11 ho12 hb hg_ hnew_
              clear hg_
              have EXv103 : Aside0 (Made v103 y102.length) := Aside0.mk (by rw [Ny102.out, List.length_replicate]; exact hnew_)
              clear hnew_
              (first | rw [← Ny102.out] at ho12 | (simp only [Int.reduceToNat] at ho12; rw [← Ny102.out] at ho12))
              have n0_ := Aside0.mk (Kd.R_lower ho12 (below_size (by repeat (first | (with_reducible first | exact HB.out | apply below_alloc | apply pw_below_drewN | apply below_drew1) | exact HB.out))))
              have n1_ := Aside0.mk (below_step (by repeat (first | (with_reducible first | exact HB.out | apply below_alloc | apply pw_below_drewN | apply below_drew1) | exact HB.out)) hb)
              clear HB
              have HO104 := n0_
              have HB := n1_
              clear n0_ n1_
              clear hb ho12
              refine hK.out _ _ trivial (fun hHeld => ?_)
              clear hK K
              refine norm_ (a' := ?_) ?_ ?_
              rotate_left
              · show Act.put _ (some 7) _ = _
                simp only [Act.put, List.setIfInBounds_toArray, List.set_cons_zero, List.set_cons_succ, i64_w, i32_w]
                rfl
              refine one_ (i := 4) (N := some 9) #[true, true, true, true, true, false, false, false, false] rfl rfl (one_of HT_.out (by kernel_rfl)) (by decide) (fun K hK => ?_)
              refine goes_ Try.func18 (by kernel_rfl) rfl #[.int .i64 a1] (by rfl) rfl rfl (by (try simp only [List.map_toArray, List.map_cons, List.map_nil]); first | done | rfl | (simp only [List.length_drop, List.length_take]; rfl)) ?_
              with_reducible refine (mem_within.calls a1 t105 _ A6.out).mono ?_
              rintro e w13 ⟨rfl, hb⟩
              refine ⟨_, rfl, ?_⟩
              have n0_ := Aside0.mk (Kd.R_below (by (with_reducible repeat (first | apply Kd.R_alloc | apply Kd.R_drewN | apply Kd.R_drew)); exact HO104.out) hb)
              have n1_ := Aside0.mk (below_step (by repeat (first | (with_reducible first | exact HB.out | apply below_alloc | apply pw_below_drewN | apply below_drew1) | exact HB.out)) hb)
              clear HO104
              clear HB
              have HO104 := n0_
              have HB := n1_
              clear n0_ n1_
              (try clear hb)
              (try clear hb2)
              (try clear hk)
              (try clear hi)
              refine hK.out _ _ trivial (fun hHeld => ?_)
              clear hK K
              refine norm_ (a' := ?_) ?_ ?_
              rotate_left
              · show Act.put _ (some 9) _ = _
                simp only [Act.put, List.setIfInBounds_toArray, List.set_cons_zero, List.set_cons_succ, i64_w, i32_w]
                rfl
              refine one_ (i := 5) (N := some 10) #[true, true, true, true, true, true, false, false, false] rfl rfl (one_of HT_.out (by kernel_rfl)) (by decide) (fun K hK => ?_)
              refine make_ex (Kd.int .i32) _ 21 (by rfl) (N := 10) rfl 29 _ _ rfl t105 rfl rfl Try.underlying29 (.int .i32 0) 4 info21 rfl (by decide) (by omega) 0 (ok := fun _ => True) (okp := fun _ => True) rfl (fun _ hk => hk) trivial (of_decide_eq_true (by first | (with_reducible assumption) | assumption)) (Nat.le_trans (Nat.mul_le_mul_right _ (of_decide_eq_true (by first | (with_reducible assumption) | assumption) : t105.toNat ≤ 70368744177664)) (by omega)) (Below.refl _ _) (Nat.le_refl _) ?_
              intro v107 w14 ho15 hb hg_ hnew_
              clear hg_
              have EXv107 : Aside0 (Made v107 y106.length) := Aside0.mk (by rw [Ny106.out, List.length_replicate]; exact hnew_)
              clear hnew_
              (first | rw [← Ny106.out] at ho15 | (simp only [Int.reduceToNat] at ho15; rw [← Ny106.out] at ho15))
              have n0_ := Aside0.mk (Kd.R_elder' (by (with_reducible repeat (first | apply Kd.R_alloc | apply Kd.R_drewN | apply Kd.R_drew)); exact HO104.out) (Kd.R_base ho15) hb)
              have n1_ := Aside0.mk (Kd.R_lower (Kd.R_new' ho15 (Kd.R_lt (by (with_reducible repeat (first | apply Kd.R_alloc | apply Kd.R_drewN | apply Kd.R_drew)); exact HO104.out))) (below_size (by repeat (first | (with_reducible first | exact HB.out | apply below_alloc | apply pw_below_drewN | apply below_drew1) | exact HB.out))))
              have n2_ := Aside0.mk (below_step (by repeat (first | (with_reducible first | exact HB.out | apply below_alloc | apply pw_below_drewN | apply below_drew1) | exact HB.out)) hb)
              clear HO104
              clear HB
              have HO104 := n0_
              have HO108 := n1_
              have HB := n2_
              clear n0_ n1_ n2_
              clear hb ho15
              refine hK.out _ _ trivial (fun hHeld => ?_)
              clear hK K
              refine norm_ (a' := ?_) ?_ ?_
              rotate_left
              · show Act.put _ (some 10) _ = _
                simp only [Act.put, List.setIfInBounds_toArray, List.set_cons_zero, List.set_cons_succ, i64_w, i32_w]
                rfl
              exact norm_ (by simp only [putAll, Act.put, List.setIfInBounds_toArray, List.set_cons_zero, List.set_cons_succ]) (hCont (v103, v107) _ ⟨(by (with_reducible repeat (first | apply Kd.R_alloc | apply Kd.R_drewN | apply Kd.R_drew)); exact Kd.R_mono HO104.out (fun _ hk => hk.2)), (by (with_reducible repeat (first | apply Kd.R_alloc | apply Kd.R_drewN | apply Kd.R_drew)); exact Kd.R_mono HO108.out (fun _ hk => hk.2)), (by repeat (first | (with_reducible first | exact HB.out | apply below_alloc | apply pw_below_drewN | apply below_drew1) | exact HB.out)), EXv103.out, EXv107.out⟩)
            · skip
              refine goes_ Try.func18 (by kernel_rfl) rfl #[.int .i64 a1] (by rfl) rfl rfl (by (try simp only [List.map_toArray, List.map_cons, List.map_nil]); first | done | rfl | (simp only [List.length_drop, List.length_take]; rfl)) ?_
              with_reducible refine (mem_within.calls a1 t105 _ A6.out).mono ?_
              rintro e w11 ⟨rfl, hb⟩
              refine ⟨_, rfl, ?_⟩
              have n0_ := Aside0.mk (below_step (by repeat (first | (with_reducible first | exact HB.out | apply below_alloc | apply pw_below_drewN | apply below_drew1) | exact HB.out)) hb)
              clear HB
              have HB := n0_
              clear n0_
              (try clear hb)
              (try clear hb2)
              (try clear hk)
              (try clear hi)
              refine hK.out _ _ trivial (fun hHeld => ?_)
              clear hK K
              refine norm_ (a' := ?_) ?_ ?_
              rotate_left
              · show Act.put _ (some 9) _ = _
                simp only [Act.put, List.setIfInBounds_toArray, List.set_cons_zero, List.set_cons_succ, i64_w, i32_w]
                rfl
              refine two_ (i := 2) (j := 5) (Ni := some 7) (Nj := some 10) #[true, true, true, true, true, false, false, false, false] #[true, true, false, true, true, true, false, false, false] rfl rfl rfl rfl (two_of HT_.out (by kernel_rfl)) (by decide) (by decide) (fun K hK => ?_) (fun K hK => ?_)
              · skip
                refine make_ex (Kd.int .i32) _ 21 (by rfl) (N := 7) rfl 29 _ _ rfl t101 rfl rfl Try.underlying29 (.int .i32 0) 4 info21 rfl (by decide) (by omega) 0 (ok := fun _ => True) (okp := fun _ => True) rfl (fun _ hk => hk) trivial (of_decide_eq_true (by first | (with_reducible assumption) | assumption)) (Nat.le_trans (Nat.mul_le_mul_right _ (of_decide_eq_true (by first | (with_reducible assumption) | assumption) : t101.toNat ≤ 70368744177664)) (by omega)) (Below.refl _ _) (Nat.le_refl _) ?_
                intro v103 w12 ho13 hb hg_ hnew_
                clear hg_
                have EXv103 : Aside0 (Made v103 y102.length) := Aside0.mk (by rw [Ny102.out, List.length_replicate]; exact hnew_)
                clear hnew_
                (first | rw [← Ny102.out] at ho13 | (simp only [Int.reduceToNat] at ho13; rw [← Ny102.out] at ho13))
                have n0_ := Aside0.mk (Kd.R_lower ho13 (below_size (by repeat (first | (with_reducible first | exact HB.out | apply below_alloc | apply pw_below_drewN | apply below_drew1) | exact HB.out))))
                have n1_ := Aside0.mk (below_step (by repeat (first | (with_reducible first | exact HB.out | apply below_alloc | apply pw_below_drewN | apply below_drew1) | exact HB.out)) hb)
                clear HB
                have HO104 := n0_
                have HB := n1_
                clear n0_ n1_
                clear hb ho13
                refine hK.out _ _ trivial (fun hHeld => ?_)
                clear hK K
                refine norm_ (a' := ?_) ?_ ?_
                rotate_left
                · show Act.put _ (some 7) _ = _
                  simp only [Act.put, List.setIfInBounds_toArray, List.set_cons_zero, List.set_cons_succ, i64_w, i32_w]
                  rfl
                refine one_ (i := 5) (N := some 10) #[true, true, true, true, true, true, false, false, false] rfl rfl (one_of HT_.out (by kernel_rfl)) (by decide) (fun K hK => ?_)
                refine make_ex (Kd.int .i32) _ 21 (by rfl) (N := 10) rfl 29 _ _ rfl t105 rfl rfl Try.underlying29 (.int .i32 0) 4 info21 rfl (by decide) (by omega) 0 (ok := fun _ => True) (okp := fun _ => True) rfl (fun _ hk => hk) trivial (of_decide_eq_true (by first | (with_reducible assumption) | assumption)) (Nat.le_trans (Nat.mul_le_mul_right _ (of_decide_eq_true (by first | (with_reducible assumption) | assumption) : t105.toNat ≤ 70368744177664)) (by omega)) (Below.refl _ _) (Nat.le_refl _) ?_
                intro v107 w14 ho15 hb hg_ hnew_
                clear hg_
                have EXv107 : Aside0 (Made v107 y106.length) := Aside0.mk (by rw [Ny106.out, List.length_replicate]; exact hnew_)
                clear hnew_
                (first | rw [← Ny106.out] at ho15 | (simp only [Int.reduceToNat] at ho15; rw [← Ny106.out] at ho15))
                have n0_ := Aside0.mk (Kd.R_elder' (by (with_reducible repeat (first | apply Kd.R_alloc | apply Kd.R_drewN | apply Kd.R_drew)); exact HO104.out) (Kd.R_base ho15) hb)
                have n1_ := Aside0.mk (Kd.R_lower (Kd.R_new' ho15 (Kd.R_lt (by (with_reducible repeat (first | apply Kd.R_alloc | apply Kd.R_drewN | apply Kd.R_drew)); exact HO104.out))) (below_size (by repeat (first | (with_reducible first | exact HB.out | apply below_alloc | apply pw_below_drewN | apply below_drew1) | exact HB.out))))
                have n2_ := Aside0.mk (below_step (by repeat (first | (with_reducible first | exact HB.out | apply below_alloc | apply pw_below_drewN | apply below_drew1) | exact HB.out)) hb)
                clear HO104
                clear HB
                have HO104 := n0_
                have HO108 := n1_
                have HB := n2_
                clear n0_ n1_ n2_
                clear hb ho15
                refine hK.out _ _ trivial (fun hHeld => ?_)
                clear hK K
                refine norm_ (a' := ?_) ?_ ?_
                rotate_left
                · show Act.put _ (some 10) _ = _
                  simp only [Act.put, List.setIfInBounds_toArray, List.set_cons_zero, List.set_cons_succ, i64_w, i32_w]
                  rfl
                exact norm_ (by simp only [putAll, Act.put, List.setIfInBounds_toArray, List.set_cons_zero, List.set_cons_succ]) (hCont (v103, v107) _ ⟨(by (with_reducible repeat (first | apply Kd.R_alloc | apply Kd.R_drewN | apply Kd.R_drew)); exact Kd.R_mono HO104.out (fun _ hk => hk.2)), (by (with_reducible repeat (first | apply Kd.R_alloc | apply Kd.R_drewN | apply Kd.R_drew)); exact Kd.R_mono HO108.out (fun _ hk => hk.2)), (by repeat (first | (with_reducible first | exact HB.out | apply below_alloc | apply pw_below_drewN | apply below_drew1) | exact HB.out)), EXv103.out, EXv107.out⟩)
              · skip
                refine make_ex (Kd.int .i32) _ 21 (by rfl) (N := 10) rfl 29 _ _ rfl t105 rfl rfl Try.underlying29 (.int .i32 0) 4 info21 rfl (by decide) (by omega) 0 (ok := fun _ => True) (okp := fun _ => True) rfl (fun _ hk => hk) trivial (of_decide_eq_true (by first | (with_reducible assumption) | assumption)) (Nat.le_trans (Nat.mul_le_mul_right _ (of_decide_eq_true (by first | (with_reducible assumption) | assumption) : t105.toNat ≤ 70368744177664)) (by omega)) (Below.refl _ _) (Nat.le_refl _) ?_
                intro v107 w12 ho13 hb hg_ hnew_
                clear hg_
                have EXv107 : Aside0 (Made v107 y106.length) := Aside0.mk (by rw [Ny106.out, List.length_replicate]; exact hnew_)
                clear hnew_
                (first | rw [← Ny106.out] at ho13 | (simp only [Int.reduceToNat] at ho13; rw [← Ny106.out] at ho13))
                have n0_ := Aside0.mk (Kd.R_lower ho13 (below_size (by repeat (first | (with_reducible first | exact HB.out | apply below_alloc | apply pw_below_drewN | apply below_drew1) | exact HB.out))))
                have n1_ := Aside0.mk (below_step (by repeat (first | (with_reducible first | exact HB.out | apply below_alloc | apply pw_below_drewN | apply below_drew1) | exact HB.out)) hb)
                clear HB
                have HO108 := n0_
                have HB := n1_
                clear n0_ n1_
                clear hb ho13
                refine hK.out _ _ trivial (fun hHeld => ?_)
                clear hK K
                refine norm_ (a' := ?_) ?_ ?_
                rotate_left
                · show Act.put _ (some 10) _ = _
                  simp only [Act.put, List.setIfInBounds_toArray, List.set_cons_zero, List.set_cons_succ, i64_w, i32_w]
                  rfl
                refine one_ (i := 2) (N := some 7) #[true, true, true, true, true, true, false, false, false] rfl rfl (one_of HT_.out (by kernel_rfl)) (by decide) (fun K hK => ?_)
                refine make_ex (Kd.int .i32) _ 21 (by rfl) (N := 7) rfl 29 _ _ rfl t101 rfl rfl Try.underlying29 (.int .i32 0) 4 info21 rfl (by decide) (by omega) 0 (ok := fun _ => True) (okp := fun _ => True) rfl (fun _ hk => hk) trivial (of_decide_eq_true (by first | (with_reducible assumption) | assumption)) (Nat.le_trans (Nat.mul_le_mul_right _ (of_decide_eq_true (by first | (with_reducible assumption) | assumption) : t101.toNat ≤ 70368744177664)) (by omega)) (Below.refl _ _) (Nat.le_refl _) ?_
                intro v103 w14 ho15 hb hg_ hnew_
                clear hg_
                have EXv103 : Aside0 (Made v103 y102.length) := Aside0.mk (by rw [Ny102.out, List.length_replicate]; exact hnew_)
                clear hnew_
                (first | rw [← Ny102.out] at ho15 | (simp only [Int.reduceToNat] at ho15; rw [← Ny102.out] at ho15))
                have n0_ := Aside0.mk (Kd.R_elder' (by (with_reducible repeat (first | apply Kd.R_alloc | apply Kd.R_drewN | apply Kd.R_drew)); exact HO108.out) (Kd.R_base ho15) hb)
                have n1_ := Aside0.mk (Kd.R_lower (Kd.R_new' ho15 (Kd.R_lt (by (with_reducible repeat (first | apply Kd.R_alloc | apply Kd.R_drewN | apply Kd.R_drew)); exact HO108.out))) (below_size (by repeat (first | (with_reducible first | exact HB.out | apply below_alloc | apply pw_below_drewN | apply below_drew1) | exact HB.out))))
                have n2_ := Aside0.mk (below_step (by repeat (first | (with_reducible first | exact HB.out | apply below_alloc | apply pw_below_drewN | apply below_drew1) | exact HB.out)) hb)
                clear HO108
                clear HB
                have HO108 := n0_
                have HO104 := n1_
                have HB := n2_
                clear n0_ n1_ n2_
                clear hb ho15
                refine hK.out _ _ trivial (fun hHeld => ?_)
                clear hK K
                refine norm_ (a' := ?_) ?_ ?_
                rotate_left
                · show Act.put _ (some 7) _ = _
                  simp only [Act.put, List.setIfInBounds_toArray, List.set_cons_zero, List.set_cons_succ, i64_w, i32_w]
                  rfl
                exact norm_ (by simp only [putAll, Act.put, List.setIfInBounds_toArray, List.set_cons_zero, List.set_cons_succ]) (hCont (v103, v107) _ ⟨(by (with_reducible repeat (first | apply Kd.R_alloc | apply Kd.R_drewN | apply Kd.R_drew)); exact Kd.R_mono HO104.out (fun _ hk => hk.2)), (by (with_reducible repeat (first | apply Kd.R_alloc | apply Kd.R_drewN | apply Kd.R_drew)); exact Kd.R_mono HO108.out (fun _ hk => hk.2)), (by repeat (first | (with_reducible first | exact HB.out | apply below_alloc | apply pw_below_drewN | apply below_drew1) | exact HB.out)), EXv103.out, EXv107.out⟩)
          rintro ⟨v103, v107⟩ w16 ⟨h0_, h1_, h2_, h3_, h4_⟩
          have EXv103 : Aside0 (Made v103 y102.length) := ⟨h3_⟩
          have EXv107 : Aside0 (Made v107 y106.length) := ⟨h4_⟩
          clear h3_ h4_
          have n0_ : Aside0 (Kd.R (Kd.int .i32) 21 w16 w.heap.size (fun k_ => some k_ ≠ (v107 : Value).ownBlock) v103 y102) := ⟨h0_⟩
          have n1_ : Aside0 (Kd.R (Kd.int .i32) 21 w16 w.heap.size (fun k_ => some k_ ≠ (v103 : Value).ownBlock) v107 y106) := ⟨h1_⟩
          have n2_ : Aside0 (Below w.heap.size w w16) := ⟨h2_⟩
          clear HB
          clear h0_ h1_ h2_
          have HO104 := n0_
          have HO108 := n1_
          have HB := n2_
          clear n0_ n1_ n2_
          have hHeld := trivial
          refine norm_ (a' := ?_) ?_ ?_
          rotate_left
          · simp only [putAll, Act.put, List.setIfInBounds_toArray, List.set_cons_zero, List.set_cons_succ]
            rfl
          obtain ⟨Ao1, co1, eo1⟩ := Kd.R_slice HO104.out
          subst eo1
          obtain ⟨Ao2, co2, eo2⟩ := Kd.R_slice HO108.out
          subst eo2
          refine pure_ (i := 6) (N := some 11) (v := ?_) (a' := ?_) #[true, true, true, true, true, true, true, false, false] rfl rfl (any_of HT_.out (by kernel_rfl)) (fun _ _ _ h => h) (Or.inl ⟨by rfl, ?_⟩) ?_ ?_
          rotate_left
          · intro w'
            go_simp
            with_reducible rfl
          rotate_left
          · simp only [Act.put, List.setIfInBounds_toArray, List.set_cons_zero, List.set_cons_succ, i64_w, i32_w]
            rfl
          refine one_ (i := 7) (N := some 12) #[true, true, true, true, true, true, true, true, false] rfl rfl (one_of HT_.out (by kernel_rfl)) (by decide) (fun K hK => ?_)
          refine box_step (by rfl) (N := 12) rfl (cs := #[.slice Ao1 y102.length co1, .slice Ao2 y106.length co2, .slice none 0 0]) (t := 48) (by first | (go_simp; done) | (go_simp; rfl)) ?_
          intro gb hg w17 hbox hb
          have m0 := Aside0.mk (show Kd.R (Kd.int .i32) 21 w17 w.heap.size (fun k_ => some k_ ≠ (.slice Ao2 y106.length co2 : Value).ownBlock ∧ k_ ≠ gb) (.slice Ao1 y102.length co1) y102 from Kd.R_mono (Kd.R_below (Kd.R_bound HO104.out) hb) (fun k hk => ⟨hk.1, by have := hk.2.2.1; omega⟩))
          have m1 := Aside0.mk (show Kd.R (Kd.int .i32) 21 w17 w.heap.size (fun k_ => some k_ ≠ (.slice Ao1 y102.length co1 : Value).ownBlock ∧ k_ ≠ gb) (.slice Ao2 y106.length co2) y106 from Kd.R_mono (Kd.R_below (Kd.R_bound HO108.out) hb) (fun k hk => ⟨hk.1, by have := hk.2.2.1; omega⟩))
          have m2 := Aside0.mk hbox
          have m3 := Aside0.mk (show w.heap.size ≤ gb by have := HB.out.size; omega)
          have m4 := Aside0.mk (below_step HB.out hb)
          clear HO104 HO108 HB hbox hb hg
          refine hK.out _ _ trivial (fun hHeld => ?_)
          clear hK K
          refine norm_ (a' := ?_) ?_ ?_
          rotate_left
          · show Act.put _ (some 12) _ = _
            simp only [Act.put, List.setIfInBounds_toArray, List.set_cons_zero, List.set_cons_succ, i64_w, i32_w]
            rfl
          refine pure_ (i := 8) (N := some 4) (v := ?_) (a' := ?_) #[true, true, true, true, true, true, true, true, true] rfl rfl (any_of HT_.out (by kernel_rfl)) (fun _ _ _ h => h) (Or.inl ⟨by rfl, ?_⟩) ?_ ?_
          rotate_left
          · intro w'
            go_simp
            with_reducible rfl
          rotate_left
          · simp only [Act.put, List.setIfInBounds_toArray, List.set_cons_zero, List.set_cons_succ, i64_w, i32_w]
            rfl
          refine done_ (done_of HT_.out (by kernel_rfl)) ?_
          try go_wp2
          go_ret
          exact ⟨_, _, _, EXv103.out, EXv107.out, rfl, m2.out, m3.out, m0.out, m1.out, m4.out⟩
        · rw [if_neg c8] at H
          exact absurd H (by simp)
      · rw [if_neg c7] at H
        exact absurd H (by simp)
    · rw [if_neg c5] at H
      exact absurd H (by simp)
  · rw [if_neg c4] at H
    exact absurd H (by simp)


end Go.Proofs.Ytgpekomaoeockaa.MemC
