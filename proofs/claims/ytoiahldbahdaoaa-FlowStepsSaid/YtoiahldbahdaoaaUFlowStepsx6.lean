-- Written by a program of ours (tools/mkprint.py) over the kit's printing program, for the law FlowSteps: some functions' texts are ours.
import Derived.Test.YtoiahldbahdaoaaUFlowStepsx0
namespace Go.Proofs.Ytoiahldbahdaoaa.QFlowSteps
open Go.RowKit Go.Proofs.YtoiahldbahdaoaaW.PrintWords Go.Proofs.YtoiahldbahdaoaaW.PrintLast Go.Proofs.YtoiahldbahdaoaaW.PrintMore
attribute [local go_sem] max2_int min2_int max_two min_two max_three min_three max_four min_four   -- for this text's walks alone
set_option linter.unusedVariables false
set_option linter.unusedSimpArgs false

/-! ### plimsollref01_Ints: function 12 -/
def plimsollref01_Ints.l0 : Nat → List Int → List Int → Int → Option (Bool)
  | 0, _, _, _ => none
  | k + 1, x0, x1, x5 => if x5 < (x0.length : Int) then (if 0 ≤ x5 then (if x5 < (x1.length : Int) then (if (rd x0 x5) = (rd x1 x5) then (plimsollref01_Ints.l0 k x0 x1 (wrap64 (x5 + 1))) else (some false)) else (none)) else (none)) else (some true)
def plimsollref01_Ints.f (k : Nat) (l0 : List Int) (l1 : List Int) : Option (Bool) := if (l0.length : Int) = (l1.length : Int) then (plimsollref01_Ints.l0 k l0 l1 0) else (some false)
theorem plimsollref01_Ints.mono_l : ∀ k, (∀ y0 y1 y2, LeO (plimsollref01_Ints.l0 k y0 y1 y2) (plimsollref01_Ints.l0 (k + 1) y0 y1 y2))
  | 0 => fun _ _ _ r h => by simp [plimsollref01_Ints.l0] at h
  | k + 1 => by
    have ih0 := plimsollref01_Ints.mono_l k
    · intro y0 y1 y2
      unfold plimsollref01_Ints.l0
      repeat' first
      | (with_reducible exact ih0 _ _ _)
      | (with_reducible exact LeO.refl _)
      | (with_reducible exact LeO.none _)
      | (with_reducible refine LeO.ite ?_ ?_)
      | (with_reducible refine LeO.bind ?_ (fun _ => ?_))
      | exact ih0 _ _ _
      | exact LeO.none _
      | refine LeO.ite ?_ ?_
      | refine LeO.bind ?_ (fun _ => ?_)
theorem plimsollref01_Ints.mono : ∀ a0 a1 k, LeO (plimsollref01_Ints.f k a0 a1) (plimsollref01_Ints.f (k + 1) a0 a1) := by
  intro a0 a1 k
  have ih0 := plimsollref01_Ints.mono_l k
  unfold plimsollref01_Ints.f
  repeat' first
      | (with_reducible exact ih0 _ _ _)
      | (with_reducible exact LeO.refl _)
      | (with_reducible exact LeO.none _)
      | (with_reducible refine LeO.ite ?_ ?_)
      | (with_reducible refine LeO.bind ?_ (fun _ => ?_))
      | exact ih0 _ _ _
      | exact LeO.none _
      | refine LeO.ite ?_ ?_
      | refine LeO.bind ?_ (fun _ => ?_)
set_option maxHeartbeats 8000000 in
set_option maxRecDepth 100000 in
theorem plimsollref01_Ints.calls (k : Nat) (A0 : Option Addr) (c0 : Nat) (l0 : List Int) (A1 : Option Addr) (c1 : Nat) (l1 : List Int) (r : Bool) (w : World) (hr0 : Kd.C (Kd.int .i64) w A0 l0.length l0) (hc0 : l0.length ≤ c0) (hr1 : Kd.C (Kd.int .i64) w A1 l1.length l1) (hc1 : l1.length ≤ c1) (h : plimsollref01_Ints.f k l0 l1 = some r) :
    Calls Try.prog 12 #[.slice A0 l0.length c0, .slice A1 l1.length c1] w fun e w' => e = .returned (.bool r) ∧ Drawn0 w w' := by
  have HR0 := Aside0.mk hr0
  have HC0 := Aside0.mk hc0
  clear hr0 hc0
  have HR1 := Aside0.mk hr1
  have HC1 := Aside0.mk hc1
  clear hr1 hc1
  have H : (if (l0.length : Int) = (l1.length : Int) then (plimsollref01_Ints.l0 k l0 l1 0) else (some false)) = some r := h
  clear h
  by_cases c3 : (l0.length : Int) = (l1.length : Int)
  · rw [if_pos c3] at H
    have c3b0 : ((l0.length : Int) == (l1.length : Int)) = true := beq_iff_eq.mpr c3
    have c3b1 : ((l0.length : Int) != (l1.length : Int)) = false := bne_eq_false_iff_eq.mpr c3
    have c3b2 : (l0.length == l1.length) = true := by first | simpa using c3 | (simp at c3 ⊢; omega)
    clear c3
    have H' := Aside0.mk H
    clear H
    go_enter Try.func12, Try.ntmps12
    go_wp2
    repeat (go_quiet (fail); try go_wp2)
    go_loopg [5] k (fun kq v5 w' => ∃ (x5_1 : Int), v5 = .int .i64 x5_1 ∧ Aside0 (plimsollref01_Ints.l0 kq l0 l1 x5_1 = some r) ∧ Aside0 (kq ≤ k) ∧ Drawn0 w w')
    case atStart => exact ⟨(0), (by first | rfl | (simp; done) | (simp [*]; done)), H', ⟨Nat.le_refl _⟩, by repeat (first | exact Drawn0.refl _ | apply Drawn0.step)⟩
    case round =>
      clear H'
      try clear c1
      try clear p2
      try clear c3
      try clear c3b0
      try clear c3b1
      try clear c3b2
      obtain ⟨x5_1, rfl, HA, HK1, ⟨m1, rfl⟩⟩ := hrel
      cases gk with
      | zero => exact absurd HA.out (by simp [plimsollref01_Ints.l0])
      | succ k1 =>
        have H := HA.out
        clear HA
        simp only [plimsollref01_Ints.l0] at H
        by_cases c4 : x5_1 < (l0.length : Int)
        · rw [if_pos c4] at H
          have c4b0 : decide (x5_1 < (l0.length : Int)) = true := decide_eq_true c4
          clear c4
          by_cases c5 : 0 ≤ x5_1
          · rw [if_pos c5] at H
            have c5b0 : decide (0 ≤ x5_1) = true := decide_eq_true c5
            clear c5
            by_cases c6 : x5_1 < (l1.length : Int)
            · rw [if_pos c6] at H
              have c6b0 : decide (x5_1 < (l1.length : Int)) = true := decide_eq_true c6
              clear c6
              by_cases c7 : (rd l0 x5_1) = (rd l1 x5_1)
              · rw [if_pos c7] at H
                have c7b0 : ((rd l0 x5_1) == (rd l1 x5_1)) = true := beq_iff_eq.mpr c7
                have c7b1 : ((rd l0 x5_1) != (rd l1 x5_1)) = false := bne_eq_false_iff_eq.mpr c7
                clear c7
                have H' := Aside0.mk H
                clear H
                have p257 : 0 ≤ (x5_1 : Int) := of_decide_eq_true (by first | (with_reducible assumption) | assumption)
                have q257 : x5_1 < (l0.length : Int) := of_decide_eq_true (by first | (with_reducible assumption) | assumption)
                obtain ⟨ad257, e257, hx257_0⟩ := Kd.at_int HR0.out x5_1 p257 q257
                cases e257
                replace p257 := eq_true p257
                replace q257 := eq_true q257
                have p258 : 0 ≤ (x5_1 : Int) := of_decide_eq_true (by first | (with_reducible assumption) | assumption)
                have q258 : x5_1 < (l1.length : Int) := of_decide_eq_true (by first | (with_reducible assumption) | assumption)
                obtain ⟨ad258, e258, hx258_0⟩ := Kd.at_int HR1.out x5_1 p258 q258
                cases e258
                replace p258 := eq_true p258
                replace q258 := eq_true q258
                go_wp2
                repeat (go_quiet (fail); try go_wp2)
                go_roundg k1
                case measure => have := HK1.out; omega
                case rel => exact ⟨(wrap64 (x5_1 + 1)), (by first | rfl | (simp; done) | (simp [*]; done)), H', ⟨by have := HK1.out; omega⟩, by repeat (first | exact Drawn0.refl _ | apply Drawn0.step)⟩
              · rw [if_neg c7] at H
                have c7b0 : ((rd l0 x5_1) == (rd l1 x5_1)) = false := beq_eq_false_iff_ne.mpr c7
                have c7b1 : ((rd l0 x5_1) != (rd l1 x5_1)) = true := bne_iff_ne.mpr c7
                obtain rfl := Option.some.inj H
                have p257 : 0 ≤ (x5_1 : Int) := of_decide_eq_true (by first | (with_reducible assumption) | assumption)
                have q257 : x5_1 < (l0.length : Int) := of_decide_eq_true (by first | (with_reducible assumption) | assumption)
                obtain ⟨ad257, e257, hx257_0⟩ := Kd.at_int HR0.out x5_1 p257 q257
                cases e257
                replace p257 := eq_true p257
                replace q257 := eq_true q257
                have p258 : 0 ≤ (x5_1 : Int) := of_decide_eq_true (by first | (with_reducible assumption) | assumption)
                have q258 : x5_1 < (l1.length : Int) := of_decide_eq_true (by first | (with_reducible assumption) | assumption)
                obtain ⟨ad258, e258, hx258_0⟩ := Kd.at_int HR1.out x5_1 p258 q258
                cases e258
                replace p258 := eq_true p258
                replace q258 := eq_true q258
                go_wp2
                repeat (go_quiet (fail); try go_wp2)
                go_ret
                exact ⟨by first | rfl | (simp; done) | (simp [*]; done), by repeat (first | exact Drawn0.refl _ | apply Drawn0.step)⟩
            · rw [if_neg c6] at H
              exact absurd H (by simp)
          · rw [if_neg c5] at H
            exact absurd H (by simp)
        · rw [if_neg c4] at H
          have c4b0 : decide (x5_1 < (l0.length : Int)) = false := decide_eq_false c4
          clear c4
          obtain rfl := Option.some.inj H
          go_wp2
          repeat (go_quiet (fail); try go_wp2)
          go_ret
          exact ⟨by first | rfl | (simp; done) | (simp [*]; done), by repeat (first | exact Drawn0.refl _ | apply Drawn0.step)⟩
  · rw [if_neg c3] at H
    have c3b0 : ((l0.length : Int) == (l1.length : Int)) = false := beq_eq_false_iff_ne.mpr c3
    have c3b1 : ((l0.length : Int) != (l1.length : Int)) = true := bne_iff_ne.mpr c3
    have c3b2 : (l0.length == l1.length) = false := by first | simpa using c3 | (simp at c3 ⊢; omega)
    obtain rfl := Option.some.inj H
    go_enter Try.func12, Try.ntmps12
    go_wp2
    repeat (go_quiet (fail); try go_wp2)
    go_ret
    exact ⟨by first | rfl | (simp; done) | (simp [*]; done), by repeat (first | exact Drawn0.refl _ | apply Drawn0.step)⟩

-- NOT PRINTED: function 13 (flow_Takes)

/-! ### plimsollref05_Slot: function 27 -/
def plimsollref05_Slot.f (l0_0 : List (S80)) (l0_1 : List (S38)) (l0_2 : List Int) (l0_3 : List (S41)) (l0_4 : List Int) (a0_5 : Int) (a0_6 : Int) (a1 : Int) (a2 : Int) : Option (Int × Bool) := if a1 < 0 then (some (0, false)) else (if a1 ≥ (l0_0.length : Int) then (some (0, false)) else (if a2 < 0 then (some (0, false)) else (if 0 ≤ a1 then (if a1 < (l0_0.length : Int) then (if a2 ≥ (((rd_T80 l0_0 a1).f2).length : Int) then (some (0, false)) else (if 0 ≤ a2 then (if a2 < (((rd_T80 l0_0 a1).f2).length : Int) then (some (rd ((rd_T80 l0_0 a1).f2) a2, true)) else (none)) else (none))) else (none)) else (none))))
set_option maxHeartbeats 8000000 in
set_option maxRecDepth 100000 in
theorem plimsollref05_Slot.calls (A0_0 : Option Addr) (c0_0 : Nat) (l0_0 : List (S80)) (A0_1 : Option Addr) (c0_1 : Nat) (l0_1 : List (S38)) (A0_2 : Option Addr) (c0_2 : Nat) (l0_2 : List Int) (A0_3 : Option Addr) (c0_3 : Nat) (l0_3 : List (S41)) (A0_4 : Option Addr) (c0_4 : Nat) (l0_4 : List Int) (a0_5 : Int) (a0_6 : Int) (a1 : Int) (a2 : Int) (r1 : Int) (r2 : Bool) (w : World) (hr0_0 : Kd.C k80 w A0_0 l0_0.length l0_0) (hc0_0 : l0_0.length ≤ c0_0) (hr0_1 : Kd.C k38 w A0_1 l0_1.length l0_1) (hc0_1 : l0_1.length ≤ c0_1) (hr0_2 : Kd.C (Kd.int .i32) w A0_2 l0_2.length l0_2) (hc0_2 : l0_2.length ≤ c0_2) (hr0_3 : Kd.C k41 w A0_3 l0_3.length l0_3) (hc0_3 : l0_3.length ≤ c0_3) (hr0_4 : Kd.C (Kd.int .i64) w A0_4 l0_4.length l0_4) (hc0_4 : l0_4.length ≤ c0_4) (h : plimsollref05_Slot.f l0_0 l0_1 l0_2 l0_3 l0_4 a0_5 a0_6 a1 a2 = some (r1, r2)) :
    Calls Try.prog 27 #[.agg #[.slice A0_0 l0_0.length c0_0, .slice A0_1 l0_1.length c0_1, .slice A0_2 l0_2.length c0_2, .slice A0_3 l0_3.length c0_3, .slice A0_4 l0_4.length c0_4, .int .i64 a0_5, .int .i64 a0_6], .int .i64 a1, .int .i64 a2] w fun e w' => e = .returned (.tuple #[.int .i64 r1, .bool r2]) ∧ Below w.heap.size w w' := by
  have HR := Aside0.mk hr0_0
  have HM := Aside0.mk h
  clear hc0_0 hr0_1 hc0_1 hr0_2 hc0_2 hr0_3 hc0_3 hr0_4 hc0_4
  have fin : ∀ {a a' : Int} {b b' : Bool}, some (a, b) = some (a', b') → Ending.returned (.tuple #[.int .i64 a, .bool b]) = .returned (.tuple #[.int .i64 a', .bool b']) := fun e => by injection e with e; injection e with e1 e2; rw [e1, e2]
  unfold plimsollref05_Slot.f at h
  by_cases n0 : a1 < 0
  · rw [if_pos n0] at h
    have HE := Aside0.mk h
    clear h hr0_0
    go_enter Try.func27, Try.ntmps27
    go_wp2_with fail
    go_ret2
    exact ⟨fin HE.out, below_alloc (Below.refl _ _) _⟩
  rw [if_neg n0] at h
  by_cases n1 : (l0_0.length : Int) ≤ a1
  · rw [if_pos n1] at h
    have HE := Aside0.mk h
    clear h hr0_0
    go_enter Try.func27, Try.ntmps27
    go_wp2_with fail
    go_ret2
    exact ⟨fin HE.out, below_alloc (Below.refl _ _) _⟩
  rw [if_neg n1] at h
  by_cases n2 : a2 < 0
  · rw [if_pos n2] at h
    have HE := Aside0.mk h
    clear h hr0_0
    go_enter Try.func27, Try.ntmps27
    go_wp2_with fail
    go_ret2
    exact ⟨fin HE.out, below_alloc (Below.refl _ _) _⟩
  rw [if_neg n2, if_pos (by omega), if_pos (by omega)] at h
  obtain ⟨ad, A1_, k1_, A2_, k2_, hA0, q0, q1, q2, s1, s2, s3, s4⟩ := at_T80 hr0_0 a1 (by omega) (by omega)
  subst hA0
  clear q0 q1 s1 s2 s3 hr0_0
  have ql := World.block_lt_of_cell? w _ q2
  have ql1 : (ad.add (a1.toNat * 3)).block < w.heap.size + 1 := Nat.lt_succ_of_lt ql
  obtain ⟨X, hX⟩ : ∃ X, (rd_T80 l0_0 a1).f2 = X := ⟨_, rfl⟩
  rw [hX] at h q2 s4
  clear hX
  by_cases n3 : (X.length : Int) ≤ a2
  · rw [if_pos n3] at h
    have HE := Aside0.mk h
    clear h
    go_enter Try.func27, Try.ntmps27
    go_wp2_with fail
    go_ret2
    exact ⟨fin HE.out, below_alloc (Below.refl _ _) _⟩
  rw [if_neg n3, if_pos (by omega), if_pos (by omega)] at h
  have HE := Aside0.mk h
  clear h
  obtain ⟨bd, eb, hel⟩ := (readsInt_of.2 (Kd.reads_of_C (d := (0 : Int)) s4)).at_ a2 (by omega) (by omega)
  subst eb
  have qb := World.block_lt_of_cell? w _ hel
  have qb1 : (bd.add a2.toNat).block < w.heap.size + 1 := Nat.lt_succ_of_lt qb
  clear s4
  go_enter Try.func27, Try.ntmps27
  go_wp2_with fail
  go_ret2
  exact ⟨fin HE.out, below_alloc (Below.refl _ _) _⟩

-- NOT PRINTED: function 61 (plimsollref05_Below)

-- NOT PRINTED: function 53 (plimsollref08_Targets)

-- NOT PRINTED: function 34 (plimsollref08_Calls)

-- NOT PRINTED: function 17 (plimsollref08_Edges)

-- NOT PRINTED: function 8 (plimsolllaw08_awake)

/-! ### plimsollref05_Local: function 24 -/
def plimsollref05_Local.f (l0_0 : List (S38)) (l0_1 : List (S38)) (a0_2 : Int) (a0_3 : Int) (l0_4 : List (S44)) (a0_5 : Int) (a0_6 : Int) (l0_7 : List Int) (a1 : Int) : Option (Int × Int) := (some (([] : List (S38)) : List (S38))).bind fun y280 => (if y280.length + l0_0.length < 8796093022208 then ((some (y280 ++ l0_0 : List (S38))).bind fun y283 => (if y283.length + l0_1.length < 8796093022208 then ((some (y283 ++ l0_1 : List (S38))).bind fun y286 => (if a1 < 0 then (some (0, 0)) else (if a1 ≥ (y286.length : Int) then (some (0, 0)) else (if 0 ≤ a1 then (if a1 < (y286.length : Int) then (some ((rd_T38 y286 a1).f0, (rd_T38 y286 a1).f1)) else (none)) else (none))))) else (none))) else (none))
set_option maxHeartbeats 8000000 in
set_option maxRecDepth 100000 in
theorem plimsollref05_Local.calls (A0_0 : Option Addr) (c0_0 : Nat) (l0_0 : List (S38)) (A0_1 : Option Addr) (c0_1 : Nat) (l0_1 : List (S38)) (a0_2 : Int) (a0_3 : Int) (A0_4 : Option Addr) (c0_4 : Nat) (l0_4 : List (S44)) (a0_5 : Int) (a0_6 : Int) (A0_7 : Option Addr) (c0_7 : Nat) (l0_7 : List Int) (a1 : Int) (r1 : Int) (r2 : Int) (w : World) (hr0_0 : Kd.C k38 w A0_0 l0_0.length l0_0) (hc0_0 : l0_0.length ≤ c0_0) (hr0_1 : Kd.C k38 w A0_1 l0_1.length l0_1) (hc0_1 : l0_1.length ≤ c0_1) (hr0_4 : Kd.C k44 w A0_4 l0_4.length l0_4) (hc0_4 : l0_4.length ≤ c0_4) (hr0_7 : Kd.C (Kd.int .i64) w A0_7 l0_7.length l0_7) (hc0_7 : l0_7.length ≤ c0_7) (h : plimsollref05_Local.f l0_0 l0_1 a0_2 a0_3 l0_4 a0_5 a0_6 l0_7 a1 = some (r1, r2)) :
    Calls Try.prog 24 #[.agg #[.slice A0_0 l0_0.length c0_0, .slice A0_1 l0_1.length c0_1, .int .i64 a0_2, .int .i64 a0_3, .slice A0_4 l0_4.length c0_4, .int .i64 a0_5, .int .i64 a0_6, .slice A0_7 l0_7.length c0_7], .int .i64 a1] w fun e w' => e = .returned (.agg #[.int .i64 r1, .int .i64 r2]) ∧ Below w.heap.size w w' := by
  have b2 : ∀ (w : World) (o1 o2 : Obj), ((w.alloc o1).alloc o2).heap[w.heap.size + 1]? = some o2 := fun w o1 o2 => by have h := heap_alloc_new (w.alloc o1) o2; rw [show (w.alloc o1).heap.size = w.heap.size + 1 by simp] at h; exact h
  have keepc : ∀ {w w' : World} (_ : Below w.heap.size w w') {a : Addr} {v : Value} (_ : w.cell? a = some v), w'.cell? a = some v := fun hb _ _ h => pw_cell_below hb h
  have see : ∀ {P : Program} {c : Code} {Q : Exit → Act → World → Prop} {a : Act} {F : World → Prop} (W : World) (_ : F W) (_ : ∀ w0, F w0 → Code.wp P c Q a w0), Code.wp P c Q a W := fun W hF h => h W hF
  have HR0 := Aside0.mk hr0_0
  have HR1 := Aside0.mk hr0_1
  clear hr0_0 hr0_1 hr0_4 hc0_4 hr0_7 hc0_7
  unfold plimsollref05_Local.f at h
  simp only [Option.bind_some] at h
  have hl0 : ([] : List S38).length + l0_0.length < 8796093022208 := by
    by_cases c : ([] : List S38).length + l0_0.length < 8796093022208
    · exact c
    · rw [if_neg c] at h; cases h
  rw [if_pos hl0] at h
  have hl1 : (([] : List S38) ++ l0_0).length + l0_1.length < 8796093022208 := by
    by_cases c : (([] : List S38) ++ l0_0).length + l0_1.length < 8796093022208
    · exact c
    · rw [if_neg c] at h; cases h
  rw [if_pos hl1] at h
  have HH := Aside0.mk h
  simp only [List.nil_append, List.length_nil, Nat.zero_add] at hl0 hl1
  clear h
  go_enter Try.func24, Try.ntmps24
  go_wp2_with fail
  refine see (F := fun w0_ => Below w.heap.size w w0_ ∧ w0_.cell? ⟨w.heap.size, 0, none⟩ = some (.slice A0_0 l0_0.length c0_0) ∧ w0_.cell? ⟨w.heap.size, 1, none⟩ = some (.slice A0_1 l0_1.length c0_1) ∧ w0_.heap[w.heap.size + 1]? = some (.cells #[.int .i64 0, .int .i64 0] 38 (0, 0))) _ ⟨(below_alloc (below_alloc (Below.refl _ _) _) _), (blk_cell (blk_alloc (blk_new w _) _) 0).trans rfl, (blk_cell (blk_alloc (blk_new w _) _) 1).trans rfl, b2 w _ _⟩ ?_
  rintro w0 ⟨hb0_, hq1_, hq2_, HX1⟩
  replace hb0_ := Aside0.mk hb0_
  replace hq1_ := Aside0.mk hq1_
  replace hq2_ := Aside0.mk hq2_
  replace HX1 := Aside0.mk HX1
  have KP := Aside0.mk (show ∀ w', Below w0.heap.size w0 w' → (w'.cell? ⟨w.heap.size, 0, none⟩ = some (.slice A0_0 l0_0.length c0_0) ∧ w'.cell? ⟨w.heap.size, 1, none⟩ = some (.slice A0_1 l0_1.length c0_1)) from fun w' h => ⟨keepc h hq1_.out, keepc h hq2_.out⟩)
  refine wp_region_noPanic ?_
  refine wp_region_held_drew (S := fun w' => w'.cell? ⟨w.heap.size, 0, none⟩ = some (.slice A0_0 l0_0.length c0_0) ∧ w'.cell? ⟨w.heap.size, 1, none⟩ = some (.slice A0_1 l0_1.length c0_1)) (by kernel_rfl) (by ((try dsimp only); first | exact KP.out _ (by assumption) | exact KP.out _ (Below.drew (Below.refl _ _)) | exact KP.out _ (below_alloc (by assumption) _) | exact KP.out _ (below_alloc (Below.refl _ _) _) | exact KP.out _ (below_alloc (below_alloc (Below.refl _ _) _) _))) (fun hHeld => ?_)
  refine wpAnyH_take (i := 1) (oi := _) (v := ?v1) rfl (by kernel_rfl) (by kernel_rfl) (by kernel_rfl) (fun _ _ _ h => h) (Or.inl ⟨by rfl, ?hy1⟩) (by assumption) ?hr1
  case hy1 => (intro w hSw; (try dsimp only at hSw); (first | (go_simp; done) | (go_simp; with_reducible rfl)))
  (try simp only [Act.put, List.getElem_toArray, List.getElem_cons_zero, List.getElem_cons_succ, List.setIfInBounds_toArray, List.set_cons_zero, List.set_cons_succ])
  refine wpAnyH_take (i := 2) (oi := _) (v := ?v2) rfl (by kernel_rfl) (by kernel_rfl) (by kernel_rfl) (fun _ _ _ h => h) (Or.inl ⟨by rfl, ?hy2⟩) (by assumption) ?hr2
  case hy2 => (intro w hSw; (try dsimp only at hSw); (first | (go_simp; done) | (go_simp; with_reducible rfl)))
  (try simp only [Act.put, List.getElem_toArray, List.getElem_cons_zero, List.getElem_cons_succ, List.setIfInBounds_toArray, List.set_cons_zero, List.set_cons_succ])
  refine wpAnyH_take (i := 4) (oi := _) (v := ?v3) rfl (by kernel_rfl) (by kernel_rfl) (by kernel_rfl) (fun _ _ _ h => h) (Or.inl ⟨by rfl, ?hy3⟩) (by assumption) ?hr3
  case hy3 => (intro w hSw; (try dsimp only at hSw); (first | (go_simp; done) | (go_simp; with_reducible rfl)))
  (try simp only [Act.put, List.getElem_toArray, List.getElem_cons_zero, List.getElem_cons_succ, List.setIfInBounds_toArray, List.set_cons_zero, List.set_cons_succ])
  refine wpAnyH_take (i := 5) (oi := _) (v := ?v4) rfl (by kernel_rfl) (by kernel_rfl) (by kernel_rfl) (fun _ _ _ h => h) (Or.inl ⟨by rfl, ?hy4⟩) (by assumption) ?hr4
  case hy4 => (intro w hSw; (try dsimp only at hSw); (first | (go_simp; done) | (go_simp; with_reducible rfl)))
  (try simp only [Act.put, List.getElem_toArray, List.getElem_cons_zero, List.getElem_cons_succ, List.setIfInBounds_toArray, List.set_cons_zero, List.set_cons_succ])
  refine wpAnyH_ready (rs := [0]) (by kernel_rfl) (by simp) ?_
  refine AllReadyH.cons (o := _) rfl (fun K hK => ?_) AllReadyH.nil
  first | (refine Kd.R_append_rows_step k38 (w0 := w0) w0.heap.size (by rfl) (.tmp 9) (.tmp 11) 23 38 (.agg #[(.int .i64 0), (.int .i64 0)]) 16 rfl Try.underlying23 info38 rfl (by decide) (by omega) v7 ([] ++ l0_0) l0_1 _ _ _ (fun _ => True) (fun _ => False) rfl rfl ?aO ?aR (fun _ _ h => h) (fun _ h => h.elim) (fun _ _ => trivial) ?aB ?aS ?aL ?_; (case aR => exact Kd.C_below HR1.out (below_step hb0_.out HB7)); (case aO => exact HV7.out); (case aB => exact HB7); (case aS => exact HB7.size); (case aL => simp; omega); intro v8 w8 hR8 hb8 hg8 ha8; clear hg8 ha8; have HB8 : Below w0.heap.size w0 w8 := hb8; have HV8 := Aside0.mk hR8; clear hR8 hb8; show K (Act.put _ (some 12) v8) w8) | (refine Kd.R_append_rows_step k38 (w0 := w0) w0.heap.size (by rfl) (.tmp 6) (.tmp 8) 23 38 (.agg #[(.int .i64 0), (.int .i64 0)]) 16 rfl Try.underlying23 info38 rfl (by decide) (by omega) v6 ([] : List S38) l0_0 _ _ _ (fun _ => True) (fun _ => False) rfl rfl ?aO ?aR (fun _ _ h => h) (fun _ h => h.elim) (fun _ _ => trivial) ?aB ?aS ?aL ?_; (case aR => exact Kd.C_below HR0.out (below_step hb0_.out HB6)); (case aO => exact HV.out); (case aB => exact HB6); (case aS => exact HB6.size); (case aL => simp; omega); intro v7 w7 hR7 hb7 hg7 ha7; clear hg7 ha7; have HB7 : Below w0.heap.size w0 w7 := hb7; have HV7 := Aside0.mk hR7; clear hR7 hb7; show K (Act.put _ (some 9) v7) w7) | (refine Kd.R_lit_step k38 _ 38 ?hg (N := 6) ?hd (xs := ([] : List S38)) (inner := []) (ok := fun _ => True) (okp := fun _ => True) ?hr ?hp (fun _ hk => hk) trivial (Below.refl _ _) (Nat.le_refl _) (by simp) ?_; (case hd => rfl); (case hg => rfl); (case hr => first | (go_simp; done) | (go_simp; rfl)); (case hp => exact Reps.none _ _); intro v6 w6 hR6 hb6 hg6 hn6; clear hg6 hn6; have HV := Aside0.mk (Kd.R_lower hR6 (base' := w0.heap.size) (Nat.le_refl _)); clear hR6; have HB6 : Below w0.heap.size w0 w6 := below_step (by first | exact Below.refl _ _ | exact Below.drew (Below.refl _ _) | assumption) hb6; clear hb6; show K (Act.put _ (some 6) v6) w6) | go_simp
  refine hK.out _ _ (by ((try dsimp only); first | exact KP.out _ (by assumption) | exact KP.out _ (Below.drew (Below.refl _ _)) | exact KP.out _ (below_alloc (by assumption) _) | exact KP.out _ (below_alloc (Below.refl _ _) _) | exact KP.out _ (below_alloc (below_alloc (Below.refl _ _) _) _))) (fun hHeld => ?_)
  clear hK K
  (try simp only [Act.put, List.getElem_toArray, List.getElem_cons_zero, List.getElem_cons_succ, List.setIfInBounds_toArray, List.set_cons_zero, List.set_cons_succ])
  refine wpAnyH_ready (rs := [3]) (by kernel_rfl) (by simp) ?_
  refine AllReadyH.cons (o := _) rfl (fun K hK => ?_) AllReadyH.nil
  first | (refine Kd.R_append_rows_step k38 (w0 := w0) w0.heap.size (by rfl) (.tmp 9) (.tmp 11) 23 38 (.agg #[(.int .i64 0), (.int .i64 0)]) 16 rfl Try.underlying23 info38 rfl (by decide) (by omega) v7 ([] ++ l0_0) l0_1 _ _ _ (fun _ => True) (fun _ => False) rfl rfl ?aO ?aR (fun _ _ h => h) (fun _ h => h.elim) (fun _ _ => trivial) ?aB ?aS ?aL ?_; (case aR => exact Kd.C_below HR1.out (below_step hb0_.out HB7)); (case aO => exact HV7.out); (case aB => exact HB7); (case aS => exact HB7.size); (case aL => simp; omega); intro v8 w8 hR8 hb8 hg8 ha8; clear hg8 ha8; have HB8 : Below w0.heap.size w0 w8 := hb8; have HV8 := Aside0.mk hR8; clear hR8 hb8; show K (Act.put _ (some 12) v8) w8) | (refine Kd.R_append_rows_step k38 (w0 := w0) w0.heap.size (by rfl) (.tmp 6) (.tmp 8) 23 38 (.agg #[(.int .i64 0), (.int .i64 0)]) 16 rfl Try.underlying23 info38 rfl (by decide) (by omega) v6 ([] : List S38) l0_0 _ _ _ (fun _ => True) (fun _ => False) rfl rfl ?aO ?aR (fun _ _ h => h) (fun _ h => h.elim) (fun _ _ => trivial) ?aB ?aS ?aL ?_; (case aR => exact Kd.C_below HR0.out (below_step hb0_.out HB6)); (case aO => exact HV.out); (case aB => exact HB6); (case aS => exact HB6.size); (case aL => simp; omega); intro v7 w7 hR7 hb7 hg7 ha7; clear hg7 ha7; have HB7 : Below w0.heap.size w0 w7 := hb7; have HV7 := Aside0.mk hR7; clear hR7 hb7; show K (Act.put _ (some 9) v7) w7) | (refine Kd.R_lit_step k38 _ 38 ?hg (N := 6) ?hd (xs := ([] : List S38)) (inner := []) (ok := fun _ => True) (okp := fun _ => True) ?hr ?hp (fun _ hk => hk) trivial (Below.refl _ _) (Nat.le_refl _) (by simp) ?_; (case hd => rfl); (case hg => rfl); (case hr => first | (go_simp; done) | (go_simp; rfl)); (case hp => exact Reps.none _ _); intro v6 w6 hR6 hb6 hg6 hn6; clear hg6 hn6; have HV := Aside0.mk (Kd.R_lower hR6 (base' := w0.heap.size) (Nat.le_refl _)); clear hR6; have HB6 : Below w0.heap.size w0 w6 := below_step (by first | exact Below.refl _ _ | exact Below.drew (Below.refl _ _) | assumption) hb6; clear hb6; show K (Act.put _ (some 6) v6) w6) | go_simp
  refine hK.out _ _ (by ((try dsimp only); first | exact KP.out _ (by assumption) | exact KP.out _ (Below.drew (Below.refl _ _)) | exact KP.out _ (below_alloc (by assumption) _) | exact KP.out _ (below_alloc (Below.refl _ _) _) | exact KP.out _ (below_alloc (below_alloc (Below.refl _ _) _) _))) (fun hHeld => ?_)
  clear hK K
  (try simp only [Act.put, List.getElem_toArray, List.getElem_cons_zero, List.getElem_cons_succ, List.setIfInBounds_toArray, List.set_cons_zero, List.set_cons_succ])
  refine wpAnyH_ready (rs := [6]) (by kernel_rfl) (by simp) ?_
  refine AllReadyH.cons (o := _) rfl (fun K hK => ?_) AllReadyH.nil
  first | (refine Kd.R_append_rows_step k38 (w0 := w0) w0.heap.size (by rfl) (.tmp 9) (.tmp 11) 23 38 (.agg #[(.int .i64 0), (.int .i64 0)]) 16 rfl Try.underlying23 info38 rfl (by decide) (by omega) v7 ([] ++ l0_0) l0_1 _ _ _ (fun _ => True) (fun _ => False) rfl rfl ?aO ?aR (fun _ _ h => h) (fun _ h => h.elim) (fun _ _ => trivial) ?aB ?aS ?aL ?_; (case aR => exact Kd.C_below HR1.out (below_step hb0_.out HB7)); (case aO => exact HV7.out); (case aB => exact HB7); (case aS => exact HB7.size); (case aL => simp; omega); intro v8 w8 hR8 hb8 hg8 ha8; clear hg8 ha8; have HB8 : Below w0.heap.size w0 w8 := hb8; have HV8 := Aside0.mk hR8; clear hR8 hb8; show K (Act.put _ (some 12) v8) w8) | (refine Kd.R_append_rows_step k38 (w0 := w0) w0.heap.size (by rfl) (.tmp 6) (.tmp 8) 23 38 (.agg #[(.int .i64 0), (.int .i64 0)]) 16 rfl Try.underlying23 info38 rfl (by decide) (by omega) v6 ([] : List S38) l0_0 _ _ _ (fun _ => True) (fun _ => False) rfl rfl ?aO ?aR (fun _ _ h => h) (fun _ h => h.elim) (fun _ _ => trivial) ?aB ?aS ?aL ?_; (case aR => exact Kd.C_below HR0.out (below_step hb0_.out HB6)); (case aO => exact HV.out); (case aB => exact HB6); (case aS => exact HB6.size); (case aL => simp; omega); intro v7 w7 hR7 hb7 hg7 ha7; clear hg7 ha7; have HB7 : Below w0.heap.size w0 w7 := hb7; have HV7 := Aside0.mk hR7; clear hR7 hb7; show K (Act.put _ (some 9) v7) w7) | (refine Kd.R_lit_step k38 _ 38 ?hg (N := 6) ?hd (xs := ([] : List S38)) (inner := []) (ok := fun _ => True) (okp := fun _ => True) ?hr ?hp (fun _ hk => hk) trivial (Below.refl _ _) (Nat.le_refl _) (by simp) ?_; (case hd => rfl); (case hg => rfl); (case hr => first | (go_simp; done) | (go_simp; rfl)); (case hp => exact Reps.none _ _); intro v6 w6 hR6 hb6 hg6 hn6; clear hg6 hn6; have HV := Aside0.mk (Kd.R_lower hR6 (base' := w0.heap.size) (Nat.le_refl _)); clear hR6; have HB6 : Below w0.heap.size w0 w6 := below_step (by first | exact Below.refl _ _ | exact Below.drew (Below.refl _ _) | assumption) hb6; clear hb6; show K (Act.put _ (some 6) v6) w6) | go_simp
  refine hK.out _ _ (by ((try dsimp only); first | exact KP.out _ (by assumption) | exact KP.out _ (Below.drew (Below.refl _ _)) | exact KP.out _ (below_alloc (by assumption) _) | exact KP.out _ (below_alloc (Below.refl _ _) _) | exact KP.out _ (below_alloc (below_alloc (Below.refl _ _) _) _))) (fun hHeld => ?_)
  clear hK K
  (try simp only [Act.put, List.getElem_toArray, List.getElem_cons_zero, List.getElem_cons_succ, List.setIfInBounds_toArray, List.set_cons_zero, List.set_cons_succ])
  refine wpAnyH_ready (rs := [7]) (by kernel_rfl) (by simp) ?_
  refine AllReadyH.cons (o := _) rfl (fun K hK => ?_) AllReadyH.nil
  first | (refine Kd.R_append_rows_step k38 (w0 := w0) w0.heap.size (by rfl) (.tmp 9) (.tmp 11) 23 38 (.agg #[(.int .i64 0), (.int .i64 0)]) 16 rfl Try.underlying23 info38 rfl (by decide) (by omega) v7 ([] ++ l0_0) l0_1 _ _ _ (fun _ => True) (fun _ => False) rfl rfl ?aO ?aR (fun _ _ h => h) (fun _ h => h.elim) (fun _ _ => trivial) ?aB ?aS ?aL ?_; (case aR => exact Kd.C_below HR1.out (below_step hb0_.out HB7)); (case aO => exact HV7.out); (case aB => exact HB7); (case aS => exact HB7.size); (case aL => simp; omega); intro v8 w8 hR8 hb8 hg8 ha8; clear hg8 ha8; have HB8 : Below w0.heap.size w0 w8 := hb8; have HV8 := Aside0.mk hR8; clear hR8 hb8; show K (Act.put _ (some 12) v8) w8) | (refine Kd.R_append_rows_step k38 (w0 := w0) w0.heap.size (by rfl) (.tmp 6) (.tmp 8) 23 38 (.agg #[(.int .i64 0), (.int .i64 0)]) 16 rfl Try.underlying23 info38 rfl (by decide) (by omega) v6 ([] : List S38) l0_0 _ _ _ (fun _ => True) (fun _ => False) rfl rfl ?aO ?aR (fun _ _ h => h) (fun _ h => h.elim) (fun _ _ => trivial) ?aB ?aS ?aL ?_; (case aR => exact Kd.C_below HR0.out (below_step hb0_.out HB6)); (case aO => exact HV.out); (case aB => exact HB6); (case aS => exact HB6.size); (case aL => simp; omega); intro v7 w7 hR7 hb7 hg7 ha7; clear hg7 ha7; have HB7 : Below w0.heap.size w0 w7 := hb7; have HV7 := Aside0.mk hR7; clear hR7 hb7; show K (Act.put _ (some 9) v7) w7) | (refine Kd.R_lit_step k38 _ 38 ?hg (N := 6) ?hd (xs := ([] : List S38)) (inner := []) (ok := fun _ => True) (okp := fun _ => True) ?hr ?hp (fun _ hk => hk) trivial (Below.refl _ _) (Nat.le_refl _) (by simp) ?_; (case hd => rfl); (case hg => rfl); (case hr => first | (go_simp; done) | (go_simp; rfl)); (case hp => exact Reps.none _ _); intro v6 w6 hR6 hb6 hg6 hn6; clear hg6 hn6; have HV := Aside0.mk (Kd.R_lower hR6 (base' := w0.heap.size) (Nat.le_refl _)); clear hR6; have HB6 : Below w0.heap.size w0 w6 := below_step (by first | exact Below.refl _ _ | exact Below.drew (Below.refl _ _) | assumption) hb6; clear hb6; show K (Act.put _ (some 6) v6) w6) | go_simp
  refine hK.out _ _ (by ((try dsimp only); first | exact KP.out _ (by assumption) | exact KP.out _ (Below.drew (Below.refl _ _)) | exact KP.out _ (below_alloc (by assumption) _) | exact KP.out _ (below_alloc (Below.refl _ _) _) | exact KP.out _ (below_alloc (below_alloc (Below.refl _ _) _) _))) (fun hHeld => ?_)
  clear hK K
  (try simp only [Act.put, List.getElem_toArray, List.getElem_cons_zero, List.getElem_cons_succ, List.setIfInBounds_toArray, List.set_cons_zero, List.set_cons_succ])
  refine wpAnyH_done (by kernel_rfl) ?_ _
  refine NoPanic.normal ?_
  obtain ⟨A8, c8, rfl⟩ := Kd.R_slice HV8.out
  have hrd := Kd.R_reads' HV8.out
  have HC8 := Aside0.mk hrd.2.2
  have hc8 := hrd.2.1
  clear hrd
  obtain ⟨L, hL⟩ : ∃ L, [] ++ l0_0 ++ l0_1 = L := ⟨_, rfl⟩
  have HCL := Aside0.mk (by rw [← hL]; exact HC8.out : Kd.C k38 w8 A8 L.length L)
  have HHL := Aside0.mk (by rw [← hL]; exact HH.out : (if a1 < 0 then some (0, 0) else if a1 ≥ (L.length : Int) then some (0, 0) else if 0 ≤ a1 then if a1 < (L.length : Int) then some ((rd_T38 L a1).f0, (rd_T38 L a1).f1) else none else none) = some (r1, r2))
  rw [hL] at hc8 ⊢
  have hx0 := (blk_cell (blk_below HX1.out HB8) 0).trans rfl
  have hx1 := (blk_cell (blk_below HX1.out HB8) 1).trans rfl
  have hy0 := blk_frozen (blk_below HX1.out HB8) 0
  have hy1 := blk_frozen (blk_below HX1.out HB8) 1
  clear hL HC8 HH
  by_cases n0 : a1 < 0
  · have h := HHL.out
    rw [if_pos n0] at h
    injection h with h; injection h with h1 h2
    subst h1 h2
    go_wp2_with fail
    exact bodyPost_ret (v := .agg #[.int .i64 0, .int .i64 0]) (by simp [results, Try.results24, go_sem, *]) rfl ⟨rfl, (by repeat (first | exact below_step hb0_.out HB8 | refine Below.setCell ?_ (Nat.le_succ _) _))⟩
  by_cases n1 : (L.length : Int) ≤ a1
  · have h := HHL.out
    rw [if_neg n0, if_pos n1] at h
    injection h with h; injection h with h1 h2
    subst h1 h2
    go_wp2_with fail
    exact bodyPost_ret (v := .agg #[.int .i64 0, .int .i64 0]) (by simp [results, Try.results24, go_sem, *]) rfl ⟨rfl, (by repeat (first | exact below_step hb0_.out HB8 | refine Below.setCell ?_ (Nat.le_succ _) _))⟩
  obtain ⟨ad, e8, q0, q1⟩ := at_T38 HCL.out a1 (by omega) (by omega)
  subst e8
  have h := HHL.out
  rw [if_neg n0, if_neg (by omega), if_pos (by omega), if_pos (by omega)] at h
  injection h with h; injection h with h1 h2
  subst h1 h2
  have g0 : 0 ≤ a1 := by omega
  have g1 : a1 < (L.length : Int) := by omega
  clear n0 n1
  go_wp2_with fail
  exact bodyPost_ret (v := .agg #[.int .i64 (rd_T38 L a1).f0, .int .i64 (rd_T38 L a1).f1]) (by simp [results, Try.results24, go_sem, *]) rfl ⟨rfl, (by repeat (first | exact below_step hb0_.out HB8 | refine Below.setCell ?_ (Nat.le_succ _) _))⟩

/-! ### plimsollref08_gives: function 26 -/
def plimsollref08_gives.f (l0_0 : List (S38)) (l0_1 : List (S38)) (a0_2 : Int) (a0_3 : Int) (l0_4 : List (S44)) (a0_5 : Int) (a0_6 : Int) (l0_7 : List Int) : Option ((List (S38))) := if a0_2 = 5 then (some ([] : List (S38))) else (some (([(⟨a0_2, a0_3⟩ : S38)] : List (S38))))
set_option maxHeartbeats 8000000 in
set_option maxRecDepth 100000 in
theorem plimsollref08_gives.calls (A0_0 : Option Addr) (c0_0 : Nat) (l0_0 : List (S38)) (A0_1 : Option Addr) (c0_1 : Nat) (l0_1 : List (S38)) (a0_2 : Int) (a0_3 : Int) (A0_4 : Option Addr) (c0_4 : Nat) (l0_4 : List (S44)) (a0_5 : Int) (a0_6 : Int) (A0_7 : Option Addr) (c0_7 : Nat) (l0_7 : List Int) (r : List (S38)) (w : World) (hr0_0 : Kd.C k38 w A0_0 l0_0.length l0_0) (hc0_0 : l0_0.length ≤ c0_0) (hr0_1 : Kd.C k38 w A0_1 l0_1.length l0_1) (hc0_1 : l0_1.length ≤ c0_1) (hr0_4 : Kd.C k44 w A0_4 l0_4.length l0_4) (hc0_4 : l0_4.length ≤ c0_4) (hr0_7 : Kd.C (Kd.int .i64) w A0_7 l0_7.length l0_7) (hc0_7 : l0_7.length ≤ c0_7) (h : plimsollref08_gives.f l0_0 l0_1 a0_2 a0_3 l0_4 a0_5 a0_6 l0_7 = some r) :
    Calls Try.prog 26 #[.agg #[.slice A0_0 l0_0.length c0_0, .slice A0_1 l0_1.length c0_1, .int .i64 a0_2, .int .i64 a0_3, .slice A0_4 l0_4.length c0_4, .int .i64 a0_5, .int .i64 a0_6, .slice A0_7 l0_7.length c0_7]] w fun e w' => ∃ v0_ : Value, e = .returned (v0_) ∧ Kd.R k38 38 w' w.heap.size (fun _ => True) v0_ r ∧ Below w.heap.size w w' := by
  have hu41 := Try.underlying41
  have hu38 := Try.underlying38
  have HR0_0 := Aside0.mk hr0_0
  have HC0_0 := Aside0.mk hc0_0
  clear hr0_0 hc0_0
  have HR0_1 := Aside0.mk hr0_1
  have HC0_1 := Aside0.mk hc0_1
  clear hr0_1 hc0_1
  have HR0_4 := Aside0.mk hr0_4
  have HC0_4 := Aside0.mk hc0_4
  clear hr0_4 hc0_4
  have HR0_7 := Aside0.mk hr0_7
  have HC0_7 := Aside0.mk hc0_7
  clear hr0_7 hc0_7
  have HB := Aside0.mk (Below.refl w.heap.size w)
  have H : (if a0_2 = 5 then (some ([] : List (S38))) else (some (([(⟨a0_2, a0_3⟩ : S38)] : List (S38))))) = some r := h
  clear h
  by_cases c2 : a0_2 = 5
  · rw [if_pos c2] at H
    have c2b0 : (a0_2 == 5) = true := beq_iff_eq.mpr c2
    have c2b1 : (a0_2 != 5) = false := bne_eq_false_iff_eq.mpr c2
    clear c2
    obtain rfl := Option.some.inj H
    go_enter Try.func26, Try.ntmps26
    go_wp2_with (first | ((with_reducible refine gate_dst (N := 1) rfl ?_); refine box_event ?hg (N := 1) ?hd (cs := #[.slice A0_0 l0_0.length c0_0, .slice A0_1 l0_1.length c0_1, .int .i64 a0_2, .int .i64 a0_3, .slice A0_4 l0_4.length c0_4, .int .i64 a0_5, .int .i64 a0_6, .slice A0_7 l0_7.length c0_7]) (t := 41) ?hr ?_; (case hd => rfl); (case hg => rfl); (case hr => first | (go_simp; done) | (go_simp; rfl)); intro gb290 hg w3 hbox hb; have n0_ := Aside0.mk (below_step (by repeat (first | (with_reducible first | exact HB.out | apply below_alloc | apply pw_below_drewN | apply below_drew1) | exact HB.out)) hb); have n1_ := Aside0.mk (hbox); have n2_ := Aside0.mk ((by rw [hg]; exact (below_size (by repeat (first | (with_reducible first | exact HB.out | apply below_alloc | apply pw_below_drewN | apply below_drew1) | exact HB.out))) : w.heap.size ≤ gb290)); have n3_ := Aside0.mk ((by rw [hg]; exact (below_size (by repeat (first | (with_reducible first | exact HB.out | apply below_alloc | apply pw_below_drewN | apply below_drew1) | exact HB.out))) : w.heap.size ≤ gb290)); clear HB; have HB := n0_; have BK290 := n1_; have GW290 := n2_; have GE290 := n3_; clear n0_ n1_ n2_ n3_; clear hb hbox hg; have hcz4_0 : w3.cell? ⟨gb290, 0, none⟩ = some (.slice A0_0 l0_0.length c0_0) := (blk_cell BK290.out 0).trans rfl; have hcz4_1 : w3.cell? ⟨gb290, 1, none⟩ = some (.slice A0_1 l0_1.length c0_1) := (blk_cell BK290.out 1).trans rfl; have hcz4_2 : w3.cell? ⟨gb290, 2, none⟩ = some (.int .i64 a0_2) := (blk_cell BK290.out 2).trans rfl; have hcz4_3 : w3.cell? ⟨gb290, 3, none⟩ = some (.int .i64 a0_3) := (blk_cell BK290.out 3).trans rfl; have hcz4_4 : w3.cell? ⟨gb290, 4, none⟩ = some (.slice A0_4 l0_4.length c0_4) := (blk_cell BK290.out 4).trans rfl; have hcz4_5 : w3.cell? ⟨gb290, 5, none⟩ = some (.int .i64 a0_5) := (blk_cell BK290.out 5).trans rfl; have hcz4_6 : w3.cell? ⟨gb290, 6, none⟩ = some (.int .i64 a0_6) := (blk_cell BK290.out 6).trans rfl; have hcz4_7 : w3.cell? ⟨gb290, 7, none⟩ = some (.slice A0_7 l0_7.length c0_7) := (blk_cell BK290.out 7).trans rfl; have hfz4_0 := blk_frozen BK290.out 0; have hfz4_1 := blk_frozen BK290.out 1; have hfz4_2 := blk_frozen BK290.out 2; have hfz4_3 := blk_frozen BK290.out 3; have hfz4_4 := blk_frozen BK290.out 4; have hfz4_5 := blk_frozen BK290.out 5; have hfz4_6 := blk_frozen BK290.out 6; have hfz4_7 := blk_frozen BK290.out 7))
    go_ret
    exact ⟨_, by first | rfl | (simp [errW_none, errW_some] <;> rfl) | (simp [*, errW_none, errW_some] <;> rfl), by first | exact Kd.R_nil _ _ _ _ _ | exact Kd.N_nil _ _ _ _ _ | exact Kd.V_nil _ _ _ _ _ | exact Kd.Q_nil _ _ _ _ _ | exact Kd.S_nil _ _ _ _ _, by repeat (first | (with_reducible first | exact HB.out | apply below_alloc | apply pw_below_drewN | apply below_drew1 | refine below_set ?_ GE290.out) | exact HB.out)⟩
  · rw [if_neg c2] at H
    have c2b0 : (a0_2 == 5) = false := beq_eq_false_iff_ne.mpr c2
    have c2b1 : (a0_2 != 5) = true := bne_iff_ne.mpr c2
    obtain ⟨y291, hy291⟩ : ∃ y_ : List (S38), y_ = (([(⟨a0_2, a0_3⟩ : S38)] : List (S38))) := ⟨_, rfl⟩
    replace H : (some y291) = some r := by first | (rw [hy291]; with_reducible exact H) | (have H2_ := (Option.bind_some _ _).symm.trans H; rw [hy291]; with_reducible exact H2_) | (have H2_ := (Option.bind_some _ _).symm.trans H; with_reducible exact H2_) | with_reducible exact H | (rw [hy291]; exact H) | exact H
    have Ny291 := Aside0.mk hy291
    clear hy291
    obtain rfl := Option.some.inj H
    go_enter Try.func26, Try.ntmps26
    go_wp2_with (first | ((with_reducible refine gate_dst (N := 1) rfl ?_); refine box_event ?hg (N := 1) ?hd (cs := #[.slice A0_0 l0_0.length c0_0, .slice A0_1 l0_1.length c0_1, .int .i64 a0_2, .int .i64 a0_3, .slice A0_4 l0_4.length c0_4, .int .i64 a0_5, .int .i64 a0_6, .slice A0_7 l0_7.length c0_7]) (t := 41) ?hr ?_; (case hd => rfl); (case hg => rfl); (case hr => first | (go_simp; done) | (go_simp; rfl)); intro gb290 hg w5 hbox hb; have n0_ := Aside0.mk (below_step (by repeat (first | (with_reducible first | exact HB.out | apply below_alloc | apply pw_below_drewN | apply below_drew1) | exact HB.out)) hb); have n1_ := Aside0.mk (hbox); have n2_ := Aside0.mk ((by rw [hg]; exact (below_size (by repeat (first | (with_reducible first | exact HB.out | apply below_alloc | apply pw_below_drewN | apply below_drew1) | exact HB.out))) : w.heap.size ≤ gb290)); have n3_ := Aside0.mk ((by rw [hg]; exact (below_size (by repeat (first | (with_reducible first | exact HB.out | apply below_alloc | apply pw_below_drewN | apply below_drew1) | exact HB.out))) : w.heap.size ≤ gb290)); clear HB; have HB := n0_; have BK290 := n1_; have GW290 := n2_; have GE290 := n3_; clear n0_ n1_ n2_ n3_; clear hb hbox hg; have hcz6_0 : w5.cell? ⟨gb290, 0, none⟩ = some (.slice A0_0 l0_0.length c0_0) := (blk_cell BK290.out 0).trans rfl; have hcz6_1 : w5.cell? ⟨gb290, 1, none⟩ = some (.slice A0_1 l0_1.length c0_1) := (blk_cell BK290.out 1).trans rfl; have hcz6_2 : w5.cell? ⟨gb290, 2, none⟩ = some (.int .i64 a0_2) := (blk_cell BK290.out 2).trans rfl; have hcz6_3 : w5.cell? ⟨gb290, 3, none⟩ = some (.int .i64 a0_3) := (blk_cell BK290.out 3).trans rfl; have hcz6_4 : w5.cell? ⟨gb290, 4, none⟩ = some (.slice A0_4 l0_4.length c0_4) := (blk_cell BK290.out 4).trans rfl; have hcz6_5 : w5.cell? ⟨gb290, 5, none⟩ = some (.int .i64 a0_5) := (blk_cell BK290.out 5).trans rfl; have hcz6_6 : w5.cell? ⟨gb290, 6, none⟩ = some (.int .i64 a0_6) := (blk_cell BK290.out 6).trans rfl; have hcz6_7 : w5.cell? ⟨gb290, 7, none⟩ = some (.slice A0_7 l0_7.length c0_7) := (blk_cell BK290.out 7).trans rfl; have hfz6_0 := blk_frozen BK290.out 0; have hfz6_1 := blk_frozen BK290.out 1; have hfz6_2 := blk_frozen BK290.out 2; have hfz6_3 := blk_frozen BK290.out 3; have hfz6_4 := blk_frozen BK290.out 4; have hfz6_5 := blk_frozen BK290.out 5; have hfz6_6 := blk_frozen BK290.out 6; have hfz6_7 := blk_frozen BK290.out 7) | ((with_reducible refine gate_dst (N := 9) rfl ?_); refine Kd.R_lit k38 _ 38 ?hg (N := 9) ?hd (xs := ([(⟨a0_2, a0_3⟩ : S38)] : List (S38))) (inner := [.int .i64 a0_2, .int .i64 a0_3]) (ok := fun _ => True) (okp := fun _ => True) ?hr ?hp (fun _ hk => hk) trivial (Below.refl _ _) (Nat.le_refl _) (by simp) ?_; (case hd => rfl); (case hg => rfl); (case hr => first | (go_simp; done) | (go_simp; rfl)); (case hp => exact (Reps.c2 (show Kd.M k38 _ _ _ (⟨a0_2, a0_3⟩ : S38) [.int .i64 a0_2, .int .i64 a0_3] from (k38_mkM _ _ _ (⟨a0_2, a0_3⟩ : S38) )) (Reps.none _ _))); intro v292 w7 ho8 hb hg_ hnew_; clear hg_ hnew_; (first | rw [← Ny291.out] at ho8 | (simp only [Int.reduceToNat] at ho8; rw [← Ny291.out] at ho8)); have n0_ := Aside0.mk (Kd.R_lower ho8 (below_size (by repeat (first | (with_reducible first | exact HB.out | apply below_alloc | apply pw_below_drewN | apply below_drew1 | refine below_set ?_ GE290.out) | exact HB.out)))); have n1_ := Aside0.mk (blk_below (g := gb290) (o := .cells #[.slice A0_0 l0_0.length c0_0, .slice A0_1 l0_1.length c0_1, .int .i64 a0_2, .int .i64 a0_3, .slice A0_4 l0_4.length c0_4, .int .i64 a0_5, .int .i64 a0_6, .slice A0_7 l0_7.length c0_7] 41 (0, 0)) (by (with_reducible repeat (first | refine blk_drewN ?_ _ | refine blk_drew ?_ | refine blk_alloc ?_ _)); exact BK290.out) hb); have n2_ := Aside0.mk (below_step (by repeat (first | (with_reducible first | exact HB.out | apply below_alloc | apply pw_below_drewN | apply below_drew1 | refine below_set ?_ GE290.out) | exact HB.out)) hb); clear BK290; clear HB; have HO293 := n0_; have BK290 := n1_; have HB := n2_; clear n0_ n1_ n2_; clear hb ho8))
    go_ret
    exact ⟨_, by first | rfl | (simp [errW_none, errW_some] <;> rfl) | (simp [*, errW_none, errW_some] <;> rfl), by (with_reducible repeat (first | apply Kd.R_alloc | apply Kd.R_drewN | apply Kd.R_drew)); exact HO293.out, by repeat (first | (with_reducible first | exact HB.out | apply below_alloc | apply pw_below_drewN | apply below_drew1 | refine below_set ?_ GE290.out) | exact HB.out)⟩

-- NOT PRINTED: function 14 (plimsollref08_Rule)

-- NOT PRINTED: function 10 (plimsollref08_Step)

-- NOT PRINTED: function 3 (plimsolllaw08_FlowSteps)

end Go.Proofs.Ytoiahldbahdaoaa.QFlowSteps
