/- MemSizes returns true, whatever the numbers. -/
import Derived.Test.YtgpekomaoeockaaMemH2
namespace Go.Proofs.Ytgpekomaoeockaa.MemC
open Go.RowKit Go.Proofs.YtgpekomaoeockaaW.PrintWords Go.Proofs.YtgpekomaoeockaaW.PrintLast Go.Proofs.YtgpekomaoeockaaW.PrintMore Go.Proofs.Ytgpekomaoeockaa.QMemSizes
set_option maxHeartbeats 8000000 in
set_option maxRecDepth 100000 in
theorem MemSizes.walk (s h : Int) (w : World) :
    Calls Try.prog 4 #[.int .i64 s, .int .i64 h] w fun e w' => e = .returned (.bool true) ∧ Below w.heap.size w w' := by
  have HAW := Aside0.mk awake.calls
  have HNEW := Aside0.mk (MS.new s h)
  have hk : ∀ x : Int, ((x < 0 ∧ clamp x = 0) ∨ (0 ≤ x ∧ x ≤ 65536 ∧ x = (clamp x : Int)) ∨ (65536 < x ∧ clamp x = 65536)) ∧ clamp x ≤ 65536 := fun x => by unfold clamp mx mn; omega
  obtain ⟨k1, l1⟩ := hk s
  obtain ⟨k2, l2⟩ := hk h
  have HK1 := Aside0.mk k1
  have HK2 := Aside0.mk k2
  clear hk k1 k2
  generalize clamp s = c1 at *
  generalize clamp h = c2 at *
  go_enter Try.func4, Try.ntmps4
  go_wp2_with fail
  refine (HNEW.out _).mono ?_
  rintro e w1 ⟨p, sb, hb, rfl, hm, hbl⟩
  try refine ⟨_, rfl, ?_⟩
  have M1 := Aside0.mk hm
  have B1 := Aside0.mk hbl
  clear hm hbl
  rcases HK1.out with ⟨q1, rfl⟩ | ⟨q1, q2, rfl⟩ | ⟨q1, rfl⟩ <;> rcases HK2.out with ⟨p1, rfl⟩ | ⟨p1, p2, rfl⟩ | ⟨p1, rfl⟩
  all_goals clear HK1 HK2
  all_goals
    first
    | have d1 : decide (s < 0) = true := decide_eq_true q1
    | (have d1 : decide (s < 0) = false := decide_eq_false (by omega)
       first
       | (have d2 : decide (s > 65536) = true := decide_eq_true q1
          have d3 : decide (65536 < s) = true := decide_eq_true q1)
       | (have d2 : decide (s > 65536) = false := decide_eq_false (by omega)
          have d3 : decide (65536 < s) = false := decide_eq_false (by omega)))
    | (have d1 : decide ((c1 : Int) < 0) = false := decide_eq_false (by omega)
       have d2 : decide ((c1 : Int) > 65536) = false := decide_eq_false (by omega)
       have d3 : decide (65536 < (c1 : Int)) = false := decide_eq_false (by omega))
  all_goals
    first
    | have f1 : decide (h < 0) = true := decide_eq_true p1
    | (have f1 : decide (h < 0) = false := decide_eq_false (by omega)
       first
       | (have f2 : decide (h > 65536) = true := decide_eq_true p1
          have f3 : decide (65536 < h) = true := decide_eq_true p1)
       | (have f2 : decide (h > 65536) = false := decide_eq_false (by omega)
          have f3 : decide (65536 < h) = false := decide_eq_false (by omega)))
    | (have f1 : decide ((c2 : Int) < 0) = false := decide_eq_false (by omega)
       have f2 : decide ((c2 : Int) > 65536) = false := decide_eq_false (by omega)
       have f3 : decide (65536 < (c2 : Int)) = false := decide_eq_false (by omega))
  all_goals
    go_wp2_with fail
    refine (HAW.out _).mono ?_
    rintro e w3 ⟨rfl, hb⟩
    have M3 := Aside0.mk (M1.out.below hb)
    have B3 := Aside0.mk (below_step B1.out hb)
    clear hb
    go_wp2_with fail
    refine (M3.out.stack).mono ?_
    rintro e w4 ⟨rfl, hb⟩
    have M4 := Aside0.mk (M3.out.below hb)
    have B4 := Aside0.mk (below_step B3.out hb)
    clear hb
    rw [List.length_replicate]
    go_wp2_with fail
    refine (M4.out.room (by decide)).mono ?_
    rintro e w5 ⟨rfl, hb⟩
    have M5 := Aside0.mk (M4.out.below hb)
    have B5 := Aside0.mk (below_step B4.out hb)
    clear hb
    have ht : ((tot [] : Nat) : Int) = 0 := rfl
    rw [ht]
    go_wp2_with fail
    refine (M5.out.used (by decide)).mono ?_
    rintro e w6 ⟨rfl, hb⟩
    have B6 := Aside0.mk (below_step B5.out hb)
    clear hb
    go_wp2
    go_ret
    exact ⟨rfl, B6.out⟩
end Go.Proofs.Ytgpekomaoeockaa.MemC
