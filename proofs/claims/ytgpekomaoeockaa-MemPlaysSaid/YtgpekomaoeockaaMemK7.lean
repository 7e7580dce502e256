/- Part of the proofs about package mem. -/
import Derived.Test.YtgpekomaoeockaaMemK6
namespace Go.Proofs.Ytgpekomaoeockaa.MemC
open Go.RowKit Go.Proofs.YtgpekomaoeockaaW.PrintWords Go.Proofs.YtgpekomaoeockaaW.PrintLast Go.Proofs.YtgpekomaoeockaaW.PrintMore Go.Proofs.Ytgpekomaoeockaa.QMemSizes
set_option linter.unusedVariables false
set_option maxHeartbeats 16000000 in
set_option maxRecDepth 100000 in
theorem MemPlays.big (s h : Int) (v : Value) (w : World) (hb : 3000 < h ∨ 3000 < s) :
    Calls Try.prog 3 #[.int .i64 s, .int .i64 h, v] w fun e w' => e = .returned (.bool true) ∧ Below w.heap.size w w' := by
  have HAW := Aside0.mk awake.calls
  have hc : Aside0 ((decide (3000 < h) = true) ∨ (decide (3000 < h) = false ∧ decide (3000 < s) = true)) := ⟨by
    by_cases h1 : 3000 < h
    · exact .inl (decide_eq_true h1)
    · exact .inr ⟨decide_eq_false (by omega), decide_eq_true (by omega)⟩⟩
  clear hb
  rcases hc.out with d1 | ⟨d1, d2⟩
  all_goals
    clear hc
    go_enter Try.func3, Try.ntmps3
    go_wp2_with fail
    refine (HAW.out _).mono ?_
    rintro e w3 ⟨rfl, hb3⟩
    have HB3 := Aside0.mk hb3
    clear hb3
    go_wp2
    go_ret
    exact ⟨rfl, HB3.out⟩
set_option maxHeartbeats 16000000 in
set_option maxRecDepth 100000 in
theorem MemPlays.walk (s h : Int) (A0 : Option Addr) (c0 : Nat) (acts : List S50) (w : World) (hr0 : Kd.C k50 w A0 acts.length acts) (hl0 : acts.length * 24 ≤ 140737488351232) (hs : s ≤ 3000) (hh : h ≤ 3000) :
    Calls Try.prog 3 #[.int .i64 s, .int .i64 h, .slice A0 acts.length c0] w fun e w' => e = .returned (.bool true) ∧ Below w.heap.size w w' := by
  have HR := Aside0.mk hr0
  have HAW := Aside0.mk awake.calls
  have HNEW := Aside0.mk (MS.new s h)
  have hk : ∀ x : Int, x ≤ 3000 → ((x < 0 ∧ clamp x = 0) ∨ (0 ≤ x ∧ x = (clamp x : Int))) ∧ clamp x ≤ 3000 := fun x hx => by unfold clamp mx mn; omega
  obtain ⟨k1, l1⟩ := hk s hs
  obtain ⟨k2, l2⟩ := hk h hh
  have HK1 := Aside0.mk k1
  have HK2 := Aside0.mk k2
  have d1 : decide (3000 < h) = false := decide_eq_false (by omega)
  have d2 : decide (3000 < s) = false := decide_eq_false (by omega)
  clear hk k1 k2 hr0
  generalize clamp s = c1 at *
  generalize clamp h = c2 at *
  go_enter Try.func3, Try.ntmps3
  go_wp2_with fail
  refine (HNEW.out _).mono ?_
  rintro e w1 ⟨p, sb, hb, rfl, hm, hbl⟩
  try refine ⟨_, rfl, ?_⟩
  have M1 := Aside0.mk hm
  have B1 := Aside0.mk hbl
  clear hm hbl HNEW
  have HA1 := Aside0.mk (World.ownsRow_lit (base := w.heap.size) (e := 31) (size := 2) w1 #[] 0 B1.out.size (by simp [maxLen]) rfl)
  have HM1 := Aside0.mk (M1.out.below (below_alloc (Below.refl _ _) (.cells #[] 31 (0, 0))))
  have HB1 := Aside0.mk (below_step B1.out (below_alloc (Below.refl _ _) (.cells #[] 31 (0, 0))))
  have L1 : Aside0 (PL w (w1.alloc (.cells #[] 31 (0, 0))) w.heap.size p sb hb (List.replicate c1 0) c2 [] (.slice none 0 0) (.slice (some ⟨w1.heap.size, 0, none⟩) 0 0)) := ⟨⟨HM1.out, ⟨HA1.out, fun j h => absurd h (by simp), fun i j h => absurd h (by simp)⟩, fun j h => absurd h (by simp), fun i j h => absurd h (by simp), fun j h => absurd h (by simp), HB1.out, rfl, by simp⟩⟩
  clear HA1 HM1 HB1 M1 B1
  rcases HK2.out with ⟨p1, p2⟩ | ⟨p1, p2⟩ <;> rcases HK1.out with ⟨p3, p4⟩ | ⟨p3, p4⟩
  all_goals clear HK1 HK2
  all_goals
    subst p2
    subst p4
    first
      | have e1 : decide (h < 0) = true := decide_eq_true p1
      | have e1 : decide ((c2 : Int) < 0) = false := decide_eq_false (by omega)
    first
      | have e2 : decide (s < 0) = true := decide_eq_true p3
      | have e2 : decide ((c1 : Int) < 0) = false := decide_eq_false (by omega)
    go_wp2_with fail
    refine MemPlays.loop _ _ A0 c0 _ _ p sb hb acts w _ _ HR.out hl0 l1 l2 ?_ _ _ _ _ _ _ _ _ _ _ _ _ _ _ _ _ _ _ _ _ _ _ _ _ _ _ _ _ _ _ _ _ _ _ _ _ _ _ _ _ _ _ _ _ _ _ _ _ _ _ _ _ _ _ _ _ _ _ _ _ _ _ _ _ _ _ _ _ _ _ _ _ _ _ _ _ _ _ _ _ _ _ _ _ _ _ _ _ _ _ _ _ _ _ _ _ _ _ _ _ _ _ _ _ _ _ _ _ _ _ _ _ _ _ _ _ _ _ _ _ _ _ _ _ _ _ _ _ _ _ _ _ _ _ _ _ _ _ _ _ _ _ _ _ _ _ _ _ _ _ _ _ _ _ _ _ _ _ _ _ _ _ _ _ _ _ _ _ _ _ _ _ _ _ _ _ _ _ _ _ _ _ _ _ _ _ _ _ _ _ _ _ _ _ _ _ _ _ _ _ _ _ _ _ _ _ _ _ _ _ _ _ _ _ _ _ _ _ 0 [] _ _ _ _ (by omega) (by simp) L1.out
    intros
    rename_i wx hB
    have HB3 := Aside0.mk hB
    clear hB
    go_wp2_with fail
    refine (HAW.out _).mono ?_
    rintro e w3 ⟨rfl, hb3⟩
    have HB4 := Aside0.mk (HB3.out.trans (hb3.mono HB3.out.size))
    clear hb3
    go_wp2
    go_ret
    exact ⟨rfl, HB4.out⟩
end Go.Proofs.Ytgpekomaoeockaa.MemC
