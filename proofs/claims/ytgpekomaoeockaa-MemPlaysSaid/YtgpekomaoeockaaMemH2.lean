/- The law's awake() returns true. -/
import Derived.Test.YtgpekomaoeockaaMemH1
namespace Go.Proofs.Ytgpekomaoeockaa.MemC
open Go.RowKit Go.Proofs.YtgpekomaoeockaaW.PrintWords Go.Proofs.YtgpekomaoeockaaW.PrintLast Go.Proofs.YtgpekomaoeockaaW.PrintMore Go.Proofs.Ytgpekomaoeockaa.QMemSizes
set_option linter.unusedVariables false
def r1 : List Reg := [(0, [0, 0, 0])]
def r2 : List Reg := [(0, [0, 0, 0]), (1, [0, 0, 0, 0, 0])]
def r3 : List Reg := [(0, [0, 0, 0]), (1, [7, 0, 0, 0, 0])]
def r4 : List Reg := [(1, [7, 0, 0, 0, 0])]
def st4 : List Int := [0, 0, 0, 0]
theorem free_nil (id : Int) : Free [] id := fun j h => absurd h (by simp)
theorem free_r1 : Free r1 ((1 : Nat) : Int) := fun j h => by
  obtain rfl : j = 0 := by have : r1.length = 1 := rfl; omega
  exact (by decide : (0 : Int) ≠ 1)
theorem used_r1 (j : Nat) (hj : j < 1) : ∃ m, At r1 (j : Int) m := by
  obtain rfl : j = 0 := by omega
  exact ⟨0, by decide, rfl, fun _ _ h => by omega⟩
section
variable {w : World} {base p sb hb : Nat} {lv : Value}
theorem aw1 (h : MS w base p sb hb st4 10 [] lv) : Calls Try.prog 9 #[.pointer (some ⟨p, 0, none⟩), .int .i64 3] w fun e w' => e = .returned (.tuple #[.int .i64 0, .bool true]) ∧ ∃ lv', MS w' base p sb hb st4 10 r1 lv' ∧ Below base w w' := by
  refine (h.give (by decide) 3 (by decide) 0 (by omega) (fun j hj => by omega) (free_nil _)).mono ?_
  rintro e w' ⟨rfl, lv', h1, h2, _⟩
  exact ⟨rfl, lv', h1, h2⟩
theorem aw2 (h : MS w base p sb hb st4 10 r1 lv) : Calls Try.prog 9 #[.pointer (some ⟨p, 0, none⟩), .int .i64 5] w fun e w' => e = .returned (.tuple #[.int .i64 1, .bool true]) ∧ ∃ lv', MS w' base p sb hb st4 10 r2 lv' ∧ Below base w w' := by
  refine (h.give (by decide) 5 (by decide) 1 (by omega) used_r1 free_r1).mono ?_
  rintro e w' ⟨rfl, lv', h1, h2, _⟩
  exact ⟨rfl, lv', h1, h2⟩
theorem at_r2 : At r2 1 1 := ⟨by decide, rfl, fun j h hj => by
  obtain rfl : j = 0 := by omega
  exact (by decide : (0 : Int) ≠ 1)⟩
theorem at_r3 : At r3 0 0 := ⟨by decide, rfl, fun j h hj => by omega⟩
theorem at_r4 : At r4 1 0 := ⟨by decide, rfl, fun j h hj => by omega⟩
theorem aw3 (h : MS w base p sb hb st4 10 r2 lv) : Calls Try.prog 11 #[.pointer (some ⟨p, 0, none⟩), .int .i64 1] w fun e w' => e = .returned (.slice (some ⟨hb, 3, none⟩) 5 5) ∧ Below w.heap.size w w' := by
  obtain ⟨h1, h2, h3⟩ := at_r2
  exact h.region (by decide) 1 1 h1 h2 h3
theorem aw4 (h : MS w base p sb hb st4 10 r2 lv) : MS (w.setCell ⟨hb, 3, none⟩ (.int .i32 7)) base p sb hb st4 10 r3 lv := h.write 1 (by decide) 0 (by decide) 7
theorem aw5 (h : MS w base p sb hb st4 10 r3 lv) : Calls Try.prog 10 #[.pointer (some ⟨p, 0, none⟩), .int .i64 0] w fun e w' => e = .returned (.bool true) ∧ ∃ lv', MS w' base p sb hb st4 10 r4 lv' ∧ Below base w w' := by
  obtain ⟨h1, h2, h3⟩ := at_r3
  refine (h.drop (by decide) 0 0 h1 h2 h3).mono ?_
  rintro e w' ⟨rfl, lv', g1, g2, _⟩
  exact ⟨rfl, lv', g1, g2⟩
theorem aw6 (h : MS w base p sb hb st4 10 r4 lv) : Calls Try.prog 16 #[.pointer (some ⟨p, 0, none⟩), .int .i64 1] w fun e w' => e = .returned (.tuple #[.int .i64 0, .bool true]) ∧ Below w.heap.size w w' := by
  obtain ⟨h1, h2, h3⟩ := at_r4
  exact h.place (by decide) 1 0 h1 h2 h3
theorem aw7 (h : MS w base p sb hb st4 10 r4 lv) : Calls Try.prog 9 #[.pointer (some ⟨p, 0, none⟩), .int .i64 6] w fun e w' => e = .returned (.tuple #[.int .i64 0, .bool false]) ∧ Below w.heap.size w w' :=
  h.give_over (by decide) 6 (by decide) (by decide)
theorem aw8 (h : MS w base p sb hb st4 10 r4 lv) : Calls Try.prog 11 #[.pointer (some ⟨p, 0, none⟩), .int .i64 1] w fun e w' => e = .returned (.slice (some ⟨hb, 0, none⟩) 5 5) ∧ Below w.heap.size w w' := by
  obtain ⟨h1, h2, h3⟩ := at_r4
  exact h.region (by decide) 1 0 h1 h2 h3
theorem aw9 (h : MS w base p sb hb st4 10 r4 lv) : w.cell? ⟨hb, 0, none⟩ = some (.int .i32 7) := h.read 0 (by decide) 0 (by decide)
theorem aw10 (h : MS w base p sb hb st4 10 r4 lv) : Calls Try.prog 15 #[.pointer (some ⟨p, 0, none⟩)] w fun e w' => e = .returned (.int .i64 5) ∧ Below w.heap.size w w' := h.used (by decide)
theorem aw11 (h : MS w base p sb hb st4 10 r4 lv) : Calls Try.prog 14 #[.pointer (some ⟨p, 0, none⟩)] w fun e w' => e = .returned (.int .i64 5) ∧ Below w.heap.size w w' := h.room (by decide)
theorem aw12 (h : MS w base p sb hb st4 10 r4 lv) : Calls Try.prog 13 #[.pointer (some ⟨p, 0, none⟩)] w fun e w' => e = .returned (.slice (some ⟨sb, 0, none⟩) 4 4) ∧ Below w.heap.size w w' := h.stack
end
theorem aw0 (w : World) : Calls Try.prog 8 #[.int .i64 4, .int .i64 10] w fun e w' => ∃ p sb hb, e = .returned (.pointer (some ⟨p, 0, none⟩)) ∧ MS w' w.heap.size p sb hb st4 10 [] (.slice none 0 0) ∧ Below w.heap.size w w' := MS.new 4 10 w
theorem aw13 (w : World) : Calls Try.prog 17 #[.slice (some ⟨w.heap.size, 0, none⟩) 1 1, .int .i64 3] (w.alloc (.cells #[.int .i64 3] 3 (0, 0))) fun e w' => e = .returned (.bool true) ∧ Below w.heap.size w w' := by
  have hc : (w.alloc (.cells #[.int .i64 3] 3 (0, 0))).heap[w.heap.size]? = some (.cells #[.int .i64 3] 3 (0, 0)) := heap_alloc_new w _
  refine (plimsollref01_In.calls 2 (some ⟨w.heap.size, 0, none⟩) 1 [3] 3 true _ ⟨rfl, by decide, fun _ => ⟨_, rfl, fun j p hj => ?_⟩⟩ (by decide) (by decide)).mono ?_
  · have hj0 : j = 0 := by have := (List.getElem?_eq_some_iff.1 hj).1; simpa using this
    subst hj0
    obtain rfl : (3 : Int) = p := by simpa using hj
    refine ⟨[.int .i64 3], rfl, rfl, fun i u hu => ?_⟩
    have hi0 : i = 0 := by have := (List.getElem?_eq_some_iff.1 hu).1; simpa using this
    subst hi0
    obtain rfl : Value.int .i64 3 = u := by simpa using hu
    exact (blk_cell hc 0).trans rfl
  · rintro e w' ⟨rfl, ⟨nd, rfl⟩⟩
    exact ⟨rfl, pw_below_drewN (below_alloc (Below.refl _ _) _) _⟩
set_option maxHeartbeats 8000000 in
set_option maxRecDepth 100000 in
theorem awake.calls (w : World) : Calls Try.prog 7 #[] w fun e w' => e = .returned (.bool true) ∧ Below w.heap.size w w' := by
  go_enter Try.func7, Try.ntmps7
  go_wp2_with fail
  refine (aw0 _).mono ?_
  rintro e w1 ⟨p, sb, hb, rfl, hm, hbl⟩
  try refine ⟨_, rfl, ?_⟩
  have M1 := Aside0.mk hm
  have B1 := Aside0.mk hbl
  clear hm hbl
  go_wp2_with fail
  refine (aw1 M1.out).mono ?_
  rintro e w2 ⟨rfl, lv2, hm, hbl⟩
  have M2 := Aside0.mk hm
  have B2 := Aside0.mk (B1.out.trans hbl)
  clear hm hbl
  go_wp2_with fail
  refine (aw2 M2.out).mono ?_
  rintro e w3 ⟨rfl, lv3, hm, hbl⟩
  have M3 := Aside0.mk hm
  have B3 := Aside0.mk (B2.out.trans hbl)
  clear hm hbl
  go_wp2_with fail
  refine (aw3 M3.out).mono ?_
  rintro e w4 ⟨rfl, hbl⟩
  have M4 := Aside0.mk (M3.out.below hbl)
  have B4 := Aside0.mk (below_step B3.out hbl)
  clear hbl
  go_wp2_with fail
  refine (aw3 M4.out).mono ?_
  rintro e w5 ⟨rfl, hbl⟩
  have M5 := Aside0.mk (M4.out.below hbl)
  have B5 := Aside0.mk (below_step B4.out hbl)
  clear hbl
  have hcz : w5.cell? ⟨hb, 3, none⟩ = some (.int .i32 0) := M5.out.read 1 (by decide) 0 (by decide)
  have hfz := M5.out.fr 3
  have M6 := Aside0.mk (aw4 M5.out)
  have B6 := Aside0.mk (B5.out.setCell M5.out.bh (p := ⟨hb, 3, none⟩) (.int .i32 7))
  go_wp2_with fail
  refine (aw5 M6.out).mono ?_
  rintro e w7 ⟨rfl, lv7, hm, hbl⟩
  have M7 := Aside0.mk hm
  have B7 := Aside0.mk (B6.out.trans hbl)
  clear hm hbl hcz hfz
  go_wp2_with fail
  refine (aw6 M7.out).mono ?_
  rintro e w8 ⟨rfl, hbl⟩
  have M8 := Aside0.mk (M7.out.below hbl)
  have B8 := Aside0.mk (below_step B7.out hbl)
  clear hbl
  go_wp2_with fail
  refine (aw7 M8.out).mono ?_
  rintro e w9 ⟨rfl, hbl⟩
  have M9 := Aside0.mk (M8.out.below hbl)
  have B9 := Aside0.mk (below_step B8.out hbl)
  clear hbl
  go_wp2_with fail
  refine (aw8 M9.out).mono ?_
  rintro e w10 ⟨rfl, hbl⟩
  have M10 := Aside0.mk (M9.out.below hbl)
  have B10 := Aside0.mk (below_step B9.out hbl)
  clear hbl
  go_wp2_with fail
  refine (aw8 M10.out).mono ?_
  rintro e w11 ⟨rfl, hbl⟩
  have M11 := Aside0.mk (M10.out.below hbl)
  have B11 := Aside0.mk (below_step B10.out hbl)
  clear hbl
  have hc9 := aw9 M11.out
  go_wp2_with fail
  refine (aw10 M11.out).mono ?_
  rintro e w12 ⟨rfl, hbl⟩
  have M12 := Aside0.mk (M11.out.below hbl)
  have B12 := Aside0.mk (below_step B11.out hbl)
  clear hbl hc9
  go_wp2_with fail
  refine (aw11 M12.out).mono ?_
  rintro e w13 ⟨rfl, hbl⟩
  have M13 := Aside0.mk (M12.out.below hbl)
  have B13 := Aside0.mk (below_step B12.out hbl)
  clear hbl
  go_wp2_with fail
  refine (aw12 M13.out).mono ?_
  rintro e w14 ⟨rfl, hbl⟩
  have B14 := Aside0.mk (below_step B13.out hbl)
  clear hbl
  go_wp2_with fail
  refine (aw13 w14).mono ?_
  rintro e w15 ⟨rfl, hbl⟩
  have B15 := Aside0.mk (below_step B14.out hbl)
  clear hbl
  go_wp2
  go_ret
  exact ⟨rfl, B15.out⟩
end Go.Proofs.Ytgpekomaoeockaa.MemC
