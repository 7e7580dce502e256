/- Contracts of Room and Stack, and of every method at a nil pointer. -/
import Derived.Test.YtgpekomaoeockaaMemB
import Derived.Deep.RegionHeld3
namespace Go.Proofs.Ytgpekomaoeockaa.MemC
open Go.RowKit Go.Proofs.YtgpekomaoeockaaW.PrintWords Go.Proofs.YtgpekomaoeockaaW.PrintLast Go.Proofs.YtgpekomaoeockaaW.PrintMore Go.Proofs.Ytgpekomaoeockaa.QMemSizes
theorem keep_cell {W W' : World} {a : Addr} {v : Value} (hb : Below W.heap.size W W') (h : W.cell? a = some v) : W'.cell? a = some v := (hb.cell (World.block_lt_of_cell? W _ h)).trans h
set_option maxHeartbeats 8000000 in
set_option maxRecDepth 100000 in
theorem Room.calls (k : Nat) (pb : Nat) (A0 A1 : Option Addr) (c0 n1 c1 : Nat) (l0 : List (S50)) (r : Int) (w : World) (hr0 : Kd.C k50 w A0 l0.length l0) (hc0 : l0.length ≤ c0) (hp : w.cell? ⟨pb, 2, none⟩ = some (.slice A0 l0.length c0)) (hp1 : w.cell? ⟨pb, 1, none⟩ = some (.slice A1 n1 c1)) (h : mem_Mem_Used.f k l0 = some r) :
    Calls Try.prog 14 #[.pointer (some ⟨pb, 0, none⟩)] w fun e w' => e = .returned (.int .i64 (wrap64 ((n1 : Int) - r))) ∧ Below w.heap.size w w' := by
  have HH := Aside0.mk h
  have HR := Aside0.mk hr0
  have HC := Aside0.mk hc0
  have HP := Aside0.mk hp
  have HP1 := Aside0.mk hp1
  clear h hr0 hc0 hp hp1
  go_enter Try.func14, Try.ntmps14
  go_wp2
  go_region_held3 (fun w' => w'.cell? ⟨pb, 1, none⟩ = some (.slice A1 n1 c1) ∧ Below w.heap.size w w') (first | ((try dsimp only); refine ⟨?_, ?_⟩ <;> first | exact Below.drew (Below.refl _ _) | assumption | exact keep_cell (Below.drew (Below.refl _ _)) HP1.out | exact keep_cell (by assumption) HP1.out)) (first | (go_simp; go_at_call 15; refine (mem_Mem_Used.calls pb k A0 c0 l0 r _ (Kd.C_below HR.out (by first | exact Below.drew (Below.refl _ _) | assumption | exact And.right (by assumption))) HC.out (keep_cell (by first | exact Below.drew (Below.refl _ _) | assumption | exact And.right (by assumption)) HP.out) HH.out).mono ?_; rintro e w5 ⟨rfl, hb⟩; have HB5 : Below w.heap.size w w5 := below_step (by first | exact Below.drew (Below.refl _ _) | assumption | exact And.right (by assumption)) hb))
  all_goals go_wp2
  all_goals go_ret
  all_goals exact ⟨by first | rfl | (simp [i64_w]; done) | (show Ending.returned (Value.int IntKind.i64 (IntKind.i64.wrap ((n1 : Int) - r))) = _; rw [i64_w]), by first | assumption | exact And.right (by assumption)⟩
set_option maxHeartbeats 8000000 in
set_option maxRecDepth 100000 in
theorem Stack.calls (pb : Nat) (v : Value) (w : World) (hp : w.cell? ⟨pb, 0, none⟩ = some v) :
    Calls Try.prog 13 #[.pointer (some ⟨pb, 0, none⟩)] w fun e w' => e = .returned v ∧ Below w.heap.size w w' := by
  go_enter Try.func13, Try.ntmps13
  go_wp2
  go_ret
  exact ⟨rfl, Below.refl _ _⟩
set_option maxHeartbeats 8000000 in
set_option maxRecDepth 100000 in
theorem Stack.nil_ (w : World) : Calls Try.prog 13 #[.pointer none] w fun e w' => e = .returned (.slice none 0 0) ∧ Below w.heap.size w w' := by
  go_enter Try.func13, Try.ntmps13
  go_wp2
  go_ret
  exact ⟨rfl, Below.refl _ _⟩
set_option maxHeartbeats 8000000 in
set_option maxRecDepth 100000 in
theorem Used.nil_ (w : World) : Calls Try.prog 15 #[.pointer none] w fun e w' => e = .returned (.int .i64 0) ∧ Below w.heap.size w w' := by
  go_enter Try.func15, Try.ntmps15
  go_wp2
  go_ret
  exact ⟨rfl, Below.refl _ _⟩
set_option maxHeartbeats 8000000 in
set_option maxRecDepth 100000 in
theorem Room.nil_ (w : World) : Calls Try.prog 14 #[.pointer none] w fun e w' => e = .returned (.int .i64 0) ∧ Below w.heap.size w w' := by
  go_enter Try.func14, Try.ntmps14
  go_wp2
  go_ret
  exact ⟨rfl, Below.refl _ _⟩
set_option maxHeartbeats 8000000 in
set_option maxRecDepth 100000 in
theorem Give.nil_ (n : Int) (w : World) : Calls Try.prog 9 #[.pointer none, .int .i64 n] w fun e w' => e = .returned (.tuple #[.int .i64 0, .bool false]) ∧ Below w.heap.size w w' := by
  go_enter Try.func9, Try.ntmps9
  go_wp2
  go_ret2
  exact ⟨rfl, Below.refl _ _⟩
set_option maxHeartbeats 8000000 in
set_option maxRecDepth 100000 in
theorem Place.nil_ (n : Int) (w : World) : Calls Try.prog 16 #[.pointer none, .int .i64 n] w fun e w' => e = .returned (.tuple #[.int .i64 0, .bool false]) ∧ Below w.heap.size w w' := by
  go_enter Try.func16, Try.ntmps16
  go_wp2_with fail
  refine (at.nil_ n _).mono ?_
  rintro e w5 ⟨rfl, hb⟩
  have HB := Aside0.mk hb
  clear hb
  go_wp2
  go_ret2
  exact ⟨rfl, HB.out⟩
set_option maxHeartbeats 8000000 in
set_option maxRecDepth 100000 in
theorem Drop.nil_ (n : Int) (w : World) : Calls Try.prog 10 #[.pointer none, .int .i64 n] w fun e w' => e = .returned (.bool false) ∧ Below w.heap.size w w' := by
  go_enter Try.func10, Try.ntmps10
  go_wp2_with fail
  refine (at.nil_ n _).mono ?_
  rintro e w5 ⟨rfl, hb⟩
  have HB := Aside0.mk hb
  clear hb
  go_wp2
  go_ret
  exact ⟨rfl, HB.out⟩
set_option maxHeartbeats 8000000 in
set_option maxRecDepth 100000 in
theorem Region.nil_ (n : Int) (w : World) : Calls Try.prog 11 #[.pointer none, .int .i64 n] w fun e w' => e = .returned (.slice none 0 0) ∧ Below w.heap.size w w' := by
  go_enter Try.func11, Try.ntmps11
  go_wp2_with fail
  refine (at.nil_ n _).mono ?_
  rintro e w5 ⟨rfl, hb⟩
  have HB := Aside0.mk hb
  clear hb
  go_wp2
  go_ret
  exact ⟨rfl, HB.out⟩
end Go.Proofs.Ytgpekomaoeockaa.MemC
