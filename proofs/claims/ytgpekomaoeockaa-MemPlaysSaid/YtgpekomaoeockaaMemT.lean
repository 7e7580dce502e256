/- Contracts of Place. -/
import Derived.Test.YtgpekomaoeockaaMemS
namespace Go.Proofs.Ytgpekomaoeockaa.MemC
open Go.RowKit Go.Proofs.YtgpekomaoeockaaW.PrintWords Go.Proofs.YtgpekomaoeockaaW.PrintLast Go.Proofs.YtgpekomaoeockaaW.PrintMore Go.Proofs.Ytgpekomaoeockaa.QMemSizes
set_option maxHeartbeats 8000000 in
set_option maxRecDepth 100000 in
theorem Place.no (k : Nat) (pb : Nat) (A0 : Option Addr) (c0 : Nat) (l0 : List (S50)) (n : Int) (r : Int) (w : World) (hr0 : Kd.C k50 w A0 l0.length l0) (hc0 : l0.length ≤ c0) (hp : w.cell? ⟨pb, 2, none⟩ = some (.slice A0 l0.length c0)) (h : mem_region_21.f k l0 n = some r) (hr : r < 0) :
    Calls Try.prog 16 #[.pointer (some ⟨pb, 0, none⟩), .int .i64 n] w fun e w' => e = .returned (.tuple #[.int .i64 0, .bool false]) ∧ Below w.heap.size w w' := by
  have HR := Aside0.mk hr0
  have HC := Aside0.mk hc0
  have HP := Aside0.mk hp
  have HH := Aside0.mk h
  have cr : decide (r < 0) = true := decide_eq_true hr
  clear hr0 hc0 hp h hr
  go_enter Try.func16, Try.ntmps16
  go_wp2_with fail
  refine (at.calls k pb A0 c0 l0 n r _ HR.out HC.out HP.out HH.out).mono ?_
  rintro e w5 ⟨rfl, hb⟩
  have HB := Aside0.mk hb
  clear hb
  go_wp2
  go_ret2
  exact ⟨rfl, HB.out⟩
set_option maxHeartbeats 8000000 in
set_option maxRecDepth 100000 in
theorem Place.calls (k : Nat) (pb : Nat) (A0 : Option Addr) (c0 : Nat) (l0 : List (S50)) (n : Int) (r : Int) (w : World) (hr0 : Kd.C k50 w A0 l0.length l0) (hc0 : l0.length ≤ c0) (hp : w.cell? ⟨pb, 2, none⟩ = some (.slice A0 l0.length c0)) (h : mem_region_21.f k l0 n = some r) (hr : 0 ≤ r) (hrl : r < (l0.length : Int)) :
    Calls Try.prog 16 #[.pointer (some ⟨pb, 0, none⟩), .int .i64 n] w fun e w' => e = .returned (.tuple #[.int .i64 (rd_T50 l0 r).f1, .bool true]) ∧ Below w.heap.size w w' := by
  have HR := Aside0.mk hr0
  have HC := Aside0.mk hc0
  have HP := Aside0.mk hp
  have HH := Aside0.mk h
  have cr : decide (r < 0) = false := decide_eq_false (by omega)
  have p1 : (0 ≤ r) = True := eq_true hr
  have q1 : (r < (l0.length : Int)) = True := eq_true hrl
  obtain ⟨ad, ea, hx0, hx1, hx2⟩ := at_T50 hr0 r hr hrl
  subst ea
  have HX0 := Aside0.mk hx0
  have HX1 := Aside0.mk hx1
  have HX2 := Aside0.mk hx2
  clear hr0 hc0 hp h hr hrl hx0 hx1 hx2
  go_enter Try.func16, Try.ntmps16
  go_wp2_with fail
  refine (at.calls k pb _ c0 l0 n r _ HR.out HC.out HP.out HH.out).mono ?_
  rintro e w5 ⟨rfl, hb⟩
  have HB := Aside0.mk hb
  have hp5 := keep_cell hb HP.out
  have hx0 := keep_cell hb HX0.out
  have hx1 := keep_cell hb HX1.out
  have hx2 := keep_cell hb HX2.out
  clear hb
  go_wp2
  go_ret2
  exact ⟨rfl, HB.out⟩
end Go.Proofs.Ytgpekomaoeockaa.MemC
