/- Contracts of Region. -/
import Derived.Test.YtgpekomaoeockaaMemT
import Derived.Deep.QuietTactic
import Derived.BigQuiet
namespace Go.Proofs.Ytgpekomaoeockaa.MemC
open Go.RowKit Go.Proofs.YtgpekomaoeockaaW.PrintWords Go.Proofs.YtgpekomaoeockaaW.PrintLast Go.Proofs.YtgpekomaoeockaaW.PrintMore Go.Proofs.Ytgpekomaoeockaa.QMemSizes
set_option maxHeartbeats 8000000 in
set_option maxRecDepth 100000 in
theorem Region.no (k : Nat) (pb : Nat) (A0 : Option Addr) (c0 : Nat) (l0 : List (S50)) (n : Int) (r : Int) (w : World) (hr0 : Kd.C k50 w A0 l0.length l0) (hc0 : l0.length ≤ c0) (hp : w.cell? ⟨pb, 2, none⟩ = some (.slice A0 l0.length c0)) (h : mem_region_21.f k l0 n = some r) (hr : r < 0) :
    Calls Try.prog 11 #[.pointer (some ⟨pb, 0, none⟩), .int .i64 n] w fun e w' => e = .returned (.slice none 0 0) ∧ Below w.heap.size w w' := by
  have HR := Aside0.mk hr0
  have HC := Aside0.mk hc0
  have HP := Aside0.mk hp
  have HH := Aside0.mk h
  have cr : decide (r < 0) = true := decide_eq_true hr
  clear hr0 hc0 hp h hr
  go_enter Try.func11, Try.ntmps11
  go_wp2_with fail
  refine (at.calls k pb A0 c0 l0 n r _ HR.out HC.out HP.out HH.out).mono ?_
  rintro e w5 ⟨rfl, hb⟩
  have HB := Aside0.mk hb
  clear hb
  go_wp2
  go_ret
  exact ⟨rfl, HB.out⟩
/-- A region's cells, as a slice. -/
def regV (b fr sz : Nat) : Value := if sz = 0 then .slice (some ⟨b, 0, none⟩) 0 0 else .slice (some ⟨b, fr, none⟩) sz sz
set_option maxHeartbeats 8000000 in
set_option maxRecDepth 100000 in
theorem Region.calls (k : Nat) (pb : Nat) (A0 : Option Addr) (c0 : Nat) (l0 : List (S50)) (hb0 hn hc : Nat) (fr sz : Nat) (n : Int) (r : Int) (w : World) (hr0 : Kd.C k50 w A0 l0.length l0) (hc0 : l0.length ≤ c0) (hp : w.cell? ⟨pb, 2, none⟩ = some (.slice A0 l0.length c0)) (hp1 : w.cell? ⟨pb, 1, none⟩ = some (.slice (some ⟨hb0, 0, none⟩) hn hc)) (h : mem_region_21.f k l0 n = some r) (hr : 0 ≤ r) (hrl : r < (l0.length : Int))
    (hf1 : (rd_T50 l0 r).f1 = (fr : Int)) (hf2 : (rd_T50 l0 r).f2 = (sz : Int)) (hfs : fr + sz ≤ hc) (hcb : hc ≤ 1000000) :
    Calls Try.prog 11 #[.pointer (some ⟨pb, 0, none⟩), .int .i64 n] w fun e w' => e = .returned (regV hb0 fr sz) ∧ Below w.heap.size w w' := by
  have HR := Aside0.mk hr0
  have HC := Aside0.mk hc0
  have HP := Aside0.mk hp
  have HP1 := Aside0.mk hp1
  have HH := Aside0.mk h
  have cr : decide (r < 0) = false := decide_eq_false (by omega)
  have p1 : (0 ≤ r) = True := eq_true hr
  have q1 : (r < (l0.length : Int)) = True := eq_true hrl
  obtain ⟨ad, ea, hx0, hx1, hx2⟩ := at_T50 hr0 r hr hrl
  subst ea
  rw [hf1] at hx1
  rw [hf2] at hx2
  have HX0 := Aside0.mk hx0
  have HX1 := Aside0.mk hx1
  have HX2 := Aside0.mk hx2
  have HF := Aside0.mk hfs
  have HCB := Aside0.mk hcb
  clear hr0 hc0 hp hp1 h hr hrl hx0 hx1 hx2 hf1 hf2 hfs hcb
  go_enter Try.func11, Try.ntmps11
  go_wp2_with fail
  refine (at.calls k pb _ c0 l0 n r _ HR.out HC.out HP.out HH.out).mono ?_
  rintro e w5 ⟨rfl, hb⟩
  have HB := Aside0.mk hb
  have hp5 := keep_cell hb HP.out
  have hp6 := keep_cell hb HP1.out
  have hx0 := keep_cell hb HX0.out
  have hx1 := keep_cell hb HX1.out
  have hx2 := keep_cell hb HX2.out
  clear hb
  go_wp2
  have b1 : (w5.alloc (Obj.cells #[Value.int IntKind.i64 (rd_T50 l0 r).f0, Value.int IntKind.i64 (fr : Int), Value.int IntKind.i64 (sz : Int)] 50)).cell? ⟨w5.heap.size, 1, none⟩ = some (.int .i64 (fr : Int)) := (blk_cell (heap_alloc_new w5 _) 1).trans rfl
  have b2 : (w5.alloc (Obj.cells #[Value.int IntKind.i64 (rd_T50 l0 r).f0, Value.int IntKind.i64 (fr : Int), Value.int IntKind.i64 (sz : Int)] 50)).cell? ⟨w5.heap.size, 2, none⟩ = some (.int .i64 (sz : Int)) := (blk_cell (heap_alloc_new w5 _) 2).trans rfl
  have b3 : (w5.alloc (Obj.cells #[Value.int IntKind.i64 (rd_T50 l0 r).f0, Value.int IntKind.i64 (fr : Int), Value.int IntKind.i64 (sz : Int)] 50)).cell? ⟨pb, 1, none⟩ = some (.slice (some ⟨hb0, 0, none⟩) hn hc) := (World.cell?_alloc_lt _ _ _ (World.block_lt_of_cell? _ _ hp6)).trans hp6
  have b4 : Below w.heap.size w (w5.alloc (Obj.cells #[Value.int IntKind.i64 (rd_T50 l0 r).f0, Value.int IntKind.i64 (fr : Int), Value.int IntKind.i64 (sz : Int)] 50)) := below_step HB.out (below_alloc (Below.refl _ _) _)
  have HB4 := Aside0.mk b4
  clear b4 hp5 hp6 hx0 hx1 hx2
  generalize w5.alloc (Obj.cells #[Value.int IntKind.i64 (rd_T50 l0 r).f0, Value.int IntKind.i64 (fr : Int), Value.int IntKind.i64 (sz : Int)] 50) = w6 at *
  have hF := HF.out
  have hCB := HCB.out
  have e1 : IntKind.i64.wrap ((fr : Int) + (sz : Int)) = (fr : Int) + (sz : Int) := by rw [i64_w]; unfold wrap64; omega
  have e2 : wrap64 ((fr : Int) + (sz : Int)) = (fr : Int) + (sz : Int) := by unfold wrap64; omega
  have s1 : (0 ≤ (fr : Int)) = True := eq_true (by clear e1 e2; omega)
  have s2 : ((fr : Int) ≤ (fr : Int) + (sz : Int)) = True := eq_true (by clear e1 e2; omega)
  have s3 : ((fr : Int) + (sz : Int) ≤ (hc : Int)) = True := eq_true (by clear e1 e2; omega)
  have s4 : (0 ≤ (fr : Int) + (sz : Int)) = True := eq_true (by clear e1 e2; omega)
  have hu29 := Try.underlying29
  clear hF hCB
  go_quiet (fail)
  all_goals go_wp2
  all_goals go_ret
  all_goals refine ⟨?_, (pw_below_drewN HB4.out _)⟩
  all_goals (clear e1 e2; unfold regV; first | (rw [if_pos (by omega : sz = 0)]; rfl) | (rw [if_neg (by assumption)]; rfl))
end Go.Proofs.Ytgpekomaoeockaa.MemC
