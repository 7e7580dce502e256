/- The walk: what is awake. -/
import Derived.Test.YtcfbhobpfnlkpaaJudgeJR
import Derived.Test.YtcfbhobpfnlkpaaJudgeAE
namespace Go.Proofs.Ytcfbhobpfnlkpaa.Flow
open Go.RowKit Go.Proofs.Ytcfbhobpfnlkpaa.QJudgeFound Go.Proofs.YtcfbhobpfnlkpaaW.PrintWords Go.Proofs.YtcfbhobpfnlkpaaW.PrintLast Go.Proofs.Ytcfbhobpfnlkpaa.Chain
set_option linter.unusedVariables false
set_option linter.unusedSimpArgs false
theorem long_of {x : List (List S44)} (h : ∀ u ∈ x, ∀ s ∈ u, s.f1.length ≤ 100000) (i j : Int) : (rd_T44 (rd_L11 x i) j).f1.length ≤ 100000 := by
  unfold rd_T44 rd_L11
  rw [List.getD_eq_getElem?_getD, List.getD_eq_getElem?_getD]
  cases h1 : x[i.toNat]? with
  | none => simp [h1]; exact Nat.zero_le 100000
  | some u =>
    have hu : u ∈ x := List.mem_of_getElem? h1
    cases h2 : u[j.toNat]? with
    | none => simp [h2]; exact Nat.zero_le 100000
    | some s => simpa [h2] using h u hu s (List.mem_of_getElem? h2)
def l0 : List (List Shp) := [[(true, []), (true, [⟨1, 0⟩])]]
def z0 : List (List S44) := [[⟨false, []⟩, ⟨false, []⟩]]
theorem cv0 : checkV m0 m0.m.length 0 = some l0 := by kernel_rfl
theorem ck_c {w : World} {g : Nat} (hm : IC w (a0 g) m0) : Calls Try.prog 9 #[.agg #[.slice none 0 0, .slice none 0 0, .slice (some ⟨g, 0, none⟩) 1 1, .slice (some ⟨g + 1 + 1 + 1, 0, none⟩) 1 1, .slice none 0 0, .int .i64 0, .int .i64 0]] w fun e w' => ∃ A, e = .returned (.tuple #[.slice A 1 1, .int .i64 0, .int .i64 0, .int .i64 0]) ∧ Kd.C (Kd.slice 44 k44) w' A 1 (unM l0) ∧ Below w.heap.size w w' := by
  refine (tcheck_c (a0 g) m0 w hm m0_sane cv0).mono ?_
  rintro e w' ⟨hb, _, h⟩
  obtain ⟨A, rfl, hC⟩ := h _ rfl
  exact ⟨A, rfl, hC, hb⟩
theorem rt1_c {w : World} {g : Nat} (hm : IC w (a0 g) m0) {A : Option Addr} (hC : Kd.C (Kd.slice 44 k44) w A 1 (unM l0)) : Calls Try.prog 10 #[.agg #[.slice none 0 0, .slice none 0 0, .slice (some ⟨g, 0, none⟩) 1 1, .slice (some ⟨g + 1 + 1 + 1, 0, none⟩) 1 1, .slice none 0 0, .int .i64 0, .int .i64 0], .slice A 1 1] w fun e w' => e = .returned (.bool true) ∧ Below w.heap.size w w' :=
  right_c (a0 g) m0 A 1 (unM l0) w hm m0_sane hC (Nat.le_refl 1) (long_of (by decide)) (p := true) (by kernel_rfl)
theorem rt0_c {w : World} {g : Nat} (hm : IC w (a0 g) m0) : Calls Try.prog 10 #[.agg #[.slice none 0 0, .slice none 0 0, .slice (some ⟨g, 0, none⟩) 1 1, .slice (some ⟨g + 1 + 1 + 1, 0, none⟩) 1 1, .slice none 0 0, .int .i64 0, .int .i64 0], .slice none 0 0] w fun e w' => e = .returned (.bool false) ∧ Below w.heap.size w w' :=
  right_c (a0 g) m0 none 0 [] w hm m0_sane (C_zero _ _ _) (Nat.le_refl 0) (long_of (by decide)) (p := false) (by kernel_rfl)
theorem rt2_c {w : World} {g : Nat} (hm : IC w (a0 g) m0) {A : Option Addr} (hC : Kd.C (Kd.slice 44 k44) w A 1 z0) : Calls Try.prog 10 #[.agg #[.slice none 0 0, .slice none 0 0, .slice (some ⟨g, 0, none⟩) 1 1, .slice (some ⟨g + 1 + 1 + 1, 0, none⟩) 1 1, .slice none 0 0, .int .i64 0, .int .i64 0], .slice A 1 1] w fun e w' => e = .returned (.bool false) ∧ Below w.heap.size w w' :=
  right_c (a0 g) m0 A 1 z0 w hm m0_sane hC (Nat.le_refl 1) (long_of (by decide)) (p := false) (by kernel_rfl)
theorem ov_c {w : World} {g : Nat} (hm : IC w (a0 g) m0) {A : Option Addr} (hC : Kd.C (Kd.slice 44 k44) w A 1 (unM l0)) : Calls Try.prog 11 #[.agg #[.slice none 0 0, .slice none 0 0, .slice (some ⟨g, 0, none⟩) 1 1, .slice (some ⟨g + 1 + 1 + 1, 0, none⟩) 1 1, .slice none 0 0, .int .i64 0, .int .i64 0], .slice A 1 1, .slice A 1 1] w fun e w' => e = .returned (.bool true) ∧ Below w.heap.size w w' :=
  over_c (a0 g) m0 A A 1 1 (unM l0) (unM l0) w hm hC (Nat.le_refl 1) hC (Nat.le_refl 1) (p := true) (by kernel_rfl)
theorem sn_c {w : World} {g : Nat} (hm : IC w (a0 g) m0) : Calls Try.prog 14 #[.agg #[.slice none 0 0, .slice none 0 0, .slice (some ⟨g, 0, none⟩) 1 1, .slice (some ⟨g + 1 + 1 + 1, 0, none⟩) 1 1, .slice none 0 0, .int .i64 0, .int .i64 0]] w fun e w' => e = .returned (.int .i64 0) ∧ Below w.heap.size w w' :=
  sane_c (m := m0) hm (by kernel_rfl)
theorem make2 (w : World) : (Instr.makeSlice 42 (.int .i64 2) (.int .i64 2)).run Try.prog w = .ok (.slice (some ⟨w.heap.size, 0, none⟩) 2 2) (w.alloc (.cells #[.bool false, .slice none 0 0, .bool false, .slice none 0 0] 44)) := run_makeS w 2 (by decide)
theorem z0_C {w : World} {b c : Nat} {t : TypeId} (h : w.heap[b]? = some (.cells #[.bool false, .slice none 0 0, .bool false, .slice none 0 0] 44 (0, 0))) (h2 : w.heap[c]? = some (.cells #[.slice (some ⟨b, 0, none⟩) 2 2] t (0, 0))) : Kd.C (Kd.slice 44 k44) w (some ⟨c, 0, none⟩) 1 z0 := by
  have h1 : Kd.C k44 w (some ⟨b, 0, none⟩) 2 ([⟨false, []⟩, ⟨false, []⟩] : List S44) := C_of_blk (xs := ([⟨false, []⟩, ⟨false, []⟩] : List S44)) h (two_r (k44_mk w (⟨false, []⟩ : S44) (Nat.zero_le 0) (C_zero _ _ _)) rfl (k44_mk w (⟨false, []⟩ : S44) (Nat.zero_le 0) (C_zero _ _ _)) rfl) (by decide)
  exact C_of_blk (d := (Kd.slice 44 k44)) (xs := z0) h2 (one_r (d := (Kd.slice 44 k44)) (cs := [.slice (some ⟨b, 0, none⟩) 2 2]) ⟨some ⟨b, 0, none⟩, 2, rfl, Nat.le_refl 2, h1⟩ rfl) (by decide)
set_option maxHeartbeats 16000000 in
set_option maxRecDepth 100000 in
theorem awake_c (w : World) : Calls Try.prog 8 #[] w fun e w' => e = .returned (.bool true) ∧ Below w.heap.size w w' := by
  have HI0 := Aside0.mk (show IC (((((w.alloc (.cells #[.int .i32 1] 21)).alloc (.cells #[.int .i64 1, .int .i64 0, .int .i64 0, .int .i64 33, .int .i64 0, .int .i64 0] 49)).alloc (.cells #[.int .i64 0, .int .i64 0] 3)).alloc (.cells #[.slice none 0 0, .slice none 0 0, .int .i64 1, .int .i64 0, .slice (some ⟨w.heap.size + 1, 0, none⟩) 2 2, .int .i64 0, .int .i64 0, .slice (some ⟨w.heap.size + 1 + 1, 0, none⟩) 2 2] 52)).alloc (.cells #[.slice none 0 0, .slice none 0 0, .slice (some ⟨w.heap.size, 0, none⟩) 1 1, .slice (some ⟨w.heap.size + 1 + 1 + 1, 0, none⟩) 1 1, .slice none 0 0, .int .i64 0, .int .i64 0] 28)) (a0 w.heap.size) m0 from m0_ic (t2 := 21) (heap_k w [(.cells #[.int .i32 1] 21), (.cells #[.int .i64 1, .int .i64 0, .int .i64 0, .int .i64 33, .int .i64 0, .int .i64 0] 49), (.cells #[.int .i64 0, .int .i64 0] 3), (.cells #[.slice none 0 0, .slice none 0 0, .int .i64 1, .int .i64 0, .slice (some ⟨w.heap.size + 1, 0, none⟩) 2 2, .int .i64 0, .int .i64 0, .slice (some ⟨w.heap.size + 1 + 1, 0, none⟩) 2 2] 52), (.cells #[.slice none 0 0, .slice none 0 0, .slice (some ⟨w.heap.size, 0, none⟩) 1 1, .slice (some ⟨w.heap.size + 1 + 1 + 1, 0, none⟩) 1 1, .slice none 0 0, .int .i64 0, .int .i64 0] 28)] 0 (by simp)) (heap_k w [(.cells #[.int .i32 1] 21), (.cells #[.int .i64 1, .int .i64 0, .int .i64 0, .int .i64 33, .int .i64 0, .int .i64 0] 49), (.cells #[.int .i64 0, .int .i64 0] 3), (.cells #[.slice none 0 0, .slice none 0 0, .int .i64 1, .int .i64 0, .slice (some ⟨w.heap.size + 1, 0, none⟩) 2 2, .int .i64 0, .int .i64 0, .slice (some ⟨w.heap.size + 1 + 1, 0, none⟩) 2 2] 52), (.cells #[.slice none 0 0, .slice none 0 0, .slice (some ⟨w.heap.size, 0, none⟩) 1 1, .slice (some ⟨w.heap.size + 1 + 1 + 1, 0, none⟩) 1 1, .slice none 0 0, .int .i64 0, .int .i64 0] 28)] 1 (by simp)) (heap_k w [(.cells #[.int .i32 1] 21), (.cells #[.int .i64 1, .int .i64 0, .int .i64 0, .int .i64 33, .int .i64 0, .int .i64 0] 49), (.cells #[.int .i64 0, .int .i64 0] 3), (.cells #[.slice none 0 0, .slice none 0 0, .int .i64 1, .int .i64 0, .slice (some ⟨w.heap.size + 1, 0, none⟩) 2 2, .int .i64 0, .int .i64 0, .slice (some ⟨w.heap.size + 1 + 1, 0, none⟩) 2 2] 52), (.cells #[.slice none 0 0, .slice none 0 0, .slice (some ⟨w.heap.size, 0, none⟩) 1 1, .slice (some ⟨w.heap.size + 1 + 1 + 1, 0, none⟩) 1 1, .slice none 0 0, .int .i64 0, .int .i64 0] 28)] 2 (by simp)) (heap_k w [(.cells #[.int .i32 1] 21), (.cells #[.int .i64 1, .int .i64 0, .int .i64 0, .int .i64 33, .int .i64 0, .int .i64 0] 49), (.cells #[.int .i64 0, .int .i64 0] 3), (.cells #[.slice none 0 0, .slice none 0 0, .int .i64 1, .int .i64 0, .slice (some ⟨w.heap.size + 1, 0, none⟩) 2 2, .int .i64 0, .int .i64 0, .slice (some ⟨w.heap.size + 1 + 1, 0, none⟩) 2 2] 52), (.cells #[.slice none 0 0, .slice none 0 0, .slice (some ⟨w.heap.size, 0, none⟩) 1 1, .slice (some ⟨w.heap.size + 1 + 1 + 1, 0, none⟩) 1 1, .slice none 0 0, .int .i64 0, .int .i64 0] 28)] 3 (by simp)))
  have HXW := Aside0.mk (heap_k w [(.cells #[.int .i32 1] 21), (.cells #[.int .i64 1, .int .i64 0, .int .i64 0, .int .i64 33, .int .i64 0, .int .i64 0] 49), (.cells #[.int .i64 0, .int .i64 0] 3), (.cells #[.slice none 0 0, .slice none 0 0, .int .i64 1, .int .i64 0, .slice (some ⟨w.heap.size + 1, 0, none⟩) 2 2, .int .i64 0, .int .i64 0, .slice (some ⟨w.heap.size + 1 + 1, 0, none⟩) 2 2] 52), (.cells #[.slice none 0 0, .slice none 0 0, .slice (some ⟨w.heap.size, 0, none⟩) 1 1, .slice (some ⟨w.heap.size + 1 + 1 + 1, 0, none⟩) 1 1, .slice none 0 0, .int .i64 0, .int .i64 0] 28)] 4 (by simp))
  go_enter Try.func8, Try.ntmps8
  go_wp2_with (first | (go_at_call 9; (with_reducible refine (ck_c HI0.out).mono ?_); rintro e w0 ⟨A1, rfl, C1, hb0⟩; have HC0 := Aside0.mk C1; have HI00 := Aside0.mk (HI0.out.below hb0); have HX0 := Aside0.mk (blk_below HXW.out hb0); have HB00 : Below w.heap.size w w0 := below_mid bel hb0; clear C1 hb0))
  refine see (F := fun w0_ => Below w0.heap.size w0 w0_ ∧ w0_.cell? ⟨w.heap.size + 1 + 1 + 1 + 1, 0, none⟩ = some (.slice none 0 0) ∧ w0_.cell? ⟨w.heap.size + 1 + 1 + 1 + 1, 1, none⟩ = some (.slice none 0 0) ∧ w0_.cell? ⟨w.heap.size + 1 + 1 + 1 + 1, 2, none⟩ = some (.slice (some ⟨w.heap.size, 0, none⟩) 1 1) ∧ w0_.cell? ⟨w.heap.size + 1 + 1 + 1 + 1, 3, none⟩ = some (.slice (some ⟨w.heap.size + 1 + 1 + 1, 0, none⟩) 1 1) ∧ w0_.cell? ⟨w.heap.size + 1 + 1 + 1 + 1, 4, none⟩ = some (.slice none 0 0) ∧ w0_.cell? ⟨w.heap.size + 1 + 1 + 1 + 1, 5, none⟩ = some (.int .i64 0) ∧ w0_.cell? ⟨w.heap.size + 1 + 1 + 1 + 1, 6, none⟩ = some (.int .i64 0) ∧ IC w0_ (a0 w.heap.size) m0 ∧ Kd.C (Kd.slice 44 k44) w0_ A1 1 (unM l0) ∧ Below w.heap.size w w0_) _ ⟨bel, (blk_cell HX0.out 0).trans rfl, (blk_cell HX0.out 1).trans rfl, (blk_cell HX0.out 2).trans rfl, (blk_cell HX0.out 3).trans rfl, (blk_cell HX0.out 4).trans rfl, (blk_cell HX0.out 5).trans rfl, (blk_cell HX0.out 6).trans rfl, HI00.out, HC0.out, HB00⟩ ?_
  rintro w1 ⟨hb1_, hq1_, hq2_, hq3_, hq4_, hq5_, hq6_, hq7_, HI1, HC1, HBW⟩
  replace hb1_ := Aside0.mk hb1_
  replace hq1_ := Aside0.mk hq1_
  replace hq2_ := Aside0.mk hq2_
  replace hq3_ := Aside0.mk hq3_
  replace hq4_ := Aside0.mk hq4_
  replace hq5_ := Aside0.mk hq5_
  replace hq6_ := Aside0.mk hq6_
  replace hq7_ := Aside0.mk hq7_
  replace HI1 := Aside0.mk HI1
  replace HC1 := Aside0.mk HC1
  replace HBW := Aside0.mk HBW
  have HB1 : Below w1.heap.size w1 w1 := Below.refl _ _
  have hm2 := make2
  have KP := Aside0.mk (show ∀ w', Below w1.heap.size w1 w' → (w'.cell? ⟨w.heap.size + 1 + 1 + 1 + 1, 0, none⟩ = some (.slice none 0 0) ∧ w'.cell? ⟨w.heap.size + 1 + 1 + 1 + 1, 1, none⟩ = some (.slice none 0 0) ∧ w'.cell? ⟨w.heap.size + 1 + 1 + 1 + 1, 2, none⟩ = some (.slice (some ⟨w.heap.size, 0, none⟩) 1 1) ∧ w'.cell? ⟨w.heap.size + 1 + 1 + 1 + 1, 3, none⟩ = some (.slice (some ⟨w.heap.size + 1 + 1 + 1, 0, none⟩) 1 1) ∧ w'.cell? ⟨w.heap.size + 1 + 1 + 1 + 1, 4, none⟩ = some (.slice none 0 0) ∧ w'.cell? ⟨w.heap.size + 1 + 1 + 1 + 1, 5, none⟩ = some (.int .i64 0) ∧ w'.cell? ⟨w.heap.size + 1 + 1 + 1 + 1, 6, none⟩ = some (.int .i64 0)) from fun w' h => ⟨keepc h hq1_.out, keepc h hq2_.out, keepc h hq3_.out, keepc h hq4_.out, keepc h hq5_.out, keepc h hq6_.out, keepc h hq7_.out⟩)
  refine wp_region_noPanic ?_
  refine wp_region_held_drew (S := fun w' => w'.cell? ⟨w.heap.size + 1 + 1 + 1 + 1, 0, none⟩ = some (.slice none 0 0) ∧ w'.cell? ⟨w.heap.size + 1 + 1 + 1 + 1, 1, none⟩ = some (.slice none 0 0) ∧ w'.cell? ⟨w.heap.size + 1 + 1 + 1 + 1, 2, none⟩ = some (.slice (some ⟨w.heap.size, 0, none⟩) 1 1) ∧ w'.cell? ⟨w.heap.size + 1 + 1 + 1 + 1, 3, none⟩ = some (.slice (some ⟨w.heap.size + 1 + 1 + 1, 0, none⟩) 1 1) ∧ w'.cell? ⟨w.heap.size + 1 + 1 + 1 + 1, 4, none⟩ = some (.slice none 0 0) ∧ w'.cell? ⟨w.heap.size + 1 + 1 + 1 + 1, 5, none⟩ = some (.int .i64 0) ∧ w'.cell? ⟨w.heap.size + 1 + 1 + 1 + 1, 6, none⟩ = some (.int .i64 0)) (by kernel_rfl) (by ((try dsimp only); first | exact KP.out _ bel | exact KP.out _ (below_alloc (below_alloc (by assumption) _) _) | exact KP.out _ bel)) (fun hHeld => ?_)
  refine tk 0 ?_
  refine tk 1 ?_
  refine tk 2 ?_
  refine tk 3 ?_
  refine tk 4 ?_
  refine tr 5 (fun K hK => ?_)
  first | ((try go_simp); go_at_call 10; (with_reducible refine (rt1_c (HI1.out.below bel) (Kd.C_below HC1.out bel)).mono ?_); rintro e w2 ⟨rfl, hb2⟩; have HC2 := Aside0.mk (Kd.C_below HC1.out (below_mid bel hb2)); have HI2 := Aside0.mk (HI1.out.below (below_mid bel hb2)); have HB2 : Below w1.heap.size w1 w2 := below_mid HB1 (below_mid bel hb2); clear hb2 HB1) | ((try go_simp); go_at_call 11; (with_reducible refine (ov_c (HI2.out.below bel) (Kd.C_below HC2.out bel)).mono ?_); rintro e w3 ⟨rfl, hb3⟩; have HI3 := Aside0.mk (HI2.out.below (below_mid bel hb3)); have HB3 : Below w1.heap.size w1 w3 := below_mid HB2 (below_mid bel hb3); clear hb3 HB2) | ((try go_simp); go_at_call 10; (with_reducible refine (rt0_c (HI3.out.below bel)).mono ?_); rintro e w4 ⟨rfl, hb4⟩; have HI4 := Aside0.mk (HI3.out.below (below_mid bel hb4)); have HB4 : Below w1.heap.size w1 w4 := below_mid HB3 (below_mid bel hb4); clear hb4 HB3) | ((try go_simp); go_at_call 10; (with_reducible refine (rt2_c (HI4.out.below bel) (z0_C (t := 42) (blk2 _ _ _).1 (blk2 _ _ _).2)).mono ?_); rintro e w5 ⟨rfl, hb5⟩; have HI5 := Aside0.mk (HI4.out.below (below_mid bel hb5)); have HB5 : Below w1.heap.size w1 w5 := below_mid HB4 (below_mid bel hb5); clear hb5 HB4) | ((try go_simp); go_at_call 14; (with_reducible refine (sn_c (HI5.out.below bel)).mono ?_); rintro e w6 ⟨rfl, hb6⟩; have HI6 := Aside0.mk (HI5.out.below (below_mid bel hb6)); have HB6 : Below w1.heap.size w1 w6 := below_mid HB5 (below_mid bel hb6); clear hb6 HB5) | ((try go_simp); go_at_call 15; (with_reducible refine (edges_c (HI6.out.below bel)).mono ?_); rintro e w7 ⟨R7, r7, rfl, hb7⟩; have HI7 := Aside0.mk (HI6.out.below (below_mid bel hb7)); have HB7 : Below w1.heap.size w1 w7 := below_mid HB6 (below_mid bel hb7); clear hb7 HB6) | go_simp
  refine hK.out _ _ (by ((try dsimp only); first | exact KP.out _ bel | exact KP.out _ (below_alloc (below_alloc (by assumption) _) _) | exact KP.out _ bel)) (fun hHeld => ?_)
  clear hK K
  (try simp only [Act.put, putx])
  refine tk 6 ?_
  refine tk 7 ?_
  refine tk 8 ?_
  refine tk 9 ?_
  refine tk 10 ?_
  refine tr 11 (fun K hK => ?_)
  first | ((try go_simp); go_at_call 10; (with_reducible refine (rt1_c (HI1.out.below bel) (Kd.C_below HC1.out bel)).mono ?_); rintro e w2 ⟨rfl, hb2⟩; have HC2 := Aside0.mk (Kd.C_below HC1.out (below_mid bel hb2)); have HI2 := Aside0.mk (HI1.out.below (below_mid bel hb2)); have HB2 : Below w1.heap.size w1 w2 := below_mid HB1 (below_mid bel hb2); clear hb2 HB1) | ((try go_simp); go_at_call 11; (with_reducible refine (ov_c (HI2.out.below bel) (Kd.C_below HC2.out bel)).mono ?_); rintro e w3 ⟨rfl, hb3⟩; have HI3 := Aside0.mk (HI2.out.below (below_mid bel hb3)); have HB3 : Below w1.heap.size w1 w3 := below_mid HB2 (below_mid bel hb3); clear hb3 HB2) | ((try go_simp); go_at_call 10; (with_reducible refine (rt0_c (HI3.out.below bel)).mono ?_); rintro e w4 ⟨rfl, hb4⟩; have HI4 := Aside0.mk (HI3.out.below (below_mid bel hb4)); have HB4 : Below w1.heap.size w1 w4 := below_mid HB3 (below_mid bel hb4); clear hb4 HB3) | ((try go_simp); go_at_call 10; (with_reducible refine (rt2_c (HI4.out.below bel) (z0_C (t := 42) (blk2 _ _ _).1 (blk2 _ _ _).2)).mono ?_); rintro e w5 ⟨rfl, hb5⟩; have HI5 := Aside0.mk (HI4.out.below (below_mid bel hb5)); have HB5 : Below w1.heap.size w1 w5 := below_mid HB4 (below_mid bel hb5); clear hb5 HB4) | ((try go_simp); go_at_call 14; (with_reducible refine (sn_c (HI5.out.below bel)).mono ?_); rintro e w6 ⟨rfl, hb6⟩; have HI6 := Aside0.mk (HI5.out.below (below_mid bel hb6)); have HB6 : Below w1.heap.size w1 w6 := below_mid HB5 (below_mid bel hb6); clear hb6 HB5) | ((try go_simp); go_at_call 15; (with_reducible refine (edges_c (HI6.out.below bel)).mono ?_); rintro e w7 ⟨R7, r7, rfl, hb7⟩; have HI7 := Aside0.mk (HI6.out.below (below_mid bel hb7)); have HB7 : Below w1.heap.size w1 w7 := below_mid HB6 (below_mid bel hb7); clear hb7 HB6) | go_simp
  refine hK.out _ _ (by ((try dsimp only); first | exact KP.out _ bel | exact KP.out _ (below_alloc (below_alloc (by assumption) _) _) | exact KP.out _ bel)) (fun hHeld => ?_)
  clear hK K
  (try simp only [Act.put, putx])
  refine tk 12 ?_
  refine tk 13 ?_
  refine tk 14 ?_
  refine tr 15 (fun K hK => ?_)
  first | ((try go_simp); go_at_call 10; (with_reducible refine (rt1_c (HI1.out.below bel) (Kd.C_below HC1.out bel)).mono ?_); rintro e w2 ⟨rfl, hb2⟩; have HC2 := Aside0.mk (Kd.C_below HC1.out (below_mid bel hb2)); have HI2 := Aside0.mk (HI1.out.below (below_mid bel hb2)); have HB2 : Below w1.heap.size w1 w2 := below_mid HB1 (below_mid bel hb2); clear hb2 HB1) | ((try go_simp); go_at_call 11; (with_reducible refine (ov_c (HI2.out.below bel) (Kd.C_below HC2.out bel)).mono ?_); rintro e w3 ⟨rfl, hb3⟩; have HI3 := Aside0.mk (HI2.out.below (below_mid bel hb3)); have HB3 : Below w1.heap.size w1 w3 := below_mid HB2 (below_mid bel hb3); clear hb3 HB2) | ((try go_simp); go_at_call 10; (with_reducible refine (rt0_c (HI3.out.below bel)).mono ?_); rintro e w4 ⟨rfl, hb4⟩; have HI4 := Aside0.mk (HI3.out.below (below_mid bel hb4)); have HB4 : Below w1.heap.size w1 w4 := below_mid HB3 (below_mid bel hb4); clear hb4 HB3) | ((try go_simp); go_at_call 10; (with_reducible refine (rt2_c (HI4.out.below bel) (z0_C (t := 42) (blk2 _ _ _).1 (blk2 _ _ _).2)).mono ?_); rintro e w5 ⟨rfl, hb5⟩; have HI5 := Aside0.mk (HI4.out.below (below_mid bel hb5)); have HB5 : Below w1.heap.size w1 w5 := below_mid HB4 (below_mid bel hb5); clear hb5 HB4) | ((try go_simp); go_at_call 14; (with_reducible refine (sn_c (HI5.out.below bel)).mono ?_); rintro e w6 ⟨rfl, hb6⟩; have HI6 := Aside0.mk (HI5.out.below (below_mid bel hb6)); have HB6 : Below w1.heap.size w1 w6 := below_mid HB5 (below_mid bel hb6); clear hb6 HB5) | ((try go_simp); go_at_call 15; (with_reducible refine (edges_c (HI6.out.below bel)).mono ?_); rintro e w7 ⟨R7, r7, rfl, hb7⟩; have HI7 := Aside0.mk (HI6.out.below (below_mid bel hb7)); have HB7 : Below w1.heap.size w1 w7 := below_mid HB6 (below_mid bel hb7); clear hb7 HB6) | go_simp
  refine hK.out _ _ (by ((try dsimp only); first | exact KP.out _ bel | exact KP.out _ (below_alloc (below_alloc (by assumption) _) _) | exact KP.out _ bel)) (fun hHeld => ?_)
  clear hK K
  (try simp only [Act.put, putx])
  refine tk 16 ?_
  refine tk 17 ?_
  refine tk 18 ?_
  refine tk 19 ?_
  refine tr 20 (fun K hK => ?_)
  go_simp
  refine hK.out _ _ (by ((try dsimp only); first | exact KP.out _ bel | exact KP.out _ (below_alloc (below_alloc (by assumption) _) _) | exact KP.out _ bel)) (fun hHeld => ?_)
  clear hK K
  (try simp only [Act.put, putx])
  refine tr 21 (fun K hK => ?_)
  go_simp
  refine hK.out _ _ (by ((try dsimp only); first | exact KP.out _ bel | exact KP.out _ (below_alloc (below_alloc (by assumption) _) _) | exact KP.out _ bel)) (fun hHeld => ?_)
  clear hK K
  (try simp only [Act.put, putx])
  refine tr 22 (fun K hK => ?_)
  first | ((try go_simp); go_at_call 10; (with_reducible refine (rt1_c (HI1.out.below bel) (Kd.C_below HC1.out bel)).mono ?_); rintro e w2 ⟨rfl, hb2⟩; have HC2 := Aside0.mk (Kd.C_below HC1.out (below_mid bel hb2)); have HI2 := Aside0.mk (HI1.out.below (below_mid bel hb2)); have HB2 : Below w1.heap.size w1 w2 := below_mid HB1 (below_mid bel hb2); clear hb2 HB1) | ((try go_simp); go_at_call 11; (with_reducible refine (ov_c (HI2.out.below bel) (Kd.C_below HC2.out bel)).mono ?_); rintro e w3 ⟨rfl, hb3⟩; have HI3 := Aside0.mk (HI2.out.below (below_mid bel hb3)); have HB3 : Below w1.heap.size w1 w3 := below_mid HB2 (below_mid bel hb3); clear hb3 HB2) | ((try go_simp); go_at_call 10; (with_reducible refine (rt0_c (HI3.out.below bel)).mono ?_); rintro e w4 ⟨rfl, hb4⟩; have HI4 := Aside0.mk (HI3.out.below (below_mid bel hb4)); have HB4 : Below w1.heap.size w1 w4 := below_mid HB3 (below_mid bel hb4); clear hb4 HB3) | ((try go_simp); go_at_call 10; (with_reducible refine (rt2_c (HI4.out.below bel) (z0_C (t := 42) (blk2 _ _ _).1 (blk2 _ _ _).2)).mono ?_); rintro e w5 ⟨rfl, hb5⟩; have HI5 := Aside0.mk (HI4.out.below (below_mid bel hb5)); have HB5 : Below w1.heap.size w1 w5 := below_mid HB4 (below_mid bel hb5); clear hb5 HB4) | ((try go_simp); go_at_call 14; (with_reducible refine (sn_c (HI5.out.below bel)).mono ?_); rintro e w6 ⟨rfl, hb6⟩; have HI6 := Aside0.mk (HI5.out.below (below_mid bel hb6)); have HB6 : Below w1.heap.size w1 w6 := below_mid HB5 (below_mid bel hb6); clear hb6 HB5) | ((try go_simp); go_at_call 15; (with_reducible refine (edges_c (HI6.out.below bel)).mono ?_); rintro e w7 ⟨R7, r7, rfl, hb7⟩; have HI7 := Aside0.mk (HI6.out.below (below_mid bel hb7)); have HB7 : Below w1.heap.size w1 w7 := below_mid HB6 (below_mid bel hb7); clear hb7 HB6) | go_simp
  refine hK.out _ _ (by ((try dsimp only); first | exact KP.out _ bel | exact KP.out _ (below_alloc (below_alloc (by assumption) _) _) | exact KP.out _ bel)) (fun hHeld => ?_)
  clear hK K
  (try simp only [Act.put, putx])
  refine tk 23 ?_
  refine tk 24 ?_
  refine tk 25 ?_
  refine tk 26 ?_
  refine tr 27 (fun K hK => ?_)
  first | ((try go_simp); go_at_call 10; (with_reducible refine (rt1_c (HI1.out.below bel) (Kd.C_below HC1.out bel)).mono ?_); rintro e w2 ⟨rfl, hb2⟩; have HC2 := Aside0.mk (Kd.C_below HC1.out (below_mid bel hb2)); have HI2 := Aside0.mk (HI1.out.below (below_mid bel hb2)); have HB2 : Below w1.heap.size w1 w2 := below_mid HB1 (below_mid bel hb2); clear hb2 HB1) | ((try go_simp); go_at_call 11; (with_reducible refine (ov_c (HI2.out.below bel) (Kd.C_below HC2.out bel)).mono ?_); rintro e w3 ⟨rfl, hb3⟩; have HI3 := Aside0.mk (HI2.out.below (below_mid bel hb3)); have HB3 : Below w1.heap.size w1 w3 := below_mid HB2 (below_mid bel hb3); clear hb3 HB2) | ((try go_simp); go_at_call 10; (with_reducible refine (rt0_c (HI3.out.below bel)).mono ?_); rintro e w4 ⟨rfl, hb4⟩; have HI4 := Aside0.mk (HI3.out.below (below_mid bel hb4)); have HB4 : Below w1.heap.size w1 w4 := below_mid HB3 (below_mid bel hb4); clear hb4 HB3) | ((try go_simp); go_at_call 10; (with_reducible refine (rt2_c (HI4.out.below bel) (z0_C (t := 42) (blk2 _ _ _).1 (blk2 _ _ _).2)).mono ?_); rintro e w5 ⟨rfl, hb5⟩; have HI5 := Aside0.mk (HI4.out.below (below_mid bel hb5)); have HB5 : Below w1.heap.size w1 w5 := below_mid HB4 (below_mid bel hb5); clear hb5 HB4) | ((try go_simp); go_at_call 14; (with_reducible refine (sn_c (HI5.out.below bel)).mono ?_); rintro e w6 ⟨rfl, hb6⟩; have HI6 := Aside0.mk (HI5.out.below (below_mid bel hb6)); have HB6 : Below w1.heap.size w1 w6 := below_mid HB5 (below_mid bel hb6); clear hb6 HB5) | ((try go_simp); go_at_call 15; (with_reducible refine (edges_c (HI6.out.below bel)).mono ?_); rintro e w7 ⟨R7, r7, rfl, hb7⟩; have HI7 := Aside0.mk (HI6.out.below (below_mid bel hb7)); have HB7 : Below w1.heap.size w1 w7 := below_mid HB6 (below_mid bel hb7); clear hb7 HB6) | go_simp
  refine hK.out _ _ (by ((try dsimp only); first | exact KP.out _ bel | exact KP.out _ (below_alloc (below_alloc (by assumption) _) _) | exact KP.out _ bel)) (fun hHeld => ?_)
  clear hK K
  (try simp only [Act.put, putx])
  refine tk 28 ?_
  refine tk 29 ?_
  refine tk 30 ?_
  refine tk 31 ?_
  refine tr 32 (fun K hK => ?_)
  first | ((try go_simp); go_at_call 10; (with_reducible refine (rt1_c (HI1.out.below bel) (Kd.C_below HC1.out bel)).mono ?_); rintro e w2 ⟨rfl, hb2⟩; have HC2 := Aside0.mk (Kd.C_below HC1.out (below_mid bel hb2)); have HI2 := Aside0.mk (HI1.out.below (below_mid bel hb2)); have HB2 : Below w1.heap.size w1 w2 := below_mid HB1 (below_mid bel hb2); clear hb2 HB1) | ((try go_simp); go_at_call 11; (with_reducible refine (ov_c (HI2.out.below bel) (Kd.C_below HC2.out bel)).mono ?_); rintro e w3 ⟨rfl, hb3⟩; have HI3 := Aside0.mk (HI2.out.below (below_mid bel hb3)); have HB3 : Below w1.heap.size w1 w3 := below_mid HB2 (below_mid bel hb3); clear hb3 HB2) | ((try go_simp); go_at_call 10; (with_reducible refine (rt0_c (HI3.out.below bel)).mono ?_); rintro e w4 ⟨rfl, hb4⟩; have HI4 := Aside0.mk (HI3.out.below (below_mid bel hb4)); have HB4 : Below w1.heap.size w1 w4 := below_mid HB3 (below_mid bel hb4); clear hb4 HB3) | ((try go_simp); go_at_call 10; (with_reducible refine (rt2_c (HI4.out.below bel) (z0_C (t := 42) (blk2 _ _ _).1 (blk2 _ _ _).2)).mono ?_); rintro e w5 ⟨rfl, hb5⟩; have HI5 := Aside0.mk (HI4.out.below (below_mid bel hb5)); have HB5 : Below w1.heap.size w1 w5 := below_mid HB4 (below_mid bel hb5); clear hb5 HB4) | ((try go_simp); go_at_call 14; (with_reducible refine (sn_c (HI5.out.below bel)).mono ?_); rintro e w6 ⟨rfl, hb6⟩; have HI6 := Aside0.mk (HI5.out.below (below_mid bel hb6)); have HB6 : Below w1.heap.size w1 w6 := below_mid HB5 (below_mid bel hb6); clear hb6 HB5) | ((try go_simp); go_at_call 15; (with_reducible refine (edges_c (HI6.out.below bel)).mono ?_); rintro e w7 ⟨R7, r7, rfl, hb7⟩; have HI7 := Aside0.mk (HI6.out.below (below_mid bel hb7)); have HB7 : Below w1.heap.size w1 w7 := below_mid HB6 (below_mid bel hb7); clear hb7 HB6) | go_simp
  refine hK.out _ _ (by ((try dsimp only); first | exact KP.out _ bel | exact KP.out _ (below_alloc (below_alloc (by assumption) _) _) | exact KP.out _ bel)) (fun hHeld => ?_)
  clear hK K
  (try simp only [Act.put, putx])
  refine tk 33 ?_
  refine tk 34 ?_
  refine tk 35 ?_
  refine tk 36 ?_
  refine wpAnyH_done (by kernel_rfl) ?_ _
  refine NoPanic.normal ?_
  go_wp2_with fail
  go_ret
  exact ⟨rfl, below_mid HBW.out (by first | assumption | exact bel)⟩
end Go.Proofs.Ytcfbhobpfnlkpaa.Flow
