/- The walk of the reference's rule. -/
import Derived.Test.YtoiahldbahdaoaaFlowFR
namespace Go.Proofs.Ytoiahldbahdaoaa.Flow
open Go.RowKit Go.Proofs.Ytoiahldbahdaoaa.QFlowSteps Go.Proofs.YtoiahldbahdaoaaW.PrintWords Go.Proofs.YtoiahldbahdaoaaW.PrintLast Go.Proofs.Ytoiahldbahdaoaa.Chain
set_option linter.unusedVariables false
set_option linter.unusedSimpArgs false
set_option maxHeartbeats 16000000 in
set_option maxRecDepth 100000 in
theorem rule_calls (a : IA) (m : Im) (f op A B : Int) (w : World) (hm : IC w a m) (hs : SaneP m) (hf0 : 0 ≤ f) (hf1 : f < (m.m.length : Int)) (hA : 0 ≤ A) (hA1 : A ≤ 255) (hB : 0 ≤ B) (hB1 : B ≤ 255) (hn : namedB m (rd_T41 m.m f) op A B = true) :
    Calls Try.prog 14 #[.agg #[.slice a.A0 m.c.length a.c0, .slice a.A1 m.s.length a.c1, .slice a.A2 m.n.length a.c2, .slice a.A3 m.m.length a.c3, .slice a.A4 m.e.length a.c4, .int .i64 m.sk, .int .i64 m.hp], .int .i64 f, .agg #[.int .i64 op, .int .i64 A, .int .i64 B]] w fun e w' => ∃ va vo, e = .returned (.tuple #[va, vo]) ∧ RowT w' 0 va (ofV m (rd_T41 m.m f) op A B).1 ∧ RowT w' 0 vo (ofV m (rd_T41 m.m f) op A B).2 ∧ Below w.heap.size w w' := by
  obtain ⟨A0, A1, A2, A3, A4, c0, c1, c2, c3, c4⟩ := a
  obtain ⟨ae, F0, g0, F1, g1, F4, g4, F7, g7, hA3, y0, y1, y2, y3, y4, y5, y6, y7, z0, z1, z2, z3, z4, z5, z6, z7⟩ := at_T41 (show Kd.C k41 w A3 m.m.length m.m from hm.h3) f hf0 hf1
  subst hA3
  obtain ⟨x, hx⟩ : ∃ x, rd_T41 m.m f = x := ⟨_, rfl⟩
  have hxm : x ∈ m.m := by rw [← hx]; exact rdM_mem hf0 hf1
  rw [hx] at y0 y1 y2 y3 y4 y5 y6 y7 z0 z1 z2 z3 z4 z5 z6 z7 hn ⊢
  have HP := Aside0.mk (hs.metP hxm)
  have HM := Aside0.mk hm
  have HS := Aside0.mk hs
  have HN := Aside0.mk hn
  clear hm hs hn hx hxm
  obtain ⟨f0, f1, ⟨t0, t1⟩, f3, f4, f5, f6⟩ := x
  dsimp only at y0 y1 y2 y3 y4 y5 y6 y7 z0 z1 z2 z3 z4 z5 z6 z7
  have HX := Aside0.mk (show MC w ⟨F0, F1, F4, F7, g0, g1, g4, g7⟩ ⟨f0, f1, ⟨t0, t1⟩, f3, f4, f5, f6⟩ from ⟨z1, z3, z5, z7, z0, z2, z4, z6⟩)
  have Y0 := Aside0.mk y0
  have Y1 := Aside0.mk y1
  have Y2 := Aside0.mk y2
  have Y3 := Aside0.mk y3
  have Y4 := Aside0.mk y4
  have Y5 := Aside0.mk y5
  have Y6 := Aside0.mk y6
  have Y7 := Aside0.mk y7
  clear z0 z1 z2 z3 z4 z5 z6 z7 y0 y1 y2 y3 y4 y5 y6 y7
  by_cases hop : op = 1
  · subst hop
    have e : ofV m ⟨f0, f1, ⟨t0, t1⟩, f3, f4, f5, f6⟩ 1 A B = ([], [tN]) := by simp [ofV, plainB, plainV]
    rw [e]
    clear e
    go_enter Try.func14, Try.ntmps14
    go_wp2_with fail
    refine see (F := fun w0_ => Below w.heap.size w w0_ ∧ w0_.cell? ⟨w.heap.size + 1 + 1, 0, none⟩ = some (.int .i64 1) ∧ w0_.cell? ⟨w.heap.size + 1 + 1, 1, none⟩ = some (.int .i64 0)) _ ⟨bel, (blk_cell (heap_k w [(.cells #[.slice A0 m.c.length c0, .slice A1 m.s.length c1, .slice A2 m.n.length c2, .slice (some ae) m.m.length c3, .slice A4 m.e.length c4, .int .i64 m.sk, .int .i64 m.hp] 28), (.cells #[.int .i64 1, .int .i64 A, .int .i64 B] 44), (.cells #[.int .i64 1, .int .i64 0] 38), (.cells #[.int .i64 2, .int .i64 0] 38), (.cells #[.int .i64 4, .int .i64 0] 38), (.cells #[.int .i64 0, .int .i64 0] 38), (.cells #[.int .i64 3, .int .i64 A] 38)] 2 (by simp)) 0).trans rfl, (blk_cell (heap_k w [(.cells #[.slice A0 m.c.length c0, .slice A1 m.s.length c1, .slice A2 m.n.length c2, .slice (some ae) m.m.length c3, .slice A4 m.e.length c4, .int .i64 m.sk, .int .i64 m.hp] 28), (.cells #[.int .i64 1, .int .i64 A, .int .i64 B] 44), (.cells #[.int .i64 1, .int .i64 0] 38), (.cells #[.int .i64 2, .int .i64 0] 38), (.cells #[.int .i64 4, .int .i64 0] 38), (.cells #[.int .i64 0, .int .i64 0] 38), (.cells #[.int .i64 3, .int .i64 A] 38)] 2 (by simp)) 1).trans rfl⟩ ?_
    rintro w0 ⟨hb0_, hq1_, hq2_⟩
    replace hb0_ := Aside0.mk hb0_
    replace hq1_ := Aside0.mk hq1_
    replace hq2_ := Aside0.mk hq2_
    have KP := Aside0.mk (show ∀ w', Below w0.heap.size w0 w' → (w'.cell? ⟨w.heap.size + 1 + 1, 0, none⟩ = some (.int .i64 1) ∧ w'.cell? ⟨w.heap.size + 1 + 1, 1, none⟩ = some (.int .i64 0)) from fun w' h => ⟨keepc h hq1_.out, keepc h hq2_.out⟩)
    go_region_held3 (fun w' => w'.cell? ⟨w.heap.size + 1 + 1, 0, none⟩ = some (.int .i64 1) ∧ w'.cell? ⟨w.heap.size + 1 + 1, 1, none⟩ = some (.int .i64 0)) (((try dsimp only); first | exact KP.out _ (by assumption) | exact KP.out _ (Below.drew (Below.refl _ _)) | exact KP.out _ (below_alloc (by assumption) _) | exact KP.out _ (below_alloc (Below.refl _ _) _) | exact KP.out _ (below_alloc (below_alloc (Below.refl _ _) _) _) | exact KP.out _ (below_drew (below_alloc (Below.refl _ _) _)) | exact KP.out _ (below_drew (below_alloc (below_alloc (Below.refl _ _) _) _)) | exact KP.out _ (below_drew (below_alloc (by assumption) _)))) (first | fail)
    all_goals
      go_wp2_with fail
      refine bodyPost_ret (results_tmp2 rfl _ _ _) rfl ?_
      refine ⟨_, _, rfl, ?_, ?_, (below_step hb0_.out bel)⟩
      · exact RowT.nil _ _
      · refine RowT.blk (xs := [tN]) ?_ (by simp) (Nat.zero_le _)
        first | exact blk_drew (blk_alloc (heap_alloc_at _ _ _ (by simp)) _) | exact blk_drew (heap_alloc_at _ _ _ (by simp)) | exact blk_alloc (heap_alloc_at _ _ _ (by simp)) _ | exact heap_alloc_at _ _ _ (by simp) | exact blk_below (blk_drew (heap_alloc_new w0 _)) HBB5 | exact blk_below (blk_drew (heap_alloc_new w0 _)) HBB4
  have d1 : (op == 1) = false := by simpa using hop
  by_cases hop : op = 2
  · subst hop
    have e : ofV m ⟨f0, f1, ⟨t0, t1⟩, f3, f4, f5, f6⟩ 2 A B = ([], [tR]) := by simp [ofV, plainB, plainV]
    rw [e]
    clear e
    go_enter Try.func14, Try.ntmps14
    go_wp2_with fail
    refine see (F := fun w0_ => Below w.heap.size w w0_ ∧ w0_.cell? ⟨w.heap.size + 1 + 1 + 1 + 1, 0, none⟩ = some (.int .i64 4) ∧ w0_.cell? ⟨w.heap.size + 1 + 1 + 1 + 1, 1, none⟩ = some (.int .i64 0)) _ ⟨bel, (blk_cell (heap_k w [(.cells #[.slice A0 m.c.length c0, .slice A1 m.s.length c1, .slice A2 m.n.length c2, .slice (some ae) m.m.length c3, .slice A4 m.e.length c4, .int .i64 m.sk, .int .i64 m.hp] 28), (.cells #[.int .i64 2, .int .i64 A, .int .i64 B] 44), (.cells #[.int .i64 1, .int .i64 0] 38), (.cells #[.int .i64 2, .int .i64 0] 38), (.cells #[.int .i64 4, .int .i64 0] 38), (.cells #[.int .i64 0, .int .i64 0] 38), (.cells #[.int .i64 3, .int .i64 A] 38)] 4 (by simp)) 0).trans rfl, (blk_cell (heap_k w [(.cells #[.slice A0 m.c.length c0, .slice A1 m.s.length c1, .slice A2 m.n.length c2, .slice (some ae) m.m.length c3, .slice A4 m.e.length c4, .int .i64 m.sk, .int .i64 m.hp] 28), (.cells #[.int .i64 2, .int .i64 A, .int .i64 B] 44), (.cells #[.int .i64 1, .int .i64 0] 38), (.cells #[.int .i64 2, .int .i64 0] 38), (.cells #[.int .i64 4, .int .i64 0] 38), (.cells #[.int .i64 0, .int .i64 0] 38), (.cells #[.int .i64 3, .int .i64 A] 38)] 4 (by simp)) 1).trans rfl⟩ ?_
    rintro w0 ⟨hb0_, hq1_, hq2_⟩
    replace hb0_ := Aside0.mk hb0_
    replace hq1_ := Aside0.mk hq1_
    replace hq2_ := Aside0.mk hq2_
    have KP := Aside0.mk (show ∀ w', Below w0.heap.size w0 w' → (w'.cell? ⟨w.heap.size + 1 + 1 + 1 + 1, 0, none⟩ = some (.int .i64 4) ∧ w'.cell? ⟨w.heap.size + 1 + 1 + 1 + 1, 1, none⟩ = some (.int .i64 0)) from fun w' h => ⟨keepc h hq1_.out, keepc h hq2_.out⟩)
    go_region_held3 (fun w' => w'.cell? ⟨w.heap.size + 1 + 1 + 1 + 1, 0, none⟩ = some (.int .i64 4) ∧ w'.cell? ⟨w.heap.size + 1 + 1 + 1 + 1, 1, none⟩ = some (.int .i64 0)) (((try dsimp only); first | exact KP.out _ (by assumption) | exact KP.out _ (Below.drew (Below.refl _ _)) | exact KP.out _ (below_alloc (by assumption) _) | exact KP.out _ (below_alloc (Below.refl _ _) _) | exact KP.out _ (below_alloc (below_alloc (Below.refl _ _) _) _) | exact KP.out _ (below_drew (below_alloc (Below.refl _ _) _)) | exact KP.out _ (below_drew (below_alloc (below_alloc (Below.refl _ _) _) _)) | exact KP.out _ (below_drew (below_alloc (by assumption) _)))) (first | fail)
    all_goals
      go_wp2_with fail
      refine bodyPost_ret (results_tmp2 rfl _ _ _) rfl ?_
      refine ⟨_, _, rfl, ?_, ?_, (below_step hb0_.out bel)⟩
      · exact RowT.nil _ _
      · refine RowT.blk (xs := [tR]) ?_ (by simp) (Nat.zero_le _)
        first | exact blk_drew (blk_alloc (heap_alloc_at _ _ _ (by simp)) _) | exact blk_drew (heap_alloc_at _ _ _ (by simp)) | exact blk_alloc (heap_alloc_at _ _ _ (by simp)) _ | exact heap_alloc_at _ _ _ (by simp) | exact blk_below (blk_drew (heap_alloc_new w0 _)) HBB5 | exact blk_below (blk_drew (heap_alloc_new w0 _)) HBB4
  have d2 : (op == 2) = false := by simpa using hop
  by_cases hop : op = 20
  · subst hop
    have e : ofV m ⟨f0, f1, ⟨t0, t1⟩, f3, f4, f5, f6⟩ 20 A B = ([tR], [tN]) := by simp [ofV, plainB, plainV]
    rw [e]
    clear e
    go_enter Try.func14, Try.ntmps14
    go_wp2_with fail
    refine see (F := fun w0_ => Below w.heap.size w w0_ ∧ w0_.cell? ⟨w.heap.size + 1 + 1 + 1 + 1, 0, none⟩ = some (.int .i64 4) ∧ w0_.cell? ⟨w.heap.size + 1 + 1 + 1 + 1, 1, none⟩ = some (.int .i64 0) ∧ w0_.cell? ⟨w.heap.size + 1 + 1, 0, none⟩ = some (.int .i64 1) ∧ w0_.cell? ⟨w.heap.size + 1 + 1, 1, none⟩ = some (.int .i64 0)) _ ⟨bel, (blk_cell (heap_k w [(.cells #[.slice A0 m.c.length c0, .slice A1 m.s.length c1, .slice A2 m.n.length c2, .slice (some ae) m.m.length c3, .slice A4 m.e.length c4, .int .i64 m.sk, .int .i64 m.hp] 28), (.cells #[.int .i64 20, .int .i64 A, .int .i64 B] 44), (.cells #[.int .i64 1, .int .i64 0] 38), (.cells #[.int .i64 2, .int .i64 0] 38), (.cells #[.int .i64 4, .int .i64 0] 38), (.cells #[.int .i64 0, .int .i64 0] 38), (.cells #[.int .i64 3, .int .i64 A] 38)] 4 (by simp)) 0).trans rfl, (blk_cell (heap_k w [(.cells #[.slice A0 m.c.length c0, .slice A1 m.s.length c1, .slice A2 m.n.length c2, .slice (some ae) m.m.length c3, .slice A4 m.e.length c4, .int .i64 m.sk, .int .i64 m.hp] 28), (.cells #[.int .i64 20, .int .i64 A, .int .i64 B] 44), (.cells #[.int .i64 1, .int .i64 0] 38), (.cells #[.int .i64 2, .int .i64 0] 38), (.cells #[.int .i64 4, .int .i64 0] 38), (.cells #[.int .i64 0, .int .i64 0] 38), (.cells #[.int .i64 3, .int .i64 A] 38)] 4 (by simp)) 1).trans rfl, (blk_cell (heap_k w [(.cells #[.slice A0 m.c.length c0, .slice A1 m.s.length c1, .slice A2 m.n.length c2, .slice (some ae) m.m.length c3, .slice A4 m.e.length c4, .int .i64 m.sk, .int .i64 m.hp] 28), (.cells #[.int .i64 20, .int .i64 A, .int .i64 B] 44), (.cells #[.int .i64 1, .int .i64 0] 38), (.cells #[.int .i64 2, .int .i64 0] 38), (.cells #[.int .i64 4, .int .i64 0] 38), (.cells #[.int .i64 0, .int .i64 0] 38), (.cells #[.int .i64 3, .int .i64 A] 38)] 2 (by simp)) 0).trans rfl, (blk_cell (heap_k w [(.cells #[.slice A0 m.c.length c0, .slice A1 m.s.length c1, .slice A2 m.n.length c2, .slice (some ae) m.m.length c3, .slice A4 m.e.length c4, .int .i64 m.sk, .int .i64 m.hp] 28), (.cells #[.int .i64 20, .int .i64 A, .int .i64 B] 44), (.cells #[.int .i64 1, .int .i64 0] 38), (.cells #[.int .i64 2, .int .i64 0] 38), (.cells #[.int .i64 4, .int .i64 0] 38), (.cells #[.int .i64 0, .int .i64 0] 38), (.cells #[.int .i64 3, .int .i64 A] 38)] 2 (by simp)) 1).trans rfl⟩ ?_
    rintro w0 ⟨hb0_, hq1_, hq2_, hq3_, hq4_⟩
    replace hb0_ := Aside0.mk hb0_
    replace hq1_ := Aside0.mk hq1_
    replace hq2_ := Aside0.mk hq2_
    replace hq3_ := Aside0.mk hq3_
    replace hq4_ := Aside0.mk hq4_
    have KP := Aside0.mk (show ∀ w', Below w0.heap.size w0 w' → (w'.cell? ⟨w.heap.size + 1 + 1 + 1 + 1, 0, none⟩ = some (.int .i64 4) ∧ w'.cell? ⟨w.heap.size + 1 + 1 + 1 + 1, 1, none⟩ = some (.int .i64 0) ∧ w'.cell? ⟨w.heap.size + 1 + 1, 0, none⟩ = some (.int .i64 1) ∧ w'.cell? ⟨w.heap.size + 1 + 1, 1, none⟩ = some (.int .i64 0)) from fun w' h => ⟨keepc h hq1_.out, keepc h hq2_.out, keepc h hq3_.out, keepc h hq4_.out⟩)
    go_region_held3 (fun w' => w'.cell? ⟨w.heap.size + 1 + 1 + 1 + 1, 0, none⟩ = some (.int .i64 4) ∧ w'.cell? ⟨w.heap.size + 1 + 1 + 1 + 1, 1, none⟩ = some (.int .i64 0) ∧ w'.cell? ⟨w.heap.size + 1 + 1, 0, none⟩ = some (.int .i64 1) ∧ w'.cell? ⟨w.heap.size + 1 + 1, 1, none⟩ = some (.int .i64 0)) (((try dsimp only); first | exact KP.out _ (by assumption) | exact KP.out _ (Below.drew (Below.refl _ _)) | exact KP.out _ (below_alloc (by assumption) _) | exact KP.out _ (below_alloc (Below.refl _ _) _) | exact KP.out _ (below_alloc (below_alloc (Below.refl _ _) _) _) | exact KP.out _ (below_drew (below_alloc (Below.refl _ _) _)) | exact KP.out _ (below_drew (below_alloc (below_alloc (Below.refl _ _) _) _)) | exact KP.out _ (below_drew (below_alloc (by assumption) _)))) (first | fail)
    all_goals
      go_wp2_with fail
      refine bodyPost_ret (results_tmp2 rfl _ _ _) rfl ?_
      refine ⟨_, _, rfl, ?_, ?_, (below_step hb0_.out bel)⟩
      · refine RowT.blk (xs := [tR]) ?_ (by simp) (Nat.zero_le _)
        first | exact blk_drew (blk_alloc (heap_alloc_at _ _ _ (by simp)) _) | exact blk_drew (heap_alloc_at _ _ _ (by simp)) | exact blk_alloc (heap_alloc_at _ _ _ (by simp)) _ | exact heap_alloc_at _ _ _ (by simp) | exact blk_below (blk_drew (heap_alloc_new w0 _)) HBB5 | exact blk_below (blk_drew (heap_alloc_new w0 _)) HBB4
      · refine RowT.blk (xs := [tN]) ?_ (by simp) (Nat.zero_le _)
        first | exact blk_drew (blk_alloc (heap_alloc_at _ _ _ (by simp)) _) | exact blk_drew (heap_alloc_at _ _ _ (by simp)) | exact blk_alloc (heap_alloc_at _ _ _ (by simp)) _ | exact heap_alloc_at _ _ _ (by simp) | exact blk_below (blk_drew (heap_alloc_new w0 _)) HBB5 | exact blk_below (blk_drew (heap_alloc_new w0 _)) HBB4
  have d20 : (op == 20) = false := by simpa using hop
  by_cases hop : op = 21
  · subst hop
    have e : ofV m ⟨f0, f1, ⟨t0, t1⟩, f3, f4, f5, f6⟩ 21 A B = ([tR, tR], [tN]) := by simp [ofV, plainB, plainV]
    rw [e]
    clear e
    go_enter Try.func14, Try.ntmps14
    go_wp2_with fail
    refine see (F := fun w0_ => Below w.heap.size w w0_ ∧ w0_.cell? ⟨w.heap.size + 1 + 1 + 1 + 1, 0, none⟩ = some (.int .i64 4) ∧ w0_.cell? ⟨w.heap.size + 1 + 1 + 1 + 1, 1, none⟩ = some (.int .i64 0) ∧ w0_.cell? ⟨w.heap.size + 1 + 1, 0, none⟩ = some (.int .i64 1) ∧ w0_.cell? ⟨w.heap.size + 1 + 1, 1, none⟩ = some (.int .i64 0)) _ ⟨bel, (blk_cell (heap_k w [(.cells #[.slice A0 m.c.length c0, .slice A1 m.s.length c1, .slice A2 m.n.length c2, .slice (some ae) m.m.length c3, .slice A4 m.e.length c4, .int .i64 m.sk, .int .i64 m.hp] 28), (.cells #[.int .i64 21, .int .i64 A, .int .i64 B] 44), (.cells #[.int .i64 1, .int .i64 0] 38), (.cells #[.int .i64 2, .int .i64 0] 38), (.cells #[.int .i64 4, .int .i64 0] 38), (.cells #[.int .i64 0, .int .i64 0] 38), (.cells #[.int .i64 3, .int .i64 A] 38)] 4 (by simp)) 0).trans rfl, (blk_cell (heap_k w [(.cells #[.slice A0 m.c.length c0, .slice A1 m.s.length c1, .slice A2 m.n.length c2, .slice (some ae) m.m.length c3, .slice A4 m.e.length c4, .int .i64 m.sk, .int .i64 m.hp] 28), (.cells #[.int .i64 21, .int .i64 A, .int .i64 B] 44), (.cells #[.int .i64 1, .int .i64 0] 38), (.cells #[.int .i64 2, .int .i64 0] 38), (.cells #[.int .i64 4, .int .i64 0] 38), (.cells #[.int .i64 0, .int .i64 0] 38), (.cells #[.int .i64 3, .int .i64 A] 38)] 4 (by simp)) 1).trans rfl, (blk_cell (heap_k w [(.cells #[.slice A0 m.c.length c0, .slice A1 m.s.length c1, .slice A2 m.n.length c2, .slice (some ae) m.m.length c3, .slice A4 m.e.length c4, .int .i64 m.sk, .int .i64 m.hp] 28), (.cells #[.int .i64 21, .int .i64 A, .int .i64 B] 44), (.cells #[.int .i64 1, .int .i64 0] 38), (.cells #[.int .i64 2, .int .i64 0] 38), (.cells #[.int .i64 4, .int .i64 0] 38), (.cells #[.int .i64 0, .int .i64 0] 38), (.cells #[.int .i64 3, .int .i64 A] 38)] 2 (by simp)) 0).trans rfl, (blk_cell (heap_k w [(.cells #[.slice A0 m.c.length c0, .slice A1 m.s.length c1, .slice A2 m.n.length c2, .slice (some ae) m.m.length c3, .slice A4 m.e.length c4, .int .i64 m.sk, .int .i64 m.hp] 28), (.cells #[.int .i64 21, .int .i64 A, .int .i64 B] 44), (.cells #[.int .i64 1, .int .i64 0] 38), (.cells #[.int .i64 2, .int .i64 0] 38), (.cells #[.int .i64 4, .int .i64 0] 38), (.cells #[.int .i64 0, .int .i64 0] 38), (.cells #[.int .i64 3, .int .i64 A] 38)] 2 (by simp)) 1).trans rfl⟩ ?_
    rintro w0 ⟨hb0_, hq1_, hq2_, hq3_, hq4_⟩
    replace hb0_ := Aside0.mk hb0_
    replace hq1_ := Aside0.mk hq1_
    replace hq2_ := Aside0.mk hq2_
    replace hq3_ := Aside0.mk hq3_
    replace hq4_ := Aside0.mk hq4_
    have KP := Aside0.mk (show ∀ w', Below w0.heap.size w0 w' → (w'.cell? ⟨w.heap.size + 1 + 1 + 1 + 1, 0, none⟩ = some (.int .i64 4) ∧ w'.cell? ⟨w.heap.size + 1 + 1 + 1 + 1, 1, none⟩ = some (.int .i64 0) ∧ w'.cell? ⟨w.heap.size + 1 + 1, 0, none⟩ = some (.int .i64 1) ∧ w'.cell? ⟨w.heap.size + 1 + 1, 1, none⟩ = some (.int .i64 0)) from fun w' h => ⟨keepc h hq1_.out, keepc h hq2_.out, keepc h hq3_.out, keepc h hq4_.out⟩)
    go_region_held3 (fun w' => w'.cell? ⟨w.heap.size + 1 + 1 + 1 + 1, 0, none⟩ = some (.int .i64 4) ∧ w'.cell? ⟨w.heap.size + 1 + 1 + 1 + 1, 1, none⟩ = some (.int .i64 0) ∧ w'.cell? ⟨w.heap.size + 1 + 1, 0, none⟩ = some (.int .i64 1) ∧ w'.cell? ⟨w.heap.size + 1 + 1, 1, none⟩ = some (.int .i64 0)) (((try dsimp only); first | exact KP.out _ (by assumption) | exact KP.out _ (Below.drew (Below.refl _ _)) | exact KP.out _ (below_alloc (by assumption) _) | exact KP.out _ (below_alloc (Below.refl _ _) _) | exact KP.out _ (below_alloc (below_alloc (Below.refl _ _) _) _) | exact KP.out _ (below_drew (below_alloc (Below.refl _ _) _)) | exact KP.out _ (below_drew (below_alloc (below_alloc (Below.refl _ _) _) _)) | exact KP.out _ (below_drew (below_alloc (by assumption) _)))) (first | fail)
    all_goals
      go_wp2_with fail
      refine bodyPost_ret (results_tmp2 rfl _ _ _) rfl ?_
      refine ⟨_, _, rfl, ?_, ?_, (below_step hb0_.out bel)⟩
      · refine RowT.blk (xs := [tR, tR]) ?_ (by simp) (Nat.zero_le _)
        first | exact blk_drew (blk_alloc (heap_alloc_at _ _ _ (by simp)) _) | exact blk_drew (heap_alloc_at _ _ _ (by simp)) | exact blk_alloc (heap_alloc_at _ _ _ (by simp)) _ | exact heap_alloc_at _ _ _ (by simp) | exact blk_below (blk_drew (heap_alloc_new w0 _)) HBB5 | exact blk_below (blk_drew (heap_alloc_new w0 _)) HBB4
      · refine RowT.blk (xs := [tN]) ?_ (by simp) (Nat.zero_le _)
        first | exact blk_drew (blk_alloc (heap_alloc_at _ _ _ (by simp)) _) | exact blk_drew (heap_alloc_at _ _ _ (by simp)) | exact blk_alloc (heap_alloc_at _ _ _ (by simp)) _ | exact heap_alloc_at _ _ _ (by simp) | exact blk_below (blk_drew (heap_alloc_new w0 _)) HBB5 | exact blk_below (blk_drew (heap_alloc_new w0 _)) HBB4
  have d21 : (op == 21) = false := by simpa using hop
  by_cases hop : op = 22
  · subst hop
    have e : ofV m ⟨f0, f1, ⟨t0, t1⟩, f3, f4, f5, f6⟩ 22 A B = ([], [tO A]) := by simp [ofV, plainB, plainV]
    rw [e]
    clear e
    go_enter Try.func14, Try.ntmps14
    go_wp2_with fail
    refine see (F := fun w0_ => Below w.heap.size w w0_ ∧ w0_.cell? ⟨w.heap.size + 1 + 1 + 1 + 1 + 1 + 1, 0, none⟩ = some (.int .i64 3) ∧ w0_.cell? ⟨w.heap.size + 1 + 1 + 1 + 1 + 1 + 1, 1, none⟩ = some (.int .i64 A)) _ ⟨bel, (blk_cell (heap_k w [(.cells #[.slice A0 m.c.length c0, .slice A1 m.s.length c1, .slice A2 m.n.length c2, .slice (some ae) m.m.length c3, .slice A4 m.e.length c4, .int .i64 m.sk, .int .i64 m.hp] 28), (.cells #[.int .i64 22, .int .i64 A, .int .i64 B] 44), (.cells #[.int .i64 1, .int .i64 0] 38), (.cells #[.int .i64 2, .int .i64 0] 38), (.cells #[.int .i64 4, .int .i64 0] 38), (.cells #[.int .i64 0, .int .i64 0] 38), (.cells #[.int .i64 3, .int .i64 A] 38)] 6 (by simp)) 0).trans rfl, (blk_cell (heap_k w [(.cells #[.slice A0 m.c.length c0, .slice A1 m.s.length c1, .slice A2 m.n.length c2, .slice (some ae) m.m.length c3, .slice A4 m.e.length c4, .int .i64 m.sk, .int .i64 m.hp] 28), (.cells #[.int .i64 22, .int .i64 A, .int .i64 B] 44), (.cells #[.int .i64 1, .int .i64 0] 38), (.cells #[.int .i64 2, .int .i64 0] 38), (.cells #[.int .i64 4, .int .i64 0] 38), (.cells #[.int .i64 0, .int .i64 0] 38), (.cells #[.int .i64 3, .int .i64 A] 38)] 6 (by simp)) 1).trans rfl⟩ ?_
    rintro w0 ⟨hb0_, hq1_, hq2_⟩
    replace hb0_ := Aside0.mk hb0_
    replace hq1_ := Aside0.mk hq1_
    replace hq2_ := Aside0.mk hq2_
    have KP := Aside0.mk (show ∀ w', Below w0.heap.size w0 w' → (w'.cell? ⟨w.heap.size + 1 + 1 + 1 + 1 + 1 + 1, 0, none⟩ = some (.int .i64 3) ∧ w'.cell? ⟨w.heap.size + 1 + 1 + 1 + 1 + 1 + 1, 1, none⟩ = some (.int .i64 A)) from fun w' h => ⟨keepc h hq1_.out, keepc h hq2_.out⟩)
    go_region_held3 (fun w' => w'.cell? ⟨w.heap.size + 1 + 1 + 1 + 1 + 1 + 1, 0, none⟩ = some (.int .i64 3) ∧ w'.cell? ⟨w.heap.size + 1 + 1 + 1 + 1 + 1 + 1, 1, none⟩ = some (.int .i64 A)) (((try dsimp only); first | exact KP.out _ (by assumption) | exact KP.out _ (Below.drew (Below.refl _ _)) | exact KP.out _ (below_alloc (by assumption) _) | exact KP.out _ (below_alloc (Below.refl _ _) _) | exact KP.out _ (below_alloc (below_alloc (Below.refl _ _) _) _) | exact KP.out _ (below_drew (below_alloc (Below.refl _ _) _)) | exact KP.out _ (below_drew (below_alloc (below_alloc (Below.refl _ _) _) _)) | exact KP.out _ (below_drew (below_alloc (by assumption) _)))) (first | fail)
    all_goals
      go_wp2_with fail
      refine bodyPost_ret (results_tmp2 rfl _ _ _) rfl ?_
      refine ⟨_, _, rfl, ?_, ?_, (below_step hb0_.out bel)⟩
      · exact RowT.nil _ _
      · refine RowT.blk (xs := [tO A]) ?_ (by simp) (Nat.zero_le _)
        first | exact blk_drew (blk_alloc (heap_alloc_at _ _ _ (by simp)) _) | exact blk_drew (heap_alloc_at _ _ _ (by simp)) | exact blk_alloc (heap_alloc_at _ _ _ (by simp)) _ | exact heap_alloc_at _ _ _ (by simp) | exact blk_below (blk_drew (heap_alloc_new w0 _)) HBB5 | exact blk_below (blk_drew (heap_alloc_new w0 _)) HBB4
  have d22 : (op == 22) = false := by simpa using hop
  by_cases hop : op = 23
  · subst hop
    have e : ofV m ⟨f0, f1, ⟨t0, t1⟩, f3, f4, f5, f6⟩ 23 A B = ([tN], [tA]) := by simp [ofV, plainB, plainV]
    rw [e]
    clear e
    go_enter Try.func14, Try.ntmps14
    go_wp2_with fail
    refine see (F := fun w0_ => Below w.heap.size w w0_ ∧ w0_.cell? ⟨w.heap.size + 1 + 1, 0, none⟩ = some (.int .i64 1) ∧ w0_.cell? ⟨w.heap.size + 1 + 1, 1, none⟩ = some (.int .i64 0) ∧ w0_.cell? ⟨w.heap.size + 1 + 1 + 1, 0, none⟩ = some (.int .i64 2) ∧ w0_.cell? ⟨w.heap.size + 1 + 1 + 1, 1, none⟩ = some (.int .i64 0)) _ ⟨bel, (blk_cell (heap_k w [(.cells #[.slice A0 m.c.length c0, .slice A1 m.s.length c1, .slice A2 m.n.length c2, .slice (some ae) m.m.length c3, .slice A4 m.e.length c4, .int .i64 m.sk, .int .i64 m.hp] 28), (.cells #[.int .i64 23, .int .i64 A, .int .i64 B] 44), (.cells #[.int .i64 1, .int .i64 0] 38), (.cells #[.int .i64 2, .int .i64 0] 38), (.cells #[.int .i64 4, .int .i64 0] 38), (.cells #[.int .i64 0, .int .i64 0] 38), (.cells #[.int .i64 3, .int .i64 A] 38)] 2 (by simp)) 0).trans rfl, (blk_cell (heap_k w [(.cells #[.slice A0 m.c.length c0, .slice A1 m.s.length c1, .slice A2 m.n.length c2, .slice (some ae) m.m.length c3, .slice A4 m.e.length c4, .int .i64 m.sk, .int .i64 m.hp] 28), (.cells #[.int .i64 23, .int .i64 A, .int .i64 B] 44), (.cells #[.int .i64 1, .int .i64 0] 38), (.cells #[.int .i64 2, .int .i64 0] 38), (.cells #[.int .i64 4, .int .i64 0] 38), (.cells #[.int .i64 0, .int .i64 0] 38), (.cells #[.int .i64 3, .int .i64 A] 38)] 2 (by simp)) 1).trans rfl, (blk_cell (heap_k w [(.cells #[.slice A0 m.c.length c0, .slice A1 m.s.length c1, .slice A2 m.n.length c2, .slice (some ae) m.m.length c3, .slice A4 m.e.length c4, .int .i64 m.sk, .int .i64 m.hp] 28), (.cells #[.int .i64 23, .int .i64 A, .int .i64 B] 44), (.cells #[.int .i64 1, .int .i64 0] 38), (.cells #[.int .i64 2, .int .i64 0] 38), (.cells #[.int .i64 4, .int .i64 0] 38), (.cells #[.int .i64 0, .int .i64 0] 38), (.cells #[.int .i64 3, .int .i64 A] 38)] 3 (by simp)) 0).trans rfl, (blk_cell (heap_k w [(.cells #[.slice A0 m.c.length c0, .slice A1 m.s.length c1, .slice A2 m.n.length c2, .slice (some ae) m.m.length c3, .slice A4 m.e.length c4, .int .i64 m.sk, .int .i64 m.hp] 28), (.cells #[.int .i64 23, .int .i64 A, .int .i64 B] 44), (.cells #[.int .i64 1, .int .i64 0] 38), (.cells #[.int .i64 2, .int .i64 0] 38), (.cells #[.int .i64 4, .int .i64 0] 38), (.cells #[.int .i64 0, .int .i64 0] 38), (.cells #[.int .i64 3, .int .i64 A] 38)] 3 (by simp)) 1).trans rfl⟩ ?_
    rintro w0 ⟨hb0_, hq1_, hq2_, hq3_, hq4_⟩
    replace hb0_ := Aside0.mk hb0_
    replace hq1_ := Aside0.mk hq1_
    replace hq2_ := Aside0.mk hq2_
    replace hq3_ := Aside0.mk hq3_
    replace hq4_ := Aside0.mk hq4_
    have KP := Aside0.mk (show ∀ w', Below w0.heap.size w0 w' → (w'.cell? ⟨w.heap.size + 1 + 1, 0, none⟩ = some (.int .i64 1) ∧ w'.cell? ⟨w.heap.size + 1 + 1, 1, none⟩ = some (.int .i64 0) ∧ w'.cell? ⟨w.heap.size + 1 + 1 + 1, 0, none⟩ = some (.int .i64 2) ∧ w'.cell? ⟨w.heap.size + 1 + 1 + 1, 1, none⟩ = some (.int .i64 0)) from fun w' h => ⟨keepc h hq1_.out, keepc h hq2_.out, keepc h hq3_.out, keepc h hq4_.out⟩)
    go_region_held3 (fun w' => w'.cell? ⟨w.heap.size + 1 + 1, 0, none⟩ = some (.int .i64 1) ∧ w'.cell? ⟨w.heap.size + 1 + 1, 1, none⟩ = some (.int .i64 0) ∧ w'.cell? ⟨w.heap.size + 1 + 1 + 1, 0, none⟩ = some (.int .i64 2) ∧ w'.cell? ⟨w.heap.size + 1 + 1 + 1, 1, none⟩ = some (.int .i64 0)) (((try dsimp only); first | exact KP.out _ (by assumption) | exact KP.out _ (Below.drew (Below.refl _ _)) | exact KP.out _ (below_alloc (by assumption) _) | exact KP.out _ (below_alloc (Below.refl _ _) _) | exact KP.out _ (below_alloc (below_alloc (Below.refl _ _) _) _) | exact KP.out _ (below_drew (below_alloc (Below.refl _ _) _)) | exact KP.out _ (below_drew (below_alloc (below_alloc (Below.refl _ _) _) _)) | exact KP.out _ (below_drew (below_alloc (by assumption) _)))) (first | fail)
    all_goals
      go_wp2_with fail
      refine bodyPost_ret (results_tmp2 rfl _ _ _) rfl ?_
      refine ⟨_, _, rfl, ?_, ?_, (below_step hb0_.out bel)⟩
      · refine RowT.blk (xs := [tN]) ?_ (by simp) (Nat.zero_le _)
        first | exact blk_drew (blk_alloc (heap_alloc_at _ _ _ (by simp)) _) | exact blk_drew (heap_alloc_at _ _ _ (by simp)) | exact blk_alloc (heap_alloc_at _ _ _ (by simp)) _ | exact heap_alloc_at _ _ _ (by simp) | exact blk_below (blk_drew (heap_alloc_new w0 _)) HBB5 | exact blk_below (blk_drew (heap_alloc_new w0 _)) HBB4
      · refine RowT.blk (xs := [tA]) ?_ (by simp) (Nat.zero_le _)
        first | exact blk_drew (blk_alloc (heap_alloc_at _ _ _ (by simp)) _) | exact blk_drew (heap_alloc_at _ _ _ (by simp)) | exact blk_alloc (heap_alloc_at _ _ _ (by simp)) _ | exact heap_alloc_at _ _ _ (by simp) | exact blk_below (blk_drew (heap_alloc_new w0 _)) HBB5 | exact blk_below (blk_drew (heap_alloc_new w0 _)) HBB4
  have d23 : (op == 23) = false := by simpa using hop
  by_cases hop : op = 24
  · subst hop
    have e : ofV m ⟨f0, f1, ⟨t0, t1⟩, f3, f4, f5, f6⟩ 24 A B = ([tA, tN], [tN]) := by simp [ofV, plainB, plainV]
    rw [e]
    clear e
    go_enter Try.func14, Try.ntmps14
    go_wp2_with fail
    refine see (F := fun w0_ => Below w.heap.size w w0_ ∧ w0_.cell? ⟨w.heap.size + 1 + 1, 0, none⟩ = some (.int .i64 1) ∧ w0_.cell? ⟨w.heap.size + 1 + 1, 1, none⟩ = some (.int .i64 0) ∧ w0_.cell? ⟨w.heap.size + 1 + 1 + 1, 0, none⟩ = some (.int .i64 2) ∧ w0_.cell? ⟨w.heap.size + 1 + 1 + 1, 1, none⟩ = some (.int .i64 0)) _ ⟨bel, (blk_cell (heap_k w [(.cells #[.slice A0 m.c.length c0, .slice A1 m.s.length c1, .slice A2 m.n.length c2, .slice (some ae) m.m.length c3, .slice A4 m.e.length c4, .int .i64 m.sk, .int .i64 m.hp] 28), (.cells #[.int .i64 24, .int .i64 A, .int .i64 B] 44), (.cells #[.int .i64 1, .int .i64 0] 38), (.cells #[.int .i64 2, .int .i64 0] 38), (.cells #[.int .i64 4, .int .i64 0] 38), (.cells #[.int .i64 0, .int .i64 0] 38), (.cells #[.int .i64 3, .int .i64 A] 38)] 2 (by simp)) 0).trans rfl, (blk_cell (heap_k w [(.cells #[.slice A0 m.c.length c0, .slice A1 m.s.length c1, .slice A2 m.n.length c2, .slice (some ae) m.m.length c3, .slice A4 m.e.length c4, .int .i64 m.sk, .int .i64 m.hp] 28), (.cells #[.int .i64 24, .int .i64 A, .int .i64 B] 44), (.cells #[.int .i64 1, .int .i64 0] 38), (.cells #[.int .i64 2, .int .i64 0] 38), (.cells #[.int .i64 4, .int .i64 0] 38), (.cells #[.int .i64 0, .int .i64 0] 38), (.cells #[.int .i64 3, .int .i64 A] 38)] 2 (by simp)) 1).trans rfl, (blk_cell (heap_k w [(.cells #[.slice A0 m.c.length c0, .slice A1 m.s.length c1, .slice A2 m.n.length c2, .slice (some ae) m.m.length c3, .slice A4 m.e.length c4, .int .i64 m.sk, .int .i64 m.hp] 28), (.cells #[.int .i64 24, .int .i64 A, .int .i64 B] 44), (.cells #[.int .i64 1, .int .i64 0] 38), (.cells #[.int .i64 2, .int .i64 0] 38), (.cells #[.int .i64 4, .int .i64 0] 38), (.cells #[.int .i64 0, .int .i64 0] 38), (.cells #[.int .i64 3, .int .i64 A] 38)] 3 (by simp)) 0).trans rfl, (blk_cell (heap_k w [(.cells #[.slice A0 m.c.length c0, .slice A1 m.s.length c1, .slice A2 m.n.length c2, .slice (some ae) m.m.length c3, .slice A4 m.e.length c4, .int .i64 m.sk, .int .i64 m.hp] 28), (.cells #[.int .i64 24, .int .i64 A, .int .i64 B] 44), (.cells #[.int .i64 1, .int .i64 0] 38), (.cells #[.int .i64 2, .int .i64 0] 38), (.cells #[.int .i64 4, .int .i64 0] 38), (.cells #[.int .i64 0, .int .i64 0] 38), (.cells #[.int .i64 3, .int .i64 A] 38)] 3 (by simp)) 1).trans rfl⟩ ?_
    rintro w0 ⟨hb0_, hq1_, hq2_, hq3_, hq4_⟩
    replace hb0_ := Aside0.mk hb0_
    replace hq1_ := Aside0.mk hq1_
    replace hq2_ := Aside0.mk hq2_
    replace hq3_ := Aside0.mk hq3_
    replace hq4_ := Aside0.mk hq4_
    have KP := Aside0.mk (show ∀ w', Below w0.heap.size w0 w' → (w'.cell? ⟨w.heap.size + 1 + 1, 0, none⟩ = some (.int .i64 1) ∧ w'.cell? ⟨w.heap.size + 1 + 1, 1, none⟩ = some (.int .i64 0) ∧ w'.cell? ⟨w.heap.size + 1 + 1 + 1, 0, none⟩ = some (.int .i64 2) ∧ w'.cell? ⟨w.heap.size + 1 + 1 + 1, 1, none⟩ = some (.int .i64 0)) from fun w' h => ⟨keepc h hq1_.out, keepc h hq2_.out, keepc h hq3_.out, keepc h hq4_.out⟩)
    go_region_held3 (fun w' => w'.cell? ⟨w.heap.size + 1 + 1, 0, none⟩ = some (.int .i64 1) ∧ w'.cell? ⟨w.heap.size + 1 + 1, 1, none⟩ = some (.int .i64 0) ∧ w'.cell? ⟨w.heap.size + 1 + 1 + 1, 0, none⟩ = some (.int .i64 2) ∧ w'.cell? ⟨w.heap.size + 1 + 1 + 1, 1, none⟩ = some (.int .i64 0)) (((try dsimp only); first | exact KP.out _ (by assumption) | exact KP.out _ (Below.drew (Below.refl _ _)) | exact KP.out _ (below_alloc (by assumption) _) | exact KP.out _ (below_alloc (Below.refl _ _) _) | exact KP.out _ (below_alloc (below_alloc (Below.refl _ _) _) _) | exact KP.out _ (below_drew (below_alloc (Below.refl _ _) _)) | exact KP.out _ (below_drew (below_alloc (below_alloc (Below.refl _ _) _) _)) | exact KP.out _ (below_drew (below_alloc (by assumption) _)))) (first | fail)
    all_goals
      go_wp2_with fail
      refine bodyPost_ret (results_tmp2 rfl _ _ _) rfl ?_
      refine ⟨_, _, rfl, ?_, ?_, (below_step hb0_.out bel)⟩
      · refine RowT.blk (xs := [tA, tN]) ?_ (by simp) (Nat.zero_le _)
        first | exact blk_drew (blk_alloc (heap_alloc_at _ _ _ (by simp)) _) | exact blk_drew (heap_alloc_at _ _ _ (by simp)) | exact blk_alloc (heap_alloc_at _ _ _ (by simp)) _ | exact heap_alloc_at _ _ _ (by simp) | exact blk_below (blk_drew (heap_alloc_new w0 _)) HBB5 | exact blk_below (blk_drew (heap_alloc_new w0 _)) HBB4
      · refine RowT.blk (xs := [tN]) ?_ (by simp) (Nat.zero_le _)
        first | exact blk_drew (blk_alloc (heap_alloc_at _ _ _ (by simp)) _) | exact blk_drew (heap_alloc_at _ _ _ (by simp)) | exact blk_alloc (heap_alloc_at _ _ _ (by simp)) _ | exact heap_alloc_at _ _ _ (by simp) | exact blk_below (blk_drew (heap_alloc_new w0 _)) HBB5 | exact blk_below (blk_drew (heap_alloc_new w0 _)) HBB4
  have d24 : (op == 24) = false := by simpa using hop
  by_cases hop : op = 26
  · subst hop
    have e : ofV m ⟨f0, f1, ⟨t0, t1⟩, f3, f4, f5, f6⟩ 26 A B = ([tA], [tN]) := by simp [ofV, plainB, plainV]
    rw [e]
    clear e
    go_enter Try.func14, Try.ntmps14
    go_wp2_with fail
    refine see (F := fun w0_ => Below w.heap.size w w0_ ∧ w0_.cell? ⟨w.heap.size + 1 + 1, 0, none⟩ = some (.int .i64 1) ∧ w0_.cell? ⟨w.heap.size + 1 + 1, 1, none⟩ = some (.int .i64 0) ∧ w0_.cell? ⟨w.heap.size + 1 + 1 + 1, 0, none⟩ = some (.int .i64 2) ∧ w0_.cell? ⟨w.heap.size + 1 + 1 + 1, 1, none⟩ = some (.int .i64 0)) _ ⟨bel, (blk_cell (heap_k w [(.cells #[.slice A0 m.c.length c0, .slice A1 m.s.length c1, .slice A2 m.n.length c2, .slice (some ae) m.m.length c3, .slice A4 m.e.length c4, .int .i64 m.sk, .int .i64 m.hp] 28), (.cells #[.int .i64 26, .int .i64 A, .int .i64 B] 44), (.cells #[.int .i64 1, .int .i64 0] 38), (.cells #[.int .i64 2, .int .i64 0] 38), (.cells #[.int .i64 4, .int .i64 0] 38), (.cells #[.int .i64 0, .int .i64 0] 38), (.cells #[.int .i64 3, .int .i64 A] 38)] 2 (by simp)) 0).trans rfl, (blk_cell (heap_k w [(.cells #[.slice A0 m.c.length c0, .slice A1 m.s.length c1, .slice A2 m.n.length c2, .slice (some ae) m.m.length c3, .slice A4 m.e.length c4, .int .i64 m.sk, .int .i64 m.hp] 28), (.cells #[.int .i64 26, .int .i64 A, .int .i64 B] 44), (.cells #[.int .i64 1, .int .i64 0] 38), (.cells #[.int .i64 2, .int .i64 0] 38), (.cells #[.int .i64 4, .int .i64 0] 38), (.cells #[.int .i64 0, .int .i64 0] 38), (.cells #[.int .i64 3, .int .i64 A] 38)] 2 (by simp)) 1).trans rfl, (blk_cell (heap_k w [(.cells #[.slice A0 m.c.length c0, .slice A1 m.s.length c1, .slice A2 m.n.length c2, .slice (some ae) m.m.length c3, .slice A4 m.e.length c4, .int .i64 m.sk, .int .i64 m.hp] 28), (.cells #[.int .i64 26, .int .i64 A, .int .i64 B] 44), (.cells #[.int .i64 1, .int .i64 0] 38), (.cells #[.int .i64 2, .int .i64 0] 38), (.cells #[.int .i64 4, .int .i64 0] 38), (.cells #[.int .i64 0, .int .i64 0] 38), (.cells #[.int .i64 3, .int .i64 A] 38)] 3 (by simp)) 0).trans rfl, (blk_cell (heap_k w [(.cells #[.slice A0 m.c.length c0, .slice A1 m.s.length c1, .slice A2 m.n.length c2, .slice (some ae) m.m.length c3, .slice A4 m.e.length c4, .int .i64 m.sk, .int .i64 m.hp] 28), (.cells #[.int .i64 26, .int .i64 A, .int .i64 B] 44), (.cells #[.int .i64 1, .int .i64 0] 38), (.cells #[.int .i64 2, .int .i64 0] 38), (.cells #[.int .i64 4, .int .i64 0] 38), (.cells #[.int .i64 0, .int .i64 0] 38), (.cells #[.int .i64 3, .int .i64 A] 38)] 3 (by simp)) 1).trans rfl⟩ ?_
    rintro w0 ⟨hb0_, hq1_, hq2_, hq3_, hq4_⟩
    replace hb0_ := Aside0.mk hb0_
    replace hq1_ := Aside0.mk hq1_
    replace hq2_ := Aside0.mk hq2_
    replace hq3_ := Aside0.mk hq3_
    replace hq4_ := Aside0.mk hq4_
    have KP := Aside0.mk (show ∀ w', Below w0.heap.size w0 w' → (w'.cell? ⟨w.heap.size + 1 + 1, 0, none⟩ = some (.int .i64 1) ∧ w'.cell? ⟨w.heap.size + 1 + 1, 1, none⟩ = some (.int .i64 0) ∧ w'.cell? ⟨w.heap.size + 1 + 1 + 1, 0, none⟩ = some (.int .i64 2) ∧ w'.cell? ⟨w.heap.size + 1 + 1 + 1, 1, none⟩ = some (.int .i64 0)) from fun w' h => ⟨keepc h hq1_.out, keepc h hq2_.out, keepc h hq3_.out, keepc h hq4_.out⟩)
    go_region_held3 (fun w' => w'.cell? ⟨w.heap.size + 1 + 1, 0, none⟩ = some (.int .i64 1) ∧ w'.cell? ⟨w.heap.size + 1 + 1, 1, none⟩ = some (.int .i64 0) ∧ w'.cell? ⟨w.heap.size + 1 + 1 + 1, 0, none⟩ = some (.int .i64 2) ∧ w'.cell? ⟨w.heap.size + 1 + 1 + 1, 1, none⟩ = some (.int .i64 0)) (((try dsimp only); first | exact KP.out _ (by assumption) | exact KP.out _ (Below.drew (Below.refl _ _)) | exact KP.out _ (below_alloc (by assumption) _) | exact KP.out _ (below_alloc (Below.refl _ _) _) | exact KP.out _ (below_alloc (below_alloc (Below.refl _ _) _) _) | exact KP.out _ (below_drew (below_alloc (Below.refl _ _) _)) | exact KP.out _ (below_drew (below_alloc (below_alloc (Below.refl _ _) _) _)) | exact KP.out _ (below_drew (below_alloc (by assumption) _)))) (first | fail)
    all_goals
      go_wp2_with fail
      refine bodyPost_ret (results_tmp2 rfl _ _ _) rfl ?_
      refine ⟨_, _, rfl, ?_, ?_, (below_step hb0_.out bel)⟩
      · refine RowT.blk (xs := [tA]) ?_ (by simp) (Nat.zero_le _)
        first | exact blk_drew (blk_alloc (heap_alloc_at _ _ _ (by simp)) _) | exact blk_drew (heap_alloc_at _ _ _ (by simp)) | exact blk_alloc (heap_alloc_at _ _ _ (by simp)) _ | exact heap_alloc_at _ _ _ (by simp) | exact blk_below (blk_drew (heap_alloc_new w0 _)) HBB5 | exact blk_below (blk_drew (heap_alloc_new w0 _)) HBB4
      · refine RowT.blk (xs := [tN]) ?_ (by simp) (Nat.zero_le _)
        first | exact blk_drew (blk_alloc (heap_alloc_at _ _ _ (by simp)) _) | exact blk_drew (heap_alloc_at _ _ _ (by simp)) | exact blk_alloc (heap_alloc_at _ _ _ (by simp)) _ | exact heap_alloc_at _ _ _ (by simp) | exact blk_below (blk_drew (heap_alloc_new w0 _)) HBB5 | exact blk_below (blk_drew (heap_alloc_new w0 _)) HBB4
  have d26 : (op == 26) = false := by simpa using hop
  by_cases hop : op = 34
  · subst hop
    have e : ofV m ⟨f0, f1, ⟨t0, t1⟩, f3, f4, f5, f6⟩ 34 A B = ([tR], [tO A]) := by simp [ofV, plainB, plainV]
    rw [e]
    clear e
    go_enter Try.func14, Try.ntmps14
    go_wp2_with fail
    refine see (F := fun w0_ => Below w.heap.size w w0_ ∧ w0_.cell? ⟨w.heap.size + 1 + 1 + 1 + 1, 0, none⟩ = some (.int .i64 4) ∧ w0_.cell? ⟨w.heap.size + 1 + 1 + 1 + 1, 1, none⟩ = some (.int .i64 0) ∧ w0_.cell? ⟨w.heap.size + 1 + 1 + 1 + 1 + 1 + 1, 0, none⟩ = some (.int .i64 3) ∧ w0_.cell? ⟨w.heap.size + 1 + 1 + 1 + 1 + 1 + 1, 1, none⟩ = some (.int .i64 A)) _ ⟨bel, (blk_cell (heap_k w [(.cells #[.slice A0 m.c.length c0, .slice A1 m.s.length c1, .slice A2 m.n.length c2, .slice (some ae) m.m.length c3, .slice A4 m.e.length c4, .int .i64 m.sk, .int .i64 m.hp] 28), (.cells #[.int .i64 34, .int .i64 A, .int .i64 B] 44), (.cells #[.int .i64 1, .int .i64 0] 38), (.cells #[.int .i64 2, .int .i64 0] 38), (.cells #[.int .i64 4, .int .i64 0] 38), (.cells #[.int .i64 0, .int .i64 0] 38), (.cells #[.int .i64 3, .int .i64 A] 38)] 4 (by simp)) 0).trans rfl, (blk_cell (heap_k w [(.cells #[.slice A0 m.c.length c0, .slice A1 m.s.length c1, .slice A2 m.n.length c2, .slice (some ae) m.m.length c3, .slice A4 m.e.length c4, .int .i64 m.sk, .int .i64 m.hp] 28), (.cells #[.int .i64 34, .int .i64 A, .int .i64 B] 44), (.cells #[.int .i64 1, .int .i64 0] 38), (.cells #[.int .i64 2, .int .i64 0] 38), (.cells #[.int .i64 4, .int .i64 0] 38), (.cells #[.int .i64 0, .int .i64 0] 38), (.cells #[.int .i64 3, .int .i64 A] 38)] 4 (by simp)) 1).trans rfl, (blk_cell (heap_k w [(.cells #[.slice A0 m.c.length c0, .slice A1 m.s.length c1, .slice A2 m.n.length c2, .slice (some ae) m.m.length c3, .slice A4 m.e.length c4, .int .i64 m.sk, .int .i64 m.hp] 28), (.cells #[.int .i64 34, .int .i64 A, .int .i64 B] 44), (.cells #[.int .i64 1, .int .i64 0] 38), (.cells #[.int .i64 2, .int .i64 0] 38), (.cells #[.int .i64 4, .int .i64 0] 38), (.cells #[.int .i64 0, .int .i64 0] 38), (.cells #[.int .i64 3, .int .i64 A] 38)] 6 (by simp)) 0).trans rfl, (blk_cell (heap_k w [(.cells #[.slice A0 m.c.length c0, .slice A1 m.s.length c1, .slice A2 m.n.length c2, .slice (some ae) m.m.length c3, .slice A4 m.e.length c4, .int .i64 m.sk, .int .i64 m.hp] 28), (.cells #[.int .i64 34, .int .i64 A, .int .i64 B] 44), (.cells #[.int .i64 1, .int .i64 0] 38), (.cells #[.int .i64 2, .int .i64 0] 38), (.cells #[.int .i64 4, .int .i64 0] 38), (.cells #[.int .i64 0, .int .i64 0] 38), (.cells #[.int .i64 3, .int .i64 A] 38)] 6 (by simp)) 1).trans rfl⟩ ?_
    rintro w0 ⟨hb0_, hq1_, hq2_, hq3_, hq4_⟩
    replace hb0_ := Aside0.mk hb0_
    replace hq1_ := Aside0.mk hq1_
    replace hq2_ := Aside0.mk hq2_
    replace hq3_ := Aside0.mk hq3_
    replace hq4_ := Aside0.mk hq4_
    have KP := Aside0.mk (show ∀ w', Below w0.heap.size w0 w' → (w'.cell? ⟨w.heap.size + 1 + 1 + 1 + 1, 0, none⟩ = some (.int .i64 4) ∧ w'.cell? ⟨w.heap.size + 1 + 1 + 1 + 1, 1, none⟩ = some (.int .i64 0) ∧ w'.cell? ⟨w.heap.size + 1 + 1 + 1 + 1 + 1 + 1, 0, none⟩ = some (.int .i64 3) ∧ w'.cell? ⟨w.heap.size + 1 + 1 + 1 + 1 + 1 + 1, 1, none⟩ = some (.int .i64 A)) from fun w' h => ⟨keepc h hq1_.out, keepc h hq2_.out, keepc h hq3_.out, keepc h hq4_.out⟩)
    go_region_held3 (fun w' => w'.cell? ⟨w.heap.size + 1 + 1 + 1 + 1, 0, none⟩ = some (.int .i64 4) ∧ w'.cell? ⟨w.heap.size + 1 + 1 + 1 + 1, 1, none⟩ = some (.int .i64 0) ∧ w'.cell? ⟨w.heap.size + 1 + 1 + 1 + 1 + 1 + 1, 0, none⟩ = some (.int .i64 3) ∧ w'.cell? ⟨w.heap.size + 1 + 1 + 1 + 1 + 1 + 1, 1, none⟩ = some (.int .i64 A)) (((try dsimp only); first | exact KP.out _ (by assumption) | exact KP.out _ (Below.drew (Below.refl _ _)) | exact KP.out _ (below_alloc (by assumption) _) | exact KP.out _ (below_alloc (Below.refl _ _) _) | exact KP.out _ (below_alloc (below_alloc (Below.refl _ _) _) _) | exact KP.out _ (below_drew (below_alloc (Below.refl _ _) _)) | exact KP.out _ (below_drew (below_alloc (below_alloc (Below.refl _ _) _) _)) | exact KP.out _ (below_drew (below_alloc (by assumption) _)))) (first | fail)
    all_goals
      go_wp2_with fail
      refine bodyPost_ret (results_tmp2 rfl _ _ _) rfl ?_
      refine ⟨_, _, rfl, ?_, ?_, (below_step hb0_.out bel)⟩
      · refine RowT.blk (xs := [tR]) ?_ (by simp) (Nat.zero_le _)
        first | exact blk_drew (blk_alloc (heap_alloc_at _ _ _ (by simp)) _) | exact blk_drew (heap_alloc_at _ _ _ (by simp)) | exact blk_alloc (heap_alloc_at _ _ _ (by simp)) _ | exact heap_alloc_at _ _ _ (by simp) | exact blk_below (blk_drew (heap_alloc_new w0 _)) HBB5 | exact blk_below (blk_drew (heap_alloc_new w0 _)) HBB4
      · refine RowT.blk (xs := [tO A]) ?_ (by simp) (Nat.zero_le _)
        first | exact blk_drew (blk_alloc (heap_alloc_at _ _ _ (by simp)) _) | exact blk_drew (heap_alloc_at _ _ _ (by simp)) | exact blk_alloc (heap_alloc_at _ _ _ (by simp)) _ | exact heap_alloc_at _ _ _ (by simp) | exact blk_below (blk_drew (heap_alloc_new w0 _)) HBB5 | exact blk_below (blk_drew (heap_alloc_new w0 _)) HBB4
  have d34 : (op == 34) = false := by simpa using hop
  by_cases hop : op = 5
  · subst hop
    have e : ofV m ⟨f0, f1, ⟨t0, t1⟩, f3, f4, f5, f6⟩ 5 A B = ([tX], []) := by simp [ofV, plainB, plainV]
    rw [e]
    clear e
    go_enter Try.func14, Try.ntmps14
    go_wp2_with fail
    refine bodyPost_ret (results_tmp2 rfl _ _ _) rfl ?_
    refine ⟨_, _, rfl, ?_, ?_, bel⟩
    · refine RowT.blk (xs := [tX]) ?_ (by simp) (Nat.zero_le _)
      first | exact blk_drew (blk_alloc (heap_alloc_at _ _ _ (by simp)) _) | exact blk_drew (heap_alloc_at _ _ _ (by simp)) | exact blk_alloc (heap_alloc_at _ _ _ (by simp)) _ | exact heap_alloc_at _ _ _ (by simp) | exact blk_below (blk_drew (heap_alloc_new w0 _)) HBB5 | exact blk_below (blk_drew (heap_alloc_new w0 _)) HBB4
    · exact RowT.nil _ _
  have d5 : (op == 5) = false := by simpa using hop
  by_cases hop : op = 19
  · subst hop
    have e : ofV m ⟨f0, f1, ⟨t0, t1⟩, f3, f4, f5, f6⟩ 19 A B = ([tN], []) := by simp [ofV, plainB, plainV]
    rw [e]
    clear e
    go_enter Try.func14, Try.ntmps14
    go_wp2_with fail
    refine bodyPost_ret (results_tmp2 rfl _ _ _) rfl ?_
    refine ⟨_, _, rfl, ?_, ?_, bel⟩
    · refine RowT.blk (xs := [tN]) ?_ (by simp) (Nat.zero_le _)
      first | exact blk_drew (blk_alloc (heap_alloc_at _ _ _ (by simp)) _) | exact blk_drew (heap_alloc_at _ _ _ (by simp)) | exact blk_alloc (heap_alloc_at _ _ _ (by simp)) _ | exact heap_alloc_at _ _ _ (by simp) | exact blk_below (blk_drew (heap_alloc_new w0 _)) HBB5 | exact blk_below (blk_drew (heap_alloc_new w0 _)) HBB4
    · exact RowT.nil _ _
  have d19 : (op == 19) = false := by simpa using hop
  by_cases hop : op = 25
  · subst hop
    have e : ofV m ⟨f0, f1, ⟨t0, t1⟩, f3, f4, f5, f6⟩ 25 A B = ([tA, tN, tN], []) := by simp [ofV, plainB, plainV]
    rw [e]
    clear e
    go_enter Try.func14, Try.ntmps14
    go_wp2_with fail
    refine bodyPost_ret (results_tmp2 rfl _ _ _) rfl ?_
    refine ⟨_, _, rfl, ?_, ?_, bel⟩
    · refine RowT.blk (xs := [tA, tN, tN]) ?_ (by simp) (Nat.zero_le _)
      first | exact blk_drew (blk_alloc (heap_alloc_at _ _ _ (by simp)) _) | exact blk_drew (heap_alloc_at _ _ _ (by simp)) | exact blk_alloc (heap_alloc_at _ _ _ (by simp)) _ | exact heap_alloc_at _ _ _ (by simp) | exact blk_below (blk_drew (heap_alloc_new w0 _)) HBB5 | exact blk_below (blk_drew (heap_alloc_new w0 _)) HBB4
    · exact RowT.nil _ _
  have d25 : (op == 25) = false := by simpa using hop
  by_cases hop : op = 3
  · subst hop
    have e : ofV m ⟨f0, f1, ⟨t0, t1⟩, f3, f4, f5, f6⟩ 3 A B = ([], [localV ⟨f0, f1, ⟨t0, t1⟩, f3, f4, f5, f6⟩ A]) := by simp [ofV, plainB, plainV]
    rw [e]
    clear e
    go_enter Try.func14, Try.ntmps14
    go_wp2_with fail
    refine see (F := fun w0_ => Below w.heap.size w w0_ ∧ w0_.cell? ⟨w.heap.size, 3, none⟩ = some (.slice (some ae) m.m.length c3) ∧ w0_.cell? ⟨w.heap.size + 1, 1, none⟩ = some (.int .i64 A) ∧ w0_.cell? (ae.add (f.toNat * 8)) = some (.slice F0 f0.length g0) ∧ w0_.cell? ⟨(ae.add (f.toNat * 8)).block, (ae.add (f.toNat * 8)).off + 1, none⟩ = some (.slice F1 f1.length g1) ∧ w0_.cell? ⟨(ae.add (f.toNat * 8)).block, (ae.add (f.toNat * 8)).off + 2, none⟩ = some (.int .i64 t0) ∧ w0_.cell? ⟨(ae.add (f.toNat * 8)).block, (ae.add (f.toNat * 8)).off + 3, none⟩ = some (.int .i64 t1) ∧ w0_.cell? ⟨(ae.add (f.toNat * 8)).block, (ae.add (f.toNat * 8)).off + 4, none⟩ = some (.slice F4 f3.length g4) ∧ w0_.cell? ⟨(ae.add (f.toNat * 8)).block, (ae.add (f.toNat * 8)).off + 5, none⟩ = some (.int .i64 f4) ∧ w0_.cell? ⟨(ae.add (f.toNat * 8)).block, (ae.add (f.toNat * 8)).off + 6, none⟩ = some (.int .i64 f5) ∧ w0_.cell? ⟨(ae.add (f.toNat * 8)).block, (ae.add (f.toNat * 8)).off + 7, none⟩ = some (.slice F7 f6.length g7)) _ ⟨bel, (blk_cell (heap_k w [(.cells #[.slice A0 m.c.length c0, .slice A1 m.s.length c1, .slice A2 m.n.length c2, .slice (some ae) m.m.length c3, .slice A4 m.e.length c4, .int .i64 m.sk, .int .i64 m.hp] 28), (.cells #[.int .i64 3, .int .i64 A, .int .i64 B] 44), (.cells #[.int .i64 1, .int .i64 0] 38), (.cells #[.int .i64 2, .int .i64 0] 38), (.cells #[.int .i64 4, .int .i64 0] 38), (.cells #[.int .i64 0, .int .i64 0] 38), (.cells #[.int .i64 3, .int .i64 A] 38)] 0 (by simp)) 3).trans rfl, (blk_cell (heap_k w [(.cells #[.slice A0 m.c.length c0, .slice A1 m.s.length c1, .slice A2 m.n.length c2, .slice (some ae) m.m.length c3, .slice A4 m.e.length c4, .int .i64 m.sk, .int .i64 m.hp] 28), (.cells #[.int .i64 3, .int .i64 A, .int .i64 B] 44), (.cells #[.int .i64 1, .int .i64 0] 38), (.cells #[.int .i64 2, .int .i64 0] 38), (.cells #[.int .i64 4, .int .i64 0] 38), (.cells #[.int .i64 0, .int .i64 0] 38), (.cells #[.int .i64 3, .int .i64 A] 38)] 1 (by simp)) 1).trans rfl, keepc bel Y0.out, keepc bel Y1.out, keepc bel Y2.out, keepc bel Y3.out, keepc bel Y4.out, keepc bel Y5.out, keepc bel Y6.out, keepc bel Y7.out⟩ ?_
    rintro w0 ⟨hb0_, hq1_, hq2_, hq3_, hq4_, hq5_, hq6_, hq7_, hq8_, hq9_, hq10_⟩
    replace hb0_ := Aside0.mk hb0_
    replace hq1_ := Aside0.mk hq1_
    replace hq2_ := Aside0.mk hq2_
    replace hq3_ := Aside0.mk hq3_
    replace hq4_ := Aside0.mk hq4_
    replace hq5_ := Aside0.mk hq5_
    replace hq6_ := Aside0.mk hq6_
    replace hq7_ := Aside0.mk hq7_
    replace hq8_ := Aside0.mk hq8_
    replace hq9_ := Aside0.mk hq9_
    replace hq10_ := Aside0.mk hq10_
    have KP := Aside0.mk (show ∀ w', Below w0.heap.size w0 w' → (w'.cell? ⟨w.heap.size, 3, none⟩ = some (.slice (some ae) m.m.length c3) ∧ w'.cell? ⟨w.heap.size + 1, 1, none⟩ = some (.int .i64 A) ∧ w'.cell? (ae.add (f.toNat * 8)) = some (.slice F0 f0.length g0) ∧ w'.cell? ⟨(ae.add (f.toNat * 8)).block, (ae.add (f.toNat * 8)).off + 1, none⟩ = some (.slice F1 f1.length g1) ∧ w'.cell? ⟨(ae.add (f.toNat * 8)).block, (ae.add (f.toNat * 8)).off + 2, none⟩ = some (.int .i64 t0) ∧ w'.cell? ⟨(ae.add (f.toNat * 8)).block, (ae.add (f.toNat * 8)).off + 3, none⟩ = some (.int .i64 t1) ∧ w'.cell? ⟨(ae.add (f.toNat * 8)).block, (ae.add (f.toNat * 8)).off + 4, none⟩ = some (.slice F4 f3.length g4) ∧ w'.cell? ⟨(ae.add (f.toNat * 8)).block, (ae.add (f.toNat * 8)).off + 5, none⟩ = some (.int .i64 f4) ∧ w'.cell? ⟨(ae.add (f.toNat * 8)).block, (ae.add (f.toNat * 8)).off + 6, none⟩ = some (.int .i64 f5) ∧ w'.cell? ⟨(ae.add (f.toNat * 8)).block, (ae.add (f.toNat * 8)).off + 7, none⟩ = some (.slice F7 f6.length g7)) from fun w' h => ⟨keepc h hq1_.out, keepc h hq2_.out, keepc h hq3_.out, keepc h hq4_.out, keepc h hq5_.out, keepc h hq6_.out, keepc h hq7_.out, keepc h hq8_.out, keepc h hq9_.out, keepc h hq10_.out⟩)
    go_region_held3 (fun w' => w'.cell? ⟨w.heap.size, 3, none⟩ = some (.slice (some ae) m.m.length c3) ∧ w'.cell? ⟨w.heap.size + 1, 1, none⟩ = some (.int .i64 A) ∧ w'.cell? (ae.add (f.toNat * 8)) = some (.slice F0 f0.length g0) ∧ w'.cell? ⟨(ae.add (f.toNat * 8)).block, (ae.add (f.toNat * 8)).off + 1, none⟩ = some (.slice F1 f1.length g1) ∧ w'.cell? ⟨(ae.add (f.toNat * 8)).block, (ae.add (f.toNat * 8)).off + 2, none⟩ = some (.int .i64 t0) ∧ w'.cell? ⟨(ae.add (f.toNat * 8)).block, (ae.add (f.toNat * 8)).off + 3, none⟩ = some (.int .i64 t1) ∧ w'.cell? ⟨(ae.add (f.toNat * 8)).block, (ae.add (f.toNat * 8)).off + 4, none⟩ = some (.slice F4 f3.length g4) ∧ w'.cell? ⟨(ae.add (f.toNat * 8)).block, (ae.add (f.toNat * 8)).off + 5, none⟩ = some (.int .i64 f4) ∧ w'.cell? ⟨(ae.add (f.toNat * 8)).block, (ae.add (f.toNat * 8)).off + 6, none⟩ = some (.int .i64 f5) ∧ w'.cell? ⟨(ae.add (f.toNat * 8)).block, (ae.add (f.toNat * 8)).off + 7, none⟩ = some (.slice F7 f6.length g7)) (((try dsimp only); first | exact KP.out _ (by assumption) | exact KP.out _ (Below.drew (Below.refl _ _)) | exact KP.out _ (below_alloc (by assumption) _) | exact KP.out _ (below_alloc (Below.refl _ _) _) | exact KP.out _ (below_alloc (below_alloc (Below.refl _ _) _) _) | exact KP.out _ (below_drew (below_alloc (Below.refl _ _) _)) | exact KP.out _ (below_drew (below_alloc (below_alloc (Below.refl _ _) _) _)) | exact KP.out _ (below_drew (below_alloc (by assumption) _)))) (first | ((try go_simp); go_at_call 24; (refine (rlocal_c (HX.out.below (below_step hb0_.out (by first | exact Below.refl _ _ | exact Below.drew (Below.refl _ _) | assumption | exact below_alloc (Below.drew (Below.refl _ _)) _ | exact below_alloc (by assumption) _ | exact below_alloc (Below.refl _ _) _))) (by have := HP.out.l8; simp only at this ⊢; omega) A).mono ?_); rintro e w4 ⟨rfl, hb4⟩; have HB4 : Below w0.heap.size w0 w4 := below_step (by first | exact Below.refl _ _ | exact Below.drew (Below.refl _ _) | assumption | exact below_alloc (Below.drew (Below.refl _ _)) _ | exact below_alloc (by assumption) _ | exact below_alloc (Below.refl _ _) _) hb4; have HBB4 := hb4; clear hb4))
    all_goals
      go_wp2_with fail
      refine bodyPost_ret (results_tmp2 rfl _ _ _) rfl ?_
      refine ⟨_, _, rfl, ?_, ?_, (below_step hb0_.out bel)⟩
      · exact RowT.nil _ _
      · refine RowT.blk (xs := [localV ⟨f0, f1, ⟨t0, t1⟩, f3, f4, f5, f6⟩ A]) ?_ (by simp) (Nat.zero_le _)
        first | exact blk_drew (blk_alloc (heap_alloc_at _ _ _ (by simp)) _) | exact blk_drew (heap_alloc_at _ _ _ (by simp)) | exact blk_alloc (heap_alloc_at _ _ _ (by simp)) _ | exact heap_alloc_at _ _ _ (by simp) | exact blk_below (blk_drew (heap_alloc_new w0 _)) HBB5 | exact blk_below (blk_drew (heap_alloc_new w0 _)) HBB4
  have d3 : (op == 3) = false := by simpa using hop
  by_cases hop : op = 4
  · subst hop
    have e : ofV m ⟨f0, f1, ⟨t0, t1⟩, f3, f4, f5, f6⟩ 4 A B = ([localV ⟨f0, f1, ⟨t0, t1⟩, f3, f4, f5, f6⟩ A], []) := by simp [ofV, plainB, plainV]
    rw [e]
    clear e
    go_enter Try.func14, Try.ntmps14
    go_wp2_with fail
    refine see (F := fun w0_ => Below w.heap.size w w0_ ∧ w0_.cell? ⟨w.heap.size, 3, none⟩ = some (.slice (some ae) m.m.length c3) ∧ w0_.cell? ⟨w.heap.size + 1, 1, none⟩ = some (.int .i64 A) ∧ w0_.cell? (ae.add (f.toNat * 8)) = some (.slice F0 f0.length g0) ∧ w0_.cell? ⟨(ae.add (f.toNat * 8)).block, (ae.add (f.toNat * 8)).off + 1, none⟩ = some (.slice F1 f1.length g1) ∧ w0_.cell? ⟨(ae.add (f.toNat * 8)).block, (ae.add (f.toNat * 8)).off + 2, none⟩ = some (.int .i64 t0) ∧ w0_.cell? ⟨(ae.add (f.toNat * 8)).block, (ae.add (f.toNat * 8)).off + 3, none⟩ = some (.int .i64 t1) ∧ w0_.cell? ⟨(ae.add (f.toNat * 8)).block, (ae.add (f.toNat * 8)).off + 4, none⟩ = some (.slice F4 f3.length g4) ∧ w0_.cell? ⟨(ae.add (f.toNat * 8)).block, (ae.add (f.toNat * 8)).off + 5, none⟩ = some (.int .i64 f4) ∧ w0_.cell? ⟨(ae.add (f.toNat * 8)).block, (ae.add (f.toNat * 8)).off + 6, none⟩ = some (.int .i64 f5) ∧ w0_.cell? ⟨(ae.add (f.toNat * 8)).block, (ae.add (f.toNat * 8)).off + 7, none⟩ = some (.slice F7 f6.length g7)) _ ⟨bel, (blk_cell (heap_k w [(.cells #[.slice A0 m.c.length c0, .slice A1 m.s.length c1, .slice A2 m.n.length c2, .slice (some ae) m.m.length c3, .slice A4 m.e.length c4, .int .i64 m.sk, .int .i64 m.hp] 28), (.cells #[.int .i64 4, .int .i64 A, .int .i64 B] 44), (.cells #[.int .i64 1, .int .i64 0] 38), (.cells #[.int .i64 2, .int .i64 0] 38), (.cells #[.int .i64 4, .int .i64 0] 38), (.cells #[.int .i64 0, .int .i64 0] 38), (.cells #[.int .i64 3, .int .i64 A] 38)] 0 (by simp)) 3).trans rfl, (blk_cell (heap_k w [(.cells #[.slice A0 m.c.length c0, .slice A1 m.s.length c1, .slice A2 m.n.length c2, .slice (some ae) m.m.length c3, .slice A4 m.e.length c4, .int .i64 m.sk, .int .i64 m.hp] 28), (.cells #[.int .i64 4, .int .i64 A, .int .i64 B] 44), (.cells #[.int .i64 1, .int .i64 0] 38), (.cells #[.int .i64 2, .int .i64 0] 38), (.cells #[.int .i64 4, .int .i64 0] 38), (.cells #[.int .i64 0, .int .i64 0] 38), (.cells #[.int .i64 3, .int .i64 A] 38)] 1 (by simp)) 1).trans rfl, keepc bel Y0.out, keepc bel Y1.out, keepc bel Y2.out, keepc bel Y3.out, keepc bel Y4.out, keepc bel Y5.out, keepc bel Y6.out, keepc bel Y7.out⟩ ?_
    rintro w0 ⟨hb0_, hq1_, hq2_, hq3_, hq4_, hq5_, hq6_, hq7_, hq8_, hq9_, hq10_⟩
    replace hb0_ := Aside0.mk hb0_
    replace hq1_ := Aside0.mk hq1_
    replace hq2_ := Aside0.mk hq2_
    replace hq3_ := Aside0.mk hq3_
    replace hq4_ := Aside0.mk hq4_
    replace hq5_ := Aside0.mk hq5_
    replace hq6_ := Aside0.mk hq6_
    replace hq7_ := Aside0.mk hq7_
    replace hq8_ := Aside0.mk hq8_
    replace hq9_ := Aside0.mk hq9_
    replace hq10_ := Aside0.mk hq10_
    have KP := Aside0.mk (show ∀ w', Below w0.heap.size w0 w' → (w'.cell? ⟨w.heap.size, 3, none⟩ = some (.slice (some ae) m.m.length c3) ∧ w'.cell? ⟨w.heap.size + 1, 1, none⟩ = some (.int .i64 A) ∧ w'.cell? (ae.add (f.toNat * 8)) = some (.slice F0 f0.length g0) ∧ w'.cell? ⟨(ae.add (f.toNat * 8)).block, (ae.add (f.toNat * 8)).off + 1, none⟩ = some (.slice F1 f1.length g1) ∧ w'.cell? ⟨(ae.add (f.toNat * 8)).block, (ae.add (f.toNat * 8)).off + 2, none⟩ = some (.int .i64 t0) ∧ w'.cell? ⟨(ae.add (f.toNat * 8)).block, (ae.add (f.toNat * 8)).off + 3, none⟩ = some (.int .i64 t1) ∧ w'.cell? ⟨(ae.add (f.toNat * 8)).block, (ae.add (f.toNat * 8)).off + 4, none⟩ = some (.slice F4 f3.length g4) ∧ w'.cell? ⟨(ae.add (f.toNat * 8)).block, (ae.add (f.toNat * 8)).off + 5, none⟩ = some (.int .i64 f4) ∧ w'.cell? ⟨(ae.add (f.toNat * 8)).block, (ae.add (f.toNat * 8)).off + 6, none⟩ = some (.int .i64 f5) ∧ w'.cell? ⟨(ae.add (f.toNat * 8)).block, (ae.add (f.toNat * 8)).off + 7, none⟩ = some (.slice F7 f6.length g7)) from fun w' h => ⟨keepc h hq1_.out, keepc h hq2_.out, keepc h hq3_.out, keepc h hq4_.out, keepc h hq5_.out, keepc h hq6_.out, keepc h hq7_.out, keepc h hq8_.out, keepc h hq9_.out, keepc h hq10_.out⟩)
    go_region_held3 (fun w' => w'.cell? ⟨w.heap.size, 3, none⟩ = some (.slice (some ae) m.m.length c3) ∧ w'.cell? ⟨w.heap.size + 1, 1, none⟩ = some (.int .i64 A) ∧ w'.cell? (ae.add (f.toNat * 8)) = some (.slice F0 f0.length g0) ∧ w'.cell? ⟨(ae.add (f.toNat * 8)).block, (ae.add (f.toNat * 8)).off + 1, none⟩ = some (.slice F1 f1.length g1) ∧ w'.cell? ⟨(ae.add (f.toNat * 8)).block, (ae.add (f.toNat * 8)).off + 2, none⟩ = some (.int .i64 t0) ∧ w'.cell? ⟨(ae.add (f.toNat * 8)).block, (ae.add (f.toNat * 8)).off + 3, none⟩ = some (.int .i64 t1) ∧ w'.cell? ⟨(ae.add (f.toNat * 8)).block, (ae.add (f.toNat * 8)).off + 4, none⟩ = some (.slice F4 f3.length g4) ∧ w'.cell? ⟨(ae.add (f.toNat * 8)).block, (ae.add (f.toNat * 8)).off + 5, none⟩ = some (.int .i64 f4) ∧ w'.cell? ⟨(ae.add (f.toNat * 8)).block, (ae.add (f.toNat * 8)).off + 6, none⟩ = some (.int .i64 f5) ∧ w'.cell? ⟨(ae.add (f.toNat * 8)).block, (ae.add (f.toNat * 8)).off + 7, none⟩ = some (.slice F7 f6.length g7)) (((try dsimp only); first | exact KP.out _ (by assumption) | exact KP.out _ (Below.drew (Below.refl _ _)) | exact KP.out _ (below_alloc (by assumption) _) | exact KP.out _ (below_alloc (Below.refl _ _) _) | exact KP.out _ (below_alloc (below_alloc (Below.refl _ _) _) _) | exact KP.out _ (below_drew (below_alloc (Below.refl _ _) _)) | exact KP.out _ (below_drew (below_alloc (below_alloc (Below.refl _ _) _) _)) | exact KP.out _ (below_drew (below_alloc (by assumption) _)))) (first | ((try go_simp); go_at_call 24; (refine (rlocal_c (HX.out.below (below_step hb0_.out (by first | exact Below.refl _ _ | exact Below.drew (Below.refl _ _) | assumption | exact below_alloc (Below.drew (Below.refl _ _)) _ | exact below_alloc (by assumption) _ | exact below_alloc (Below.refl _ _) _))) (by have := HP.out.l8; simp only at this ⊢; omega) A).mono ?_); rintro e w4 ⟨rfl, hb4⟩; have HB4 : Below w0.heap.size w0 w4 := below_step (by first | exact Below.refl _ _ | exact Below.drew (Below.refl _ _) | assumption | exact below_alloc (Below.drew (Below.refl _ _)) _ | exact below_alloc (by assumption) _ | exact below_alloc (Below.refl _ _) _) hb4; have HBB4 := hb4; clear hb4))
    all_goals
      go_wp2_with fail
      refine bodyPost_ret (results_tmp2 rfl _ _ _) rfl ?_
      refine ⟨_, _, rfl, ?_, ?_, (below_step hb0_.out bel)⟩
      · refine RowT.blk (xs := [localV ⟨f0, f1, ⟨t0, t1⟩, f3, f4, f5, f6⟩ A]) ?_ (by simp) (Nat.zero_le _)
        first | exact blk_drew (blk_alloc (heap_alloc_at _ _ _ (by simp)) _) | exact blk_drew (heap_alloc_at _ _ _ (by simp)) | exact blk_alloc (heap_alloc_at _ _ _ (by simp)) _ | exact heap_alloc_at _ _ _ (by simp) | exact blk_below (blk_drew (heap_alloc_new w0 _)) HBB5 | exact blk_below (blk_drew (heap_alloc_new w0 _)) HBB4
      · exact RowT.nil _ _
  have d4 : (op == 4) = false := by simpa using hop
  by_cases hop : op = 29
  · subst hop
    have e : ofV m ⟨f0, f1, ⟨t0, t1⟩, f3, f4, f5, f6⟩ 29 A B = ([], [rd_T38 m.s A]) := by simp [ofV, plainB, plainV]
    rw [e]
    clear e
    have hAs : A < (m.s.length : Int) := (by have := HN.out; simp [namedB] at this; exact this)
    obtain ⟨aq, hA1', y8, y9⟩ := at_T38 HM.out.h1 A hA hAs
    subst hA1'
    have Y8 := Aside0.mk y8
    have Y9 := Aside0.mk y9
    clear y8 y9
    go_enter Try.func14, Try.ntmps14
    go_wp2_with fail
    refine see (F := fun w0_ => Below w.heap.size w w0_ ∧ w0_.cell? ⟨w.heap.size, 1, none⟩ = some (.slice (some aq) m.s.length c1) ∧ w0_.cell? ⟨w.heap.size + 1, 1, none⟩ = some (.int .i64 A) ∧ w0_.cell? (aq.add (A.toNat * 2)) = some (.int .i64 (rd_T38 m.s A).f0) ∧ w0_.cell? ⟨(aq.add (A.toNat * 2)).block, (aq.add (A.toNat * 2)).off + 1, none⟩ = some (.int .i64 (rd_T38 m.s A).f1)) _ ⟨bel, (blk_cell (heap_k w [(.cells #[.slice A0 m.c.length c0, .slice (some aq) m.s.length c1, .slice A2 m.n.length c2, .slice (some ae) m.m.length c3, .slice A4 m.e.length c4, .int .i64 m.sk, .int .i64 m.hp] 28), (.cells #[.int .i64 29, .int .i64 A, .int .i64 B] 44), (.cells #[.int .i64 1, .int .i64 0] 38), (.cells #[.int .i64 2, .int .i64 0] 38), (.cells #[.int .i64 4, .int .i64 0] 38), (.cells #[.int .i64 0, .int .i64 0] 38), (.cells #[.int .i64 3, .int .i64 A] 38)] 0 (by simp)) 1).trans rfl, (blk_cell (heap_k w [(.cells #[.slice A0 m.c.length c0, .slice (some aq) m.s.length c1, .slice A2 m.n.length c2, .slice (some ae) m.m.length c3, .slice A4 m.e.length c4, .int .i64 m.sk, .int .i64 m.hp] 28), (.cells #[.int .i64 29, .int .i64 A, .int .i64 B] 44), (.cells #[.int .i64 1, .int .i64 0] 38), (.cells #[.int .i64 2, .int .i64 0] 38), (.cells #[.int .i64 4, .int .i64 0] 38), (.cells #[.int .i64 0, .int .i64 0] 38), (.cells #[.int .i64 3, .int .i64 A] 38)] 1 (by simp)) 1).trans rfl, keepc bel Y8.out, keepc bel Y9.out⟩ ?_
    rintro w0 ⟨hb0_, hq1_, hq2_, hq3_, hq4_⟩
    replace hb0_ := Aside0.mk hb0_
    replace hq1_ := Aside0.mk hq1_
    replace hq2_ := Aside0.mk hq2_
    replace hq3_ := Aside0.mk hq3_
    replace hq4_ := Aside0.mk hq4_
    have KP := Aside0.mk (show ∀ w', Below w0.heap.size w0 w' → (w'.cell? ⟨w.heap.size, 1, none⟩ = some (.slice (some aq) m.s.length c1) ∧ w'.cell? ⟨w.heap.size + 1, 1, none⟩ = some (.int .i64 A) ∧ w'.cell? (aq.add (A.toNat * 2)) = some (.int .i64 (rd_T38 m.s A).f0) ∧ w'.cell? ⟨(aq.add (A.toNat * 2)).block, (aq.add (A.toNat * 2)).off + 1, none⟩ = some (.int .i64 (rd_T38 m.s A).f1)) from fun w' h => ⟨keepc h hq1_.out, keepc h hq2_.out, keepc h hq3_.out, keepc h hq4_.out⟩)
    go_region_held3 (fun w' => w'.cell? ⟨w.heap.size, 1, none⟩ = some (.slice (some aq) m.s.length c1) ∧ w'.cell? ⟨w.heap.size + 1, 1, none⟩ = some (.int .i64 A) ∧ w'.cell? (aq.add (A.toNat * 2)) = some (.int .i64 (rd_T38 m.s A).f0) ∧ w'.cell? ⟨(aq.add (A.toNat * 2)).block, (aq.add (A.toNat * 2)).off + 1, none⟩ = some (.int .i64 (rd_T38 m.s A).f1)) (((try dsimp only); first | exact KP.out _ (by assumption) | exact KP.out _ (Below.drew (Below.refl _ _)) | exact KP.out _ (below_alloc (by assumption) _) | exact KP.out _ (below_alloc (Below.refl _ _) _) | exact KP.out _ (below_alloc (below_alloc (Below.refl _ _) _) _) | exact KP.out _ (below_drew (below_alloc (Below.refl _ _) _)) | exact KP.out _ (below_drew (below_alloc (below_alloc (Below.refl _ _) _) _)) | exact KP.out _ (below_drew (below_alloc (by assumption) _)))) (first | fail)
    all_goals
      go_wp2_with fail
      refine bodyPost_ret (results_tmp2 rfl _ _ _) rfl ?_
      refine ⟨_, _, rfl, ?_, ?_, (below_step hb0_.out bel)⟩
      · exact RowT.nil _ _
      · refine RowT.blk (xs := [rd_T38 m.s A]) ?_ (by simp) (Nat.zero_le _)
        first | exact blk_drew (blk_alloc (heap_alloc_at _ _ _ (by simp)) _) | exact blk_drew (heap_alloc_at _ _ _ (by simp)) | exact blk_alloc (heap_alloc_at _ _ _ (by simp)) _ | exact heap_alloc_at _ _ _ (by simp) | exact blk_below (blk_drew (heap_alloc_new w0 _)) HBB5 | exact blk_below (blk_drew (heap_alloc_new w0 _)) HBB4
  have d29 : (op == 29) = false := by simpa using hop
  by_cases hop : op = 30
  · subst hop
    have e : ofV m ⟨f0, f1, ⟨t0, t1⟩, f3, f4, f5, f6⟩ 30 A B = ([rd_T38 m.s A], []) := by simp [ofV, plainB, plainV]
    rw [e]
    clear e
    have hAs : A < (m.s.length : Int) := (by have := HN.out; simp [namedB] at this; exact this)
    obtain ⟨aq, hA1', y8, y9⟩ := at_T38 HM.out.h1 A hA hAs
    subst hA1'
    have Y8 := Aside0.mk y8
    have Y9 := Aside0.mk y9
    have qs := World.block_lt_of_cell? w _ y8
    have qs1 : (aq.add (A.toNat * 2)).block < w.heap.size + 1 := Nat.lt_succ_of_lt qs
    have qs2 : (aq.add (A.toNat * 2)).block < w.heap.size + 1 + 1 := Nat.lt_succ_of_lt qs1
    have qs3 : (aq.add (A.toNat * 2)).block < w.heap.size + 1 + 1 + 1 := Nat.lt_succ_of_lt qs2
    have qs4 : (aq.add (A.toNat * 2)).block < w.heap.size + 1 + 1 + 1 + 1 := Nat.lt_succ_of_lt qs3
    have qs5 : (aq.add (A.toNat * 2)).block < w.heap.size + 1 + 1 + 1 + 1 + 1 := Nat.lt_succ_of_lt qs4
    have qs6 : (aq.add (A.toNat * 2)).block < w.heap.size + 1 + 1 + 1 + 1 + 1 + 1 := Nat.lt_succ_of_lt qs5
    have qs7 : (aq.add (A.toNat * 2)).block < w.heap.size + 1 + 1 + 1 + 1 + 1 + 1 + 1 := Nat.lt_succ_of_lt qs6
    go_enter Try.func14, Try.ntmps14
    go_wp2_with fail
    refine bodyPost_ret (results_tmp2 rfl _ _ _) rfl ?_
    refine ⟨_, _, rfl, ?_, ?_, bel⟩
    · refine RowT.blk (xs := [rd_T38 m.s A]) ?_ (by simp) (Nat.zero_le _)
      first | exact blk_drew (blk_alloc (heap_alloc_at _ _ _ (by simp)) _) | exact blk_drew (heap_alloc_at _ _ _ (by simp)) | exact blk_alloc (heap_alloc_at _ _ _ (by simp)) _ | exact heap_alloc_at _ _ _ (by simp) | exact blk_below (blk_drew (heap_alloc_new w0 _)) HBB5 | exact blk_below (blk_drew (heap_alloc_new w0 _)) HBB4
    · exact RowT.nil _ _
  have d30 : (op == 30) = false := by simpa using hop
  by_cases hop : op = 33
  · subst hop
    have e : ofV m ⟨f0, f1, ⟨t0, t1⟩, f3, f4, f5, f6⟩ 33 A B = (givesV ⟨f0, f1, ⟨t0, t1⟩, f3, f4, f5, f6⟩, []) := by simp [ofV, plainB, plainV, givesV]
    rw [e]
    clear e
    have y0 := Y0.out
    have y1 := Y1.out
    have y2 := Y2.out
    have y3 := Y3.out
    have y4 := Y4.out
    have y5 := Y5.out
    have y6 := Y6.out
    have y7 := Y7.out
    have ql := World.block_lt_of_cell? w _ y0
    have ql1 : (ae.add (f.toNat * 8)).block < w.heap.size + 1 := Nat.lt_succ_of_lt ql
    have ql2 : (ae.add (f.toNat * 8)).block < w.heap.size + 1 + 1 := Nat.lt_succ_of_lt ql1
    have ql3 : (ae.add (f.toNat * 8)).block < w.heap.size + 1 + 1 + 1 := Nat.lt_succ_of_lt ql2
    have ql4 : (ae.add (f.toNat * 8)).block < w.heap.size + 1 + 1 + 1 + 1 := Nat.lt_succ_of_lt ql3
    have ql5 : (ae.add (f.toNat * 8)).block < w.heap.size + 1 + 1 + 1 + 1 + 1 := Nat.lt_succ_of_lt ql4
    have ql6 : (ae.add (f.toNat * 8)).block < w.heap.size + 1 + 1 + 1 + 1 + 1 + 1 := Nat.lt_succ_of_lt ql5
    have ql7 : (ae.add (f.toNat * 8)).block < w.heap.size + 1 + 1 + 1 + 1 + 1 + 1 + 1 := Nat.lt_succ_of_lt ql6
    go_enter Try.func14, Try.ntmps14
    go_wp2_with (first | (go_at_call 26; (refine (rgives_c (HX.out.below bel)).mono ?_); rintro e w4 ⟨v4, rfl, hr4, hb4⟩; obtain ⟨Ar4, cr4, rfl⟩ := hr4.slice; have HR4 := Aside0.mk hr4; clear hr4; have HB4 : Below w.heap.size w w4 := below_mid bel hb4; clear hb4))
    refine bodyPost_ret (results_tmp2 rfl _ _ _) rfl ?_
    refine ⟨_, _, rfl, ?_, ?_, bel⟩
    · exact HR4.out.lower (Nat.zero_le _)
    · exact RowT.nil _ _
  have d33 : (op == 33) = false := by simpa using hop
  by_cases hop : op = 31
  · subst hop
    have e : ofV m ⟨f0, f1, ⟨t0, t1⟩, f3, f4, f5, f6⟩ 31 A B = ((rd_T41 m.m A).f0, givesV (rd_T41 m.m A)) := by simp [ofV, plainB, plainV]
    rw [e]
    clear e
    have hAm : A < (m.m.length : Int) := (by have := HN.out; simp [namedB] at this; exact this)
    obtain ⟨ae2, F0', g0', F1', g1', F4', g4', F7', g7', hA3, u0, u1, u2, u3, u4, u5, u6, u7, v0, v1, v2, v3, v4, v5, v6, v7⟩ := at_T41 (show Kd.C k41 w (some ae) m.m.length m.m from HM.out.h3) A hA hAm
    obtain rfl := Option.some.inj hA3
    clear hA3
    have HX2 := Aside0.mk (show MC w ⟨F0', F1', F4', F7', g0', g1', g4', g7'⟩ (rd_T41 m.m A) from ⟨v1, v3, v5, v7, v0, v2, v4, v6⟩)
    clear v0 v1 v2 v3 v4 v5 v6 v7
    have U0 := Aside0.mk u0
    have U1 := Aside0.mk u1
    have U2 := Aside0.mk u2
    have U3 := Aside0.mk u3
    have U4 := Aside0.mk u4
    have U5 := Aside0.mk u5
    have U6 := Aside0.mk u6
    have U7 := Aside0.mk u7
    clear u0 u1 u2 u3 u4 u5 u6 u7
    go_enter Try.func14, Try.ntmps14
    go_wp2_with fail
    refine see (F := fun w0_ => Below w.heap.size w w0_ ∧ w0_.cell? ⟨w.heap.size, 3, none⟩ = some (.slice (some ae) m.m.length c3) ∧ w0_.cell? ⟨w.heap.size + 1, 1, none⟩ = some (.int .i64 A) ∧ w0_.cell? (ae.add (A.toNat * 8)) = some (.slice F0' (rd_T41 m.m A).f0.length g0') ∧ w0_.cell? ⟨(ae.add (A.toNat * 8)).block, (ae.add (A.toNat * 8)).off + 1, none⟩ = some (.slice F1' (rd_T41 m.m A).f1.length g1') ∧ w0_.cell? ⟨(ae.add (A.toNat * 8)).block, (ae.add (A.toNat * 8)).off + 2, none⟩ = some (.int .i64 (rd_T41 m.m A).f2.f0) ∧ w0_.cell? ⟨(ae.add (A.toNat * 8)).block, (ae.add (A.toNat * 8)).off + 3, none⟩ = some (.int .i64 (rd_T41 m.m A).f2.f1) ∧ w0_.cell? ⟨(ae.add (A.toNat * 8)).block, (ae.add (A.toNat * 8)).off + 4, none⟩ = some (.slice F4' (rd_T41 m.m A).f3.length g4') ∧ w0_.cell? ⟨(ae.add (A.toNat * 8)).block, (ae.add (A.toNat * 8)).off + 5, none⟩ = some (.int .i64 (rd_T41 m.m A).f4) ∧ w0_.cell? ⟨(ae.add (A.toNat * 8)).block, (ae.add (A.toNat * 8)).off + 6, none⟩ = some (.int .i64 (rd_T41 m.m A).f5) ∧ w0_.cell? ⟨(ae.add (A.toNat * 8)).block, (ae.add (A.toNat * 8)).off + 7, none⟩ = some (.slice F7' (rd_T41 m.m A).f6.length g7')) _ ⟨bel, (blk_cell (heap_k w [(.cells #[.slice A0 m.c.length c0, .slice A1 m.s.length c1, .slice A2 m.n.length c2, .slice (some ae) m.m.length c3, .slice A4 m.e.length c4, .int .i64 m.sk, .int .i64 m.hp] 28), (.cells #[.int .i64 31, .int .i64 A, .int .i64 B] 44), (.cells #[.int .i64 1, .int .i64 0] 38), (.cells #[.int .i64 2, .int .i64 0] 38), (.cells #[.int .i64 4, .int .i64 0] 38), (.cells #[.int .i64 0, .int .i64 0] 38), (.cells #[.int .i64 3, .int .i64 A] 38)] 0 (by simp)) 3).trans rfl, (blk_cell (heap_k w [(.cells #[.slice A0 m.c.length c0, .slice A1 m.s.length c1, .slice A2 m.n.length c2, .slice (some ae) m.m.length c3, .slice A4 m.e.length c4, .int .i64 m.sk, .int .i64 m.hp] 28), (.cells #[.int .i64 31, .int .i64 A, .int .i64 B] 44), (.cells #[.int .i64 1, .int .i64 0] 38), (.cells #[.int .i64 2, .int .i64 0] 38), (.cells #[.int .i64 4, .int .i64 0] 38), (.cells #[.int .i64 0, .int .i64 0] 38), (.cells #[.int .i64 3, .int .i64 A] 38)] 1 (by simp)) 1).trans rfl, keepc bel U0.out, keepc bel U1.out, keepc bel U2.out, keepc bel U3.out, keepc bel U4.out, keepc bel U5.out, keepc bel U6.out, keepc bel U7.out⟩ ?_
    rintro w0 ⟨hb0_, hq1_, hq2_, hq3_, hq4_, hq5_, hq6_, hq7_, hq8_, hq9_, hq10_⟩
    replace hb0_ := Aside0.mk hb0_
    replace hq1_ := Aside0.mk hq1_
    replace hq2_ := Aside0.mk hq2_
    replace hq3_ := Aside0.mk hq3_
    replace hq4_ := Aside0.mk hq4_
    replace hq5_ := Aside0.mk hq5_
    replace hq6_ := Aside0.mk hq6_
    replace hq7_ := Aside0.mk hq7_
    replace hq8_ := Aside0.mk hq8_
    replace hq9_ := Aside0.mk hq9_
    replace hq10_ := Aside0.mk hq10_
    have KP := Aside0.mk (show ∀ w', Below w0.heap.size w0 w' → (w'.cell? ⟨w.heap.size, 3, none⟩ = some (.slice (some ae) m.m.length c3) ∧ w'.cell? ⟨w.heap.size + 1, 1, none⟩ = some (.int .i64 A) ∧ w'.cell? (ae.add (A.toNat * 8)) = some (.slice F0' (rd_T41 m.m A).f0.length g0') ∧ w'.cell? ⟨(ae.add (A.toNat * 8)).block, (ae.add (A.toNat * 8)).off + 1, none⟩ = some (.slice F1' (rd_T41 m.m A).f1.length g1') ∧ w'.cell? ⟨(ae.add (A.toNat * 8)).block, (ae.add (A.toNat * 8)).off + 2, none⟩ = some (.int .i64 (rd_T41 m.m A).f2.f0) ∧ w'.cell? ⟨(ae.add (A.toNat * 8)).block, (ae.add (A.toNat * 8)).off + 3, none⟩ = some (.int .i64 (rd_T41 m.m A).f2.f1) ∧ w'.cell? ⟨(ae.add (A.toNat * 8)).block, (ae.add (A.toNat * 8)).off + 4, none⟩ = some (.slice F4' (rd_T41 m.m A).f3.length g4') ∧ w'.cell? ⟨(ae.add (A.toNat * 8)).block, (ae.add (A.toNat * 8)).off + 5, none⟩ = some (.int .i64 (rd_T41 m.m A).f4) ∧ w'.cell? ⟨(ae.add (A.toNat * 8)).block, (ae.add (A.toNat * 8)).off + 6, none⟩ = some (.int .i64 (rd_T41 m.m A).f5) ∧ w'.cell? ⟨(ae.add (A.toNat * 8)).block, (ae.add (A.toNat * 8)).off + 7, none⟩ = some (.slice F7' (rd_T41 m.m A).f6.length g7')) from fun w' h => ⟨keepc h hq1_.out, keepc h hq2_.out, keepc h hq3_.out, keepc h hq4_.out, keepc h hq5_.out, keepc h hq6_.out, keepc h hq7_.out, keepc h hq8_.out, keepc h hq9_.out, keepc h hq10_.out⟩)
    go_region_held3 (fun w' => w'.cell? ⟨w.heap.size, 3, none⟩ = some (.slice (some ae) m.m.length c3) ∧ w'.cell? ⟨w.heap.size + 1, 1, none⟩ = some (.int .i64 A) ∧ w'.cell? (ae.add (A.toNat * 8)) = some (.slice F0' (rd_T41 m.m A).f0.length g0') ∧ w'.cell? ⟨(ae.add (A.toNat * 8)).block, (ae.add (A.toNat * 8)).off + 1, none⟩ = some (.slice F1' (rd_T41 m.m A).f1.length g1') ∧ w'.cell? ⟨(ae.add (A.toNat * 8)).block, (ae.add (A.toNat * 8)).off + 2, none⟩ = some (.int .i64 (rd_T41 m.m A).f2.f0) ∧ w'.cell? ⟨(ae.add (A.toNat * 8)).block, (ae.add (A.toNat * 8)).off + 3, none⟩ = some (.int .i64 (rd_T41 m.m A).f2.f1) ∧ w'.cell? ⟨(ae.add (A.toNat * 8)).block, (ae.add (A.toNat * 8)).off + 4, none⟩ = some (.slice F4' (rd_T41 m.m A).f3.length g4') ∧ w'.cell? ⟨(ae.add (A.toNat * 8)).block, (ae.add (A.toNat * 8)).off + 5, none⟩ = some (.int .i64 (rd_T41 m.m A).f4) ∧ w'.cell? ⟨(ae.add (A.toNat * 8)).block, (ae.add (A.toNat * 8)).off + 6, none⟩ = some (.int .i64 (rd_T41 m.m A).f5) ∧ w'.cell? ⟨(ae.add (A.toNat * 8)).block, (ae.add (A.toNat * 8)).off + 7, none⟩ = some (.slice F7' (rd_T41 m.m A).f6.length g7')) (((try dsimp only); first | exact KP.out _ (by assumption) | exact KP.out _ (Below.drew (Below.refl _ _)) | exact KP.out _ (below_alloc (by assumption) _) | exact KP.out _ (below_alloc (Below.refl _ _) _) | exact KP.out _ (below_alloc (below_alloc (Below.refl _ _) _) _) | exact KP.out _ (below_drew (below_alloc (Below.refl _ _) _)) | exact KP.out _ (below_drew (below_alloc (below_alloc (Below.refl _ _) _) _)) | exact KP.out _ (below_drew (below_alloc (by assumption) _)))) (first | ((try go_simp); go_at_call 26; (refine (rgives_c (HX2.out.below (below_step hb0_.out (by first | exact Below.refl _ _ | exact Below.drew (Below.refl _ _) | assumption | exact below_alloc (Below.drew (Below.refl _ _)) _ | exact below_alloc (by assumption) _ | exact below_alloc (Below.refl _ _) _)))).mono ?_); rintro e w4 ⟨v4, rfl, hr4, hb4⟩; have HB4 : Below w0.heap.size w0 w4 := below_step (by first | exact Below.refl _ _ | exact Below.drew (Below.refl _ _) | assumption | exact below_alloc (Below.drew (Below.refl _ _)) _ | exact below_alloc (by assumption) _ | exact below_alloc (Below.refl _ _) _) hb4; obtain ⟨Ar4, cr4, rfl⟩ := hr4.slice; have HR4 := Aside0.mk hr4; clear hr4; have HBB4 := hb4; clear hb4))
    all_goals
      go_wp2_with fail
      refine bodyPost_ret (results_tmp2 rfl _ _ _) rfl ?_
      refine ⟨_, _, rfl, ?_, ?_, (below_step hb0_.out bel)⟩
      · exact RowT.ofC (Kd.C_below HX2.out.h0 (below_step hb0_.out bel)) HX2.out.n0
      · exact HR4.out.lower (Nat.zero_le _)
  have d31 : (op == 31) = false := by simpa using hop
  by_cases hop : op = 28
  · subst hop
    have e : ofV m ⟨f0, f1, ⟨t0, t1⟩, f3, f4, f5, f6⟩ 28 A B = ([tO A, fldV m A B], []) := by simp [ofV, plainB, plainV]
    rw [e]
    clear e
    have hN27 := HN.out
    simp [namedB] at hN27
    have hBf : B < ((flds m.c A).length : Int) := hN27.2
    clear hN27
    go_enter Try.func14, Try.ntmps14
    go_wp2_with fail
    refine see (F := fun w0_ => Below w.heap.size w w0_ ∧ w0_.cell? ⟨w.heap.size + 1 + 1 + 1 + 1 + 1 + 1, 0, none⟩ = some (.int .i64 3) ∧ w0_.cell? ⟨w.heap.size + 1 + 1 + 1 + 1 + 1 + 1, 1, none⟩ = some (.int .i64 A) ∧ w0_.cell? ⟨w.heap.size, 0, none⟩ = some (.slice A0 m.c.length c0) ∧ w0_.cell? ⟨w.heap.size, 1, none⟩ = some (.slice A1 m.s.length c1) ∧ w0_.cell? ⟨w.heap.size, 2, none⟩ = some (.slice A2 m.n.length c2) ∧ w0_.cell? ⟨w.heap.size, 3, none⟩ = some (.slice (some ae) m.m.length c3) ∧ w0_.cell? ⟨w.heap.size, 4, none⟩ = some (.slice A4 m.e.length c4) ∧ w0_.cell? ⟨w.heap.size, 5, none⟩ = some (.int .i64 m.sk) ∧ w0_.cell? ⟨w.heap.size, 6, none⟩ = some (.int .i64 m.hp) ∧ w0_.cell? ⟨w.heap.size + 1, 1, none⟩ = some (.int .i64 A) ∧ w0_.cell? ⟨w.heap.size + 1, 2, none⟩ = some (.int .i64 B)) _ ⟨bel, (blk_cell (heap_k w [(.cells #[.slice A0 m.c.length c0, .slice A1 m.s.length c1, .slice A2 m.n.length c2, .slice (some ae) m.m.length c3, .slice A4 m.e.length c4, .int .i64 m.sk, .int .i64 m.hp] 28), (.cells #[.int .i64 28, .int .i64 A, .int .i64 B] 44), (.cells #[.int .i64 1, .int .i64 0] 38), (.cells #[.int .i64 2, .int .i64 0] 38), (.cells #[.int .i64 4, .int .i64 0] 38), (.cells #[.int .i64 0, .int .i64 0] 38), (.cells #[.int .i64 3, .int .i64 A] 38)] 6 (by simp)) 0).trans rfl, (blk_cell (heap_k w [(.cells #[.slice A0 m.c.length c0, .slice A1 m.s.length c1, .slice A2 m.n.length c2, .slice (some ae) m.m.length c3, .slice A4 m.e.length c4, .int .i64 m.sk, .int .i64 m.hp] 28), (.cells #[.int .i64 28, .int .i64 A, .int .i64 B] 44), (.cells #[.int .i64 1, .int .i64 0] 38), (.cells #[.int .i64 2, .int .i64 0] 38), (.cells #[.int .i64 4, .int .i64 0] 38), (.cells #[.int .i64 0, .int .i64 0] 38), (.cells #[.int .i64 3, .int .i64 A] 38)] 6 (by simp)) 1).trans rfl, (blk_cell (heap_k w [(.cells #[.slice A0 m.c.length c0, .slice A1 m.s.length c1, .slice A2 m.n.length c2, .slice (some ae) m.m.length c3, .slice A4 m.e.length c4, .int .i64 m.sk, .int .i64 m.hp] 28), (.cells #[.int .i64 28, .int .i64 A, .int .i64 B] 44), (.cells #[.int .i64 1, .int .i64 0] 38), (.cells #[.int .i64 2, .int .i64 0] 38), (.cells #[.int .i64 4, .int .i64 0] 38), (.cells #[.int .i64 0, .int .i64 0] 38), (.cells #[.int .i64 3, .int .i64 A] 38)] 0 (by simp)) 0).trans rfl, (blk_cell (heap_k w [(.cells #[.slice A0 m.c.length c0, .slice A1 m.s.length c1, .slice A2 m.n.length c2, .slice (some ae) m.m.length c3, .slice A4 m.e.length c4, .int .i64 m.sk, .int .i64 m.hp] 28), (.cells #[.int .i64 28, .int .i64 A, .int .i64 B] 44), (.cells #[.int .i64 1, .int .i64 0] 38), (.cells #[.int .i64 2, .int .i64 0] 38), (.cells #[.int .i64 4, .int .i64 0] 38), (.cells #[.int .i64 0, .int .i64 0] 38), (.cells #[.int .i64 3, .int .i64 A] 38)] 0 (by simp)) 1).trans rfl, (blk_cell (heap_k w [(.cells #[.slice A0 m.c.length c0, .slice A1 m.s.length c1, .slice A2 m.n.length c2, .slice (some ae) m.m.length c3, .slice A4 m.e.length c4, .int .i64 m.sk, .int .i64 m.hp] 28), (.cells #[.int .i64 28, .int .i64 A, .int .i64 B] 44), (.cells #[.int .i64 1, .int .i64 0] 38), (.cells #[.int .i64 2, .int .i64 0] 38), (.cells #[.int .i64 4, .int .i64 0] 38), (.cells #[.int .i64 0, .int .i64 0] 38), (.cells #[.int .i64 3, .int .i64 A] 38)] 0 (by simp)) 2).trans rfl, (blk_cell (heap_k w [(.cells #[.slice A0 m.c.length c0, .slice A1 m.s.length c1, .slice A2 m.n.length c2, .slice (some ae) m.m.length c3, .slice A4 m.e.length c4, .int .i64 m.sk, .int .i64 m.hp] 28), (.cells #[.int .i64 28, .int .i64 A, .int .i64 B] 44), (.cells #[.int .i64 1, .int .i64 0] 38), (.cells #[.int .i64 2, .int .i64 0] 38), (.cells #[.int .i64 4, .int .i64 0] 38), (.cells #[.int .i64 0, .int .i64 0] 38), (.cells #[.int .i64 3, .int .i64 A] 38)] 0 (by simp)) 3).trans rfl, (blk_cell (heap_k w [(.cells #[.slice A0 m.c.length c0, .slice A1 m.s.length c1, .slice A2 m.n.length c2, .slice (some ae) m.m.length c3, .slice A4 m.e.length c4, .int .i64 m.sk, .int .i64 m.hp] 28), (.cells #[.int .i64 28, .int .i64 A, .int .i64 B] 44), (.cells #[.int .i64 1, .int .i64 0] 38), (.cells #[.int .i64 2, .int .i64 0] 38), (.cells #[.int .i64 4, .int .i64 0] 38), (.cells #[.int .i64 0, .int .i64 0] 38), (.cells #[.int .i64 3, .int .i64 A] 38)] 0 (by simp)) 4).trans rfl, (blk_cell (heap_k w [(.cells #[.slice A0 m.c.length c0, .slice A1 m.s.length c1, .slice A2 m.n.length c2, .slice (some ae) m.m.length c3, .slice A4 m.e.length c4, .int .i64 m.sk, .int .i64 m.hp] 28), (.cells #[.int .i64 28, .int .i64 A, .int .i64 B] 44), (.cells #[.int .i64 1, .int .i64 0] 38), (.cells #[.int .i64 2, .int .i64 0] 38), (.cells #[.int .i64 4, .int .i64 0] 38), (.cells #[.int .i64 0, .int .i64 0] 38), (.cells #[.int .i64 3, .int .i64 A] 38)] 0 (by simp)) 5).trans rfl, (blk_cell (heap_k w [(.cells #[.slice A0 m.c.length c0, .slice A1 m.s.length c1, .slice A2 m.n.length c2, .slice (some ae) m.m.length c3, .slice A4 m.e.length c4, .int .i64 m.sk, .int .i64 m.hp] 28), (.cells #[.int .i64 28, .int .i64 A, .int .i64 B] 44), (.cells #[.int .i64 1, .int .i64 0] 38), (.cells #[.int .i64 2, .int .i64 0] 38), (.cells #[.int .i64 4, .int .i64 0] 38), (.cells #[.int .i64 0, .int .i64 0] 38), (.cells #[.int .i64 3, .int .i64 A] 38)] 0 (by simp)) 6).trans rfl, (blk_cell (heap_k w [(.cells #[.slice A0 m.c.length c0, .slice A1 m.s.length c1, .slice A2 m.n.length c2, .slice (some ae) m.m.length c3, .slice A4 m.e.length c4, .int .i64 m.sk, .int .i64 m.hp] 28), (.cells #[.int .i64 28, .int .i64 A, .int .i64 B] 44), (.cells #[.int .i64 1, .int .i64 0] 38), (.cells #[.int .i64 2, .int .i64 0] 38), (.cells #[.int .i64 4, .int .i64 0] 38), (.cells #[.int .i64 0, .int .i64 0] 38), (.cells #[.int .i64 3, .int .i64 A] 38)] 1 (by simp)) 1).trans rfl, (blk_cell (heap_k w [(.cells #[.slice A0 m.c.length c0, .slice A1 m.s.length c1, .slice A2 m.n.length c2, .slice (some ae) m.m.length c3, .slice A4 m.e.length c4, .int .i64 m.sk, .int .i64 m.hp] 28), (.cells #[.int .i64 28, .int .i64 A, .int .i64 B] 44), (.cells #[.int .i64 1, .int .i64 0] 38), (.cells #[.int .i64 2, .int .i64 0] 38), (.cells #[.int .i64 4, .int .i64 0] 38), (.cells #[.int .i64 0, .int .i64 0] 38), (.cells #[.int .i64 3, .int .i64 A] 38)] 1 (by simp)) 2).trans rfl⟩ ?_
    rintro w0 ⟨hb0_, hq1_, hq2_, hq3_, hq4_, hq5_, hq6_, hq7_, hq8_, hq9_, hq10_, hq11_⟩
    replace hb0_ := Aside0.mk hb0_
    replace hq1_ := Aside0.mk hq1_
    replace hq2_ := Aside0.mk hq2_
    replace hq3_ := Aside0.mk hq3_
    replace hq4_ := Aside0.mk hq4_
    replace hq5_ := Aside0.mk hq5_
    replace hq6_ := Aside0.mk hq6_
    replace hq7_ := Aside0.mk hq7_
    replace hq8_ := Aside0.mk hq8_
    replace hq9_ := Aside0.mk hq9_
    replace hq10_ := Aside0.mk hq10_
    replace hq11_ := Aside0.mk hq11_
    have KP := Aside0.mk (show ∀ w', Below w0.heap.size w0 w' → (w'.cell? ⟨w.heap.size + 1 + 1 + 1 + 1 + 1 + 1, 0, none⟩ = some (.int .i64 3) ∧ w'.cell? ⟨w.heap.size + 1 + 1 + 1 + 1 + 1 + 1, 1, none⟩ = some (.int .i64 A) ∧ w'.cell? ⟨w.heap.size, 0, none⟩ = some (.slice A0 m.c.length c0) ∧ w'.cell? ⟨w.heap.size, 1, none⟩ = some (.slice A1 m.s.length c1) ∧ w'.cell? ⟨w.heap.size, 2, none⟩ = some (.slice A2 m.n.length c2) ∧ w'.cell? ⟨w.heap.size, 3, none⟩ = some (.slice (some ae) m.m.length c3) ∧ w'.cell? ⟨w.heap.size, 4, none⟩ = some (.slice A4 m.e.length c4) ∧ w'.cell? ⟨w.heap.size, 5, none⟩ = some (.int .i64 m.sk) ∧ w'.cell? ⟨w.heap.size, 6, none⟩ = some (.int .i64 m.hp) ∧ w'.cell? ⟨w.heap.size + 1, 1, none⟩ = some (.int .i64 A) ∧ w'.cell? ⟨w.heap.size + 1, 2, none⟩ = some (.int .i64 B)) from fun w' h => ⟨keepc h hq1_.out, keepc h hq2_.out, keepc h hq3_.out, keepc h hq4_.out, keepc h hq5_.out, keepc h hq6_.out, keepc h hq7_.out, keepc h hq8_.out, keepc h hq9_.out, keepc h hq10_.out, keepc h hq11_.out⟩)
    refine wp_region_noPanic ?_
    refine wp_region_held_drew (S := fun w' => w'.cell? ⟨w.heap.size + 1 + 1 + 1 + 1 + 1 + 1, 0, none⟩ = some (.int .i64 3) ∧ w'.cell? ⟨w.heap.size + 1 + 1 + 1 + 1 + 1 + 1, 1, none⟩ = some (.int .i64 A) ∧ w'.cell? ⟨w.heap.size, 0, none⟩ = some (.slice A0 m.c.length c0) ∧ w'.cell? ⟨w.heap.size, 1, none⟩ = some (.slice A1 m.s.length c1) ∧ w'.cell? ⟨w.heap.size, 2, none⟩ = some (.slice A2 m.n.length c2) ∧ w'.cell? ⟨w.heap.size, 3, none⟩ = some (.slice (some ae) m.m.length c3) ∧ w'.cell? ⟨w.heap.size, 4, none⟩ = some (.slice A4 m.e.length c4) ∧ w'.cell? ⟨w.heap.size, 5, none⟩ = some (.int .i64 m.sk) ∧ w'.cell? ⟨w.heap.size, 6, none⟩ = some (.int .i64 m.hp) ∧ w'.cell? ⟨w.heap.size + 1, 1, none⟩ = some (.int .i64 A) ∧ w'.cell? ⟨w.heap.size + 1, 2, none⟩ = some (.int .i64 B)) (by kernel_rfl) (by ((try dsimp only); first | exact KP.out _ (by assumption) | exact KP.out _ (Below.drew (Below.refl _ _)) | exact KP.out _ (below_alloc (by assumption) _) | exact KP.out _ (below_alloc (Below.refl _ _) _) | exact KP.out _ (below_alloc (below_alloc (Below.refl _ _) _) _) | exact KP.out _ (below_drew (below_alloc (Below.refl _ _) _)) | exact KP.out _ (below_drew (below_alloc (below_alloc (Below.refl _ _) _) _)) | exact KP.out _ (below_drew (below_alloc (by assumption) _)))) (fun hHeld => ?_)
    refine wpAnyH_take (i := 0) (oi := _) (v := ?v1) rfl (by kernel_rfl) (by kernel_rfl) (by kernel_rfl) (fun _ _ _ h => h) (Or.inl ⟨by rfl, ?hy1⟩) (by assumption) ?hr1
    case hy1 => (intro w hSw; (try dsimp only at hSw); (first | (go_simp; done) | (go_simp; with_reducible rfl)))
    (try simp only [Act.put, List.getElem_toArray, List.getElem_cons_zero, List.getElem_cons_succ, List.setIfInBounds_toArray, List.set_cons_zero, List.set_cons_succ])
    refine wpAnyH_take (i := 1) (oi := _) (v := ?v2) rfl (by kernel_rfl) (by kernel_rfl) (by kernel_rfl) (fun _ _ _ h => h) (Or.inl ⟨by rfl, ?hy2⟩) (by assumption) ?hr2
    case hy2 => (intro w hSw; (try dsimp only at hSw); (first | (go_simp; done) | (go_simp; with_reducible rfl)))
    (try simp only [Act.put, List.getElem_toArray, List.getElem_cons_zero, List.getElem_cons_succ, List.setIfInBounds_toArray, List.set_cons_zero, List.set_cons_succ])
    refine wpAnyH_take (i := 2) (oi := _) (v := ?v3) rfl (by kernel_rfl) (by kernel_rfl) (by kernel_rfl) (fun _ _ _ h => h) (Or.inl ⟨by rfl, ?hy3⟩) (by assumption) ?hr3
    case hy3 => (intro w hSw; (try dsimp only at hSw); (first | (go_simp; done) | (go_simp; with_reducible rfl)))
    (try simp only [Act.put, List.getElem_toArray, List.getElem_cons_zero, List.getElem_cons_succ, List.setIfInBounds_toArray, List.set_cons_zero, List.set_cons_succ])
    refine wpAnyH_take (i := 3) (oi := _) (v := ?v4) rfl (by kernel_rfl) (by kernel_rfl) (by kernel_rfl) (fun _ _ _ h => h) (Or.inl ⟨by rfl, ?hy4⟩) (by assumption) ?hr4
    case hy4 => (intro w hSw; (try dsimp only at hSw); (first | (go_simp; done) | (go_simp; with_reducible rfl)))
    (try simp only [Act.put, List.getElem_toArray, List.getElem_cons_zero, List.getElem_cons_succ, List.setIfInBounds_toArray, List.set_cons_zero, List.set_cons_succ])
    refine wpAnyH_take (i := 5) (oi := _) (v := ?v5) rfl (by kernel_rfl) (by kernel_rfl) (by kernel_rfl) (fun _ _ _ h => h) (Or.inl ⟨by rfl, ?hy5⟩) (by assumption) ?hr5
    case hy5 => (intro w hSw; (try dsimp only at hSw); (first | (go_simp; done) | (go_simp; with_reducible rfl)))
    (try simp only [Act.put, List.getElem_toArray, List.getElem_cons_zero, List.getElem_cons_succ, List.setIfInBounds_toArray, List.set_cons_zero, List.set_cons_succ])
    refine wpAnyH_take (i := 6) (oi := _) (v := ?v6) rfl (by kernel_rfl) (by kernel_rfl) (by kernel_rfl) (fun _ _ _ h => h) (Or.inl ⟨by rfl, ?hy6⟩) (by assumption) ?hr6
    case hy6 => (intro w hSw; (try dsimp only at hSw); (first | (go_simp; done) | (go_simp; with_reducible rfl)))
    (try simp only [Act.put, List.getElem_toArray, List.getElem_cons_zero, List.getElem_cons_succ, List.setIfInBounds_toArray, List.set_cons_zero, List.set_cons_succ])
    refine wpAnyH_ready (rs := [4]) (by kernel_rfl) (by simp) ?_
    refine AllReadyH.cons (o := _) rfl (fun K hK => ?_) AllReadyH.nil
    first | ((try go_simp); go_at_call 25; (refine (rfields_c (HM.out.below (below_step hb0_.out (by first | exact Below.refl _ _ | exact Below.drew (Below.refl _ _) | assumption | exact below_alloc (Below.drew (Below.refl _ _)) _ | exact below_alloc (by assumption) _ | exact below_alloc (Below.refl _ _) _))) HS.out.fits.tot A).mono ?_); rintro e w5 ⟨v5, rfl, hr5, hb5⟩; have HB5 : Below w0.heap.size w0 w5 := below_step (by first | exact Below.refl _ _ | exact Below.drew (Below.refl _ _) | assumption | exact below_alloc (Below.drew (Below.refl _ _)) _ | exact below_alloc (by assumption) _ | exact below_alloc (Below.refl _ _) _) hb5; obtain ⟨Ar5, cr5, rfl⟩ := hr5.slice; obtain ⟨Af, cf, ef, hcf, hCf⟩ := hr5.form; injection ef with ef1 ef2 ef3; subst ef1 ef3; obtain ⟨adf, eaf, kf0, kf1⟩ := at_T38 hCf B hB hBf; subst eaf; have HCF := Aside0.mk hCf; clear hCf ef2; have HR5 := Aside0.mk hr5; clear hr5; have HBB5 := hb5; clear hb5) | go_simp
    refine hK.out _ _ (by ((try dsimp only); first | exact KP.out _ (by assumption) | exact KP.out _ (Below.drew (Below.refl _ _)) | exact KP.out _ (below_alloc (by assumption) _) | exact KP.out _ (below_alloc (Below.refl _ _) _) | exact KP.out _ (below_alloc (below_alloc (Below.refl _ _) _) _) | exact KP.out _ (below_drew (below_alloc (Below.refl _ _) _)) | exact KP.out _ (below_drew (below_alloc (below_alloc (Below.refl _ _) _) _)) | exact KP.out _ (below_drew (below_alloc (by assumption) _)))) (fun hHeld => ?_)
    clear hK K
    (try simp only [Act.put, List.getElem_toArray, List.getElem_cons_zero, List.getElem_cons_succ, List.setIfInBounds_toArray, List.set_cons_zero, List.set_cons_succ])
    refine wpAnyH_take (i := 7) (oi := _) (v := ?v7) rfl (by kernel_rfl) (by kernel_rfl) (by kernel_rfl) (fun _ _ _ h => h) (Or.inl ⟨by rfl, ?hy7⟩) (by assumption) ?hr7
    case hy7 => (intro w hSw; (try dsimp only at hSw); (first | (go_simp; done) | (go_simp; with_reducible rfl)))
    (try simp only [Act.put, List.getElem_toArray, List.getElem_cons_zero, List.getElem_cons_succ, List.setIfInBounds_toArray, List.set_cons_zero, List.set_cons_succ])
    refine wpAnyH_ready (rs := [8]) (by kernel_rfl) (by simp) ?_
    refine AllReadyH.cons (o := _) rfl (fun K hK => ?_) AllReadyH.nil
    first | ((try go_simp); go_at_call 25; (refine (rfields_c (HM.out.below (below_step hb0_.out (by first | exact Below.refl _ _ | exact Below.drew (Below.refl _ _) | assumption | exact below_alloc (Below.drew (Below.refl _ _)) _ | exact below_alloc (by assumption) _ | exact below_alloc (Below.refl _ _) _))) HS.out.fits.tot A).mono ?_); rintro e w5 ⟨v5, rfl, hr5, hb5⟩; have HB5 : Below w0.heap.size w0 w5 := below_step (by first | exact Below.refl _ _ | exact Below.drew (Below.refl _ _) | assumption | exact below_alloc (Below.drew (Below.refl _ _)) _ | exact below_alloc (by assumption) _ | exact below_alloc (Below.refl _ _) _) hb5; obtain ⟨Ar5, cr5, rfl⟩ := hr5.slice; obtain ⟨Af, cf, ef, hcf, hCf⟩ := hr5.form; injection ef with ef1 ef2 ef3; subst ef1 ef3; obtain ⟨adf, eaf, kf0, kf1⟩ := at_T38 hCf B hB hBf; subst eaf; have HCF := Aside0.mk hCf; clear hCf ef2; have HR5 := Aside0.mk hr5; clear hr5; have HBB5 := hb5; clear hb5) | go_simp
    refine hK.out _ _ (by ((try dsimp only); first | exact KP.out _ (by assumption) | exact KP.out _ (Below.drew (Below.refl _ _)) | exact KP.out _ (below_alloc (by assumption) _) | exact KP.out _ (below_alloc (Below.refl _ _) _) | exact KP.out _ (below_alloc (below_alloc (Below.refl _ _) _) _) | exact KP.out _ (below_drew (below_alloc (Below.refl _ _) _)) | exact KP.out _ (below_drew (below_alloc (below_alloc (Below.refl _ _) _) _)) | exact KP.out _ (below_drew (below_alloc (by assumption) _)))) (fun hHeld => ?_)
    clear hK K
    (try simp only [Act.put, List.getElem_toArray, List.getElem_cons_zero, List.getElem_cons_succ, List.setIfInBounds_toArray, List.set_cons_zero, List.set_cons_succ])
    refine wpAnyH_ready (rs := [9]) (by kernel_rfl) (by simp) ?_
    refine AllReadyH.cons (o := _) rfl (fun K hK => ?_) AllReadyH.nil
    first | ((try go_simp); go_at_call 25; (refine (rfields_c (HM.out.below (below_step hb0_.out (by first | exact Below.refl _ _ | exact Below.drew (Below.refl _ _) | assumption | exact below_alloc (Below.drew (Below.refl _ _)) _ | exact below_alloc (by assumption) _ | exact below_alloc (Below.refl _ _) _))) HS.out.fits.tot A).mono ?_); rintro e w5 ⟨v5, rfl, hr5, hb5⟩; have HB5 : Below w0.heap.size w0 w5 := below_step (by first | exact Below.refl _ _ | exact Below.drew (Below.refl _ _) | assumption | exact below_alloc (Below.drew (Below.refl _ _)) _ | exact below_alloc (by assumption) _ | exact below_alloc (Below.refl _ _) _) hb5; obtain ⟨Ar5, cr5, rfl⟩ := hr5.slice; obtain ⟨Af, cf, ef, hcf, hCf⟩ := hr5.form; injection ef with ef1 ef2 ef3; subst ef1 ef3; obtain ⟨adf, eaf, kf0, kf1⟩ := at_T38 hCf B hB hBf; subst eaf; have HCF := Aside0.mk hCf; clear hCf ef2; have HR5 := Aside0.mk hr5; clear hr5; have HBB5 := hb5; clear hb5) | go_simp
    refine hK.out _ _ (by ((try dsimp only); first | exact KP.out _ (by assumption) | exact KP.out _ (Below.drew (Below.refl _ _)) | exact KP.out _ (below_alloc (by assumption) _) | exact KP.out _ (below_alloc (Below.refl _ _) _) | exact KP.out _ (below_alloc (below_alloc (Below.refl _ _) _) _) | exact KP.out _ (below_drew (below_alloc (Below.refl _ _) _)) | exact KP.out _ (below_drew (below_alloc (below_alloc (Below.refl _ _) _) _)) | exact KP.out _ (below_drew (below_alloc (by assumption) _)))) (fun hHeld => ?_)
    clear hK K
    (try simp only [Act.put, List.getElem_toArray, List.getElem_cons_zero, List.getElem_cons_succ, List.setIfInBounds_toArray, List.set_cons_zero, List.set_cons_succ])
    refine wpAnyH_ready (rs := [10]) (by kernel_rfl) (by simp) ?_
    refine AllReadyH.cons (o := _) rfl (fun K hK => ?_) AllReadyH.nil
    first | ((try go_simp); go_at_call 25; (refine (rfields_c (HM.out.below (below_step hb0_.out (by first | exact Below.refl _ _ | exact Below.drew (Below.refl _ _) | assumption | exact below_alloc (Below.drew (Below.refl _ _)) _ | exact below_alloc (by assumption) _ | exact below_alloc (Below.refl _ _) _))) HS.out.fits.tot A).mono ?_); rintro e w5 ⟨v5, rfl, hr5, hb5⟩; have HB5 : Below w0.heap.size w0 w5 := below_step (by first | exact Below.refl _ _ | exact Below.drew (Below.refl _ _) | assumption | exact below_alloc (Below.drew (Below.refl _ _)) _ | exact below_alloc (by assumption) _ | exact below_alloc (Below.refl _ _) _) hb5; obtain ⟨Ar5, cr5, rfl⟩ := hr5.slice; obtain ⟨Af, cf, ef, hcf, hCf⟩ := hr5.form; injection ef with ef1 ef2 ef3; subst ef1 ef3; obtain ⟨adf, eaf, kf0, kf1⟩ := at_T38 hCf B hB hBf; subst eaf; have HCF := Aside0.mk hCf; clear hCf ef2; have HR5 := Aside0.mk hr5; clear hr5; have HBB5 := hb5; clear hb5) | go_simp
    refine hK.out _ _ (by ((try dsimp only); first | exact KP.out _ (by assumption) | exact KP.out _ (Below.drew (Below.refl _ _)) | exact KP.out _ (below_alloc (by assumption) _) | exact KP.out _ (below_alloc (Below.refl _ _) _) | exact KP.out _ (below_alloc (below_alloc (Below.refl _ _) _) _) | exact KP.out _ (below_drew (below_alloc (Below.refl _ _) _)) | exact KP.out _ (below_drew (below_alloc (below_alloc (Below.refl _ _) _) _)) | exact KP.out _ (below_drew (below_alloc (by assumption) _)))) (fun hHeld => ?_)
    clear hK K
    (try simp only [Act.put, List.getElem_toArray, List.getElem_cons_zero, List.getElem_cons_succ, List.setIfInBounds_toArray, List.set_cons_zero, List.set_cons_succ])
    refine wpAnyH_ready (rs := [11]) (by kernel_rfl) (by simp) ?_
    refine AllReadyH.cons (o := _) rfl (fun K hK => ?_) AllReadyH.nil
    first | ((try go_simp); go_at_call 25; (refine (rfields_c (HM.out.below (below_step hb0_.out (by first | exact Below.refl _ _ | exact Below.drew (Below.refl _ _) | assumption | exact below_alloc (Below.drew (Below.refl _ _)) _ | exact below_alloc (by assumption) _ | exact below_alloc (Below.refl _ _) _))) HS.out.fits.tot A).mono ?_); rintro e w5 ⟨v5, rfl, hr5, hb5⟩; have HB5 : Below w0.heap.size w0 w5 := below_step (by first | exact Below.refl _ _ | exact Below.drew (Below.refl _ _) | assumption | exact below_alloc (Below.drew (Below.refl _ _)) _ | exact below_alloc (by assumption) _ | exact below_alloc (Below.refl _ _) _) hb5; obtain ⟨Ar5, cr5, rfl⟩ := hr5.slice; obtain ⟨Af, cf, ef, hcf, hCf⟩ := hr5.form; injection ef with ef1 ef2 ef3; subst ef1 ef3; obtain ⟨adf, eaf, kf0, kf1⟩ := at_T38 hCf B hB hBf; subst eaf; have HCF := Aside0.mk hCf; clear hCf ef2; have HR5 := Aside0.mk hr5; clear hr5; have HBB5 := hb5; clear hb5) | go_simp
    refine hK.out _ _ (by ((try dsimp only); first | exact KP.out _ (by assumption) | exact KP.out _ (Below.drew (Below.refl _ _)) | exact KP.out _ (below_alloc (by assumption) _) | exact KP.out _ (below_alloc (Below.refl _ _) _) | exact KP.out _ (below_alloc (below_alloc (Below.refl _ _) _) _) | exact KP.out _ (below_drew (below_alloc (Below.refl _ _) _)) | exact KP.out _ (below_drew (below_alloc (below_alloc (Below.refl _ _) _) _)) | exact KP.out _ (below_drew (below_alloc (by assumption) _)))) (fun hHeld => ?_)
    clear hK K
    (try simp only [Act.put, List.getElem_toArray, List.getElem_cons_zero, List.getElem_cons_succ, List.setIfInBounds_toArray, List.set_cons_zero, List.set_cons_succ])
    refine wpAnyH_done (by kernel_rfl) ?_ _
    refine NoPanic.normal ?_
    go_wp2_with fail
    all_goals
      refine bodyPost_ret (results_tmp2 rfl _ _ _) rfl ?_
      refine ⟨_, _, rfl, ?_, ?_, (below_step hb0_.out bel)⟩
      · refine RowT.blk (xs := [tO A, fldV m A B]) ?_ (by simp) (Nat.zero_le _)
        first | exact blk_drew (blk_alloc (heap_alloc_at _ _ _ (by simp)) _) | exact blk_drew (heap_alloc_at _ _ _ (by simp)) | exact blk_alloc (heap_alloc_at _ _ _ (by simp)) _ | exact heap_alloc_at _ _ _ (by simp) | exact blk_below (blk_drew (heap_alloc_new w0 _)) HBB5 | exact blk_below (blk_drew (heap_alloc_new w0 _)) HBB4
      · exact RowT.nil _ _
  have d28 : (op == 28) = false := by simpa using hop
  by_cases hop : op = 27
  · subst hop
    obtain ⟨b, hb⟩ : ∃ b : Nat, B = (b : Int) := ⟨B.toNat, by omega⟩
    subst hb
    have e : ofV m ⟨f0, f1, ⟨t0, t1⟩, f3, f4, f5, f6⟩ 27 A (b : Int) = ([tO A], [fldV m A (b : Int)]) := by simp [ofV, plainB, plainV]
    rw [e]
    clear e
    have hN27 := HN.out
    simp [namedB] at hN27
    have hBf : b < (flds m.c A).length := by omega
    clear hN27
    obtain ⟨n, hn⟩ : ∃ n, n = b + 1 := ⟨_, rfl⟩
    have e4 : IntKind.i64.wrap ((b : Int) + 1) = (n : Int) := by rw [hn]; exact IntWalk.i64_in _ (by omega)
    have hn1 : (b : Int) ≤ (n : Int) := by omega
    have hn2 : n ≤ (flds m.c A).length := by omega
    have hn3 : b < (flds m.c A).length := by omega
    go_enter Try.func14, Try.ntmps14
    go_wp2_with fail
    refine see (F := fun w0_ => Below w.heap.size w w0_ ∧ w0_.cell? ⟨w.heap.size + 1 + 1 + 1 + 1 + 1 + 1, 0, none⟩ = some (.int .i64 3) ∧ w0_.cell? ⟨w.heap.size + 1 + 1 + 1 + 1 + 1 + 1, 1, none⟩ = some (.int .i64 A) ∧ w0_.cell? ⟨w.heap.size, 0, none⟩ = some (.slice A0 m.c.length c0) ∧ w0_.cell? ⟨w.heap.size, 1, none⟩ = some (.slice A1 m.s.length c1) ∧ w0_.cell? ⟨w.heap.size, 2, none⟩ = some (.slice A2 m.n.length c2) ∧ w0_.cell? ⟨w.heap.size, 3, none⟩ = some (.slice (some ae) m.m.length c3) ∧ w0_.cell? ⟨w.heap.size, 4, none⟩ = some (.slice A4 m.e.length c4) ∧ w0_.cell? ⟨w.heap.size, 5, none⟩ = some (.int .i64 m.sk) ∧ w0_.cell? ⟨w.heap.size, 6, none⟩ = some (.int .i64 m.hp) ∧ w0_.cell? ⟨w.heap.size + 1, 1, none⟩ = some (.int .i64 A) ∧ w0_.cell? ⟨w.heap.size + 1, 2, none⟩ = some (.int .i64 (b : Int))) _ ⟨bel, (blk_cell (heap_k w [(.cells #[.slice A0 m.c.length c0, .slice A1 m.s.length c1, .slice A2 m.n.length c2, .slice (some ae) m.m.length c3, .slice A4 m.e.length c4, .int .i64 m.sk, .int .i64 m.hp] 28), (.cells #[.int .i64 27, .int .i64 A, .int .i64 (b : Int)] 44), (.cells #[.int .i64 1, .int .i64 0] 38), (.cells #[.int .i64 2, .int .i64 0] 38), (.cells #[.int .i64 4, .int .i64 0] 38), (.cells #[.int .i64 0, .int .i64 0] 38), (.cells #[.int .i64 3, .int .i64 A] 38)] 6 (by simp)) 0).trans rfl, (blk_cell (heap_k w [(.cells #[.slice A0 m.c.length c0, .slice A1 m.s.length c1, .slice A2 m.n.length c2, .slice (some ae) m.m.length c3, .slice A4 m.e.length c4, .int .i64 m.sk, .int .i64 m.hp] 28), (.cells #[.int .i64 27, .int .i64 A, .int .i64 (b : Int)] 44), (.cells #[.int .i64 1, .int .i64 0] 38), (.cells #[.int .i64 2, .int .i64 0] 38), (.cells #[.int .i64 4, .int .i64 0] 38), (.cells #[.int .i64 0, .int .i64 0] 38), (.cells #[.int .i64 3, .int .i64 A] 38)] 6 (by simp)) 1).trans rfl, (blk_cell (heap_k w [(.cells #[.slice A0 m.c.length c0, .slice A1 m.s.length c1, .slice A2 m.n.length c2, .slice (some ae) m.m.length c3, .slice A4 m.e.length c4, .int .i64 m.sk, .int .i64 m.hp] 28), (.cells #[.int .i64 27, .int .i64 A, .int .i64 (b : Int)] 44), (.cells #[.int .i64 1, .int .i64 0] 38), (.cells #[.int .i64 2, .int .i64 0] 38), (.cells #[.int .i64 4, .int .i64 0] 38), (.cells #[.int .i64 0, .int .i64 0] 38), (.cells #[.int .i64 3, .int .i64 A] 38)] 0 (by simp)) 0).trans rfl, (blk_cell (heap_k w [(.cells #[.slice A0 m.c.length c0, .slice A1 m.s.length c1, .slice A2 m.n.length c2, .slice (some ae) m.m.length c3, .slice A4 m.e.length c4, .int .i64 m.sk, .int .i64 m.hp] 28), (.cells #[.int .i64 27, .int .i64 A, .int .i64 (b : Int)] 44), (.cells #[.int .i64 1, .int .i64 0] 38), (.cells #[.int .i64 2, .int .i64 0] 38), (.cells #[.int .i64 4, .int .i64 0] 38), (.cells #[.int .i64 0, .int .i64 0] 38), (.cells #[.int .i64 3, .int .i64 A] 38)] 0 (by simp)) 1).trans rfl, (blk_cell (heap_k w [(.cells #[.slice A0 m.c.length c0, .slice A1 m.s.length c1, .slice A2 m.n.length c2, .slice (some ae) m.m.length c3, .slice A4 m.e.length c4, .int .i64 m.sk, .int .i64 m.hp] 28), (.cells #[.int .i64 27, .int .i64 A, .int .i64 (b : Int)] 44), (.cells #[.int .i64 1, .int .i64 0] 38), (.cells #[.int .i64 2, .int .i64 0] 38), (.cells #[.int .i64 4, .int .i64 0] 38), (.cells #[.int .i64 0, .int .i64 0] 38), (.cells #[.int .i64 3, .int .i64 A] 38)] 0 (by simp)) 2).trans rfl, (blk_cell (heap_k w [(.cells #[.slice A0 m.c.length c0, .slice A1 m.s.length c1, .slice A2 m.n.length c2, .slice (some ae) m.m.length c3, .slice A4 m.e.length c4, .int .i64 m.sk, .int .i64 m.hp] 28), (.cells #[.int .i64 27, .int .i64 A, .int .i64 (b : Int)] 44), (.cells #[.int .i64 1, .int .i64 0] 38), (.cells #[.int .i64 2, .int .i64 0] 38), (.cells #[.int .i64 4, .int .i64 0] 38), (.cells #[.int .i64 0, .int .i64 0] 38), (.cells #[.int .i64 3, .int .i64 A] 38)] 0 (by simp)) 3).trans rfl, (blk_cell (heap_k w [(.cells #[.slice A0 m.c.length c0, .slice A1 m.s.length c1, .slice A2 m.n.length c2, .slice (some ae) m.m.length c3, .slice A4 m.e.length c4, .int .i64 m.sk, .int .i64 m.hp] 28), (.cells #[.int .i64 27, .int .i64 A, .int .i64 (b : Int)] 44), (.cells #[.int .i64 1, .int .i64 0] 38), (.cells #[.int .i64 2, .int .i64 0] 38), (.cells #[.int .i64 4, .int .i64 0] 38), (.cells #[.int .i64 0, .int .i64 0] 38), (.cells #[.int .i64 3, .int .i64 A] 38)] 0 (by simp)) 4).trans rfl, (blk_cell (heap_k w [(.cells #[.slice A0 m.c.length c0, .slice A1 m.s.length c1, .slice A2 m.n.length c2, .slice (some ae) m.m.length c3, .slice A4 m.e.length c4, .int .i64 m.sk, .int .i64 m.hp] 28), (.cells #[.int .i64 27, .int .i64 A, .int .i64 (b : Int)] 44), (.cells #[.int .i64 1, .int .i64 0] 38), (.cells #[.int .i64 2, .int .i64 0] 38), (.cells #[.int .i64 4, .int .i64 0] 38), (.cells #[.int .i64 0, .int .i64 0] 38), (.cells #[.int .i64 3, .int .i64 A] 38)] 0 (by simp)) 5).trans rfl, (blk_cell (heap_k w [(.cells #[.slice A0 m.c.length c0, .slice A1 m.s.length c1, .slice A2 m.n.length c2, .slice (some ae) m.m.length c3, .slice A4 m.e.length c4, .int .i64 m.sk, .int .i64 m.hp] 28), (.cells #[.int .i64 27, .int .i64 A, .int .i64 (b : Int)] 44), (.cells #[.int .i64 1, .int .i64 0] 38), (.cells #[.int .i64 2, .int .i64 0] 38), (.cells #[.int .i64 4, .int .i64 0] 38), (.cells #[.int .i64 0, .int .i64 0] 38), (.cells #[.int .i64 3, .int .i64 A] 38)] 0 (by simp)) 6).trans rfl, (blk_cell (heap_k w [(.cells #[.slice A0 m.c.length c0, .slice A1 m.s.length c1, .slice A2 m.n.length c2, .slice (some ae) m.m.length c3, .slice A4 m.e.length c4, .int .i64 m.sk, .int .i64 m.hp] 28), (.cells #[.int .i64 27, .int .i64 A, .int .i64 (b : Int)] 44), (.cells #[.int .i64 1, .int .i64 0] 38), (.cells #[.int .i64 2, .int .i64 0] 38), (.cells #[.int .i64 4, .int .i64 0] 38), (.cells #[.int .i64 0, .int .i64 0] 38), (.cells #[.int .i64 3, .int .i64 A] 38)] 1 (by simp)) 1).trans rfl, (blk_cell (heap_k w [(.cells #[.slice A0 m.c.length c0, .slice A1 m.s.length c1, .slice A2 m.n.length c2, .slice (some ae) m.m.length c3, .slice A4 m.e.length c4, .int .i64 m.sk, .int .i64 m.hp] 28), (.cells #[.int .i64 27, .int .i64 A, .int .i64 (b : Int)] 44), (.cells #[.int .i64 1, .int .i64 0] 38), (.cells #[.int .i64 2, .int .i64 0] 38), (.cells #[.int .i64 4, .int .i64 0] 38), (.cells #[.int .i64 0, .int .i64 0] 38), (.cells #[.int .i64 3, .int .i64 A] 38)] 1 (by simp)) 2).trans rfl⟩ ?_
    rintro w0 ⟨hb0_, hq1_, hq2_, hq3_, hq4_, hq5_, hq6_, hq7_, hq8_, hq9_, hq10_, hq11_⟩
    replace hb0_ := Aside0.mk hb0_
    replace hq1_ := Aside0.mk hq1_
    replace hq2_ := Aside0.mk hq2_
    replace hq3_ := Aside0.mk hq3_
    replace hq4_ := Aside0.mk hq4_
    replace hq5_ := Aside0.mk hq5_
    replace hq6_ := Aside0.mk hq6_
    replace hq7_ := Aside0.mk hq7_
    replace hq8_ := Aside0.mk hq8_
    replace hq9_ := Aside0.mk hq9_
    replace hq10_ := Aside0.mk hq10_
    replace hq11_ := Aside0.mk hq11_
    have KP := Aside0.mk (show ∀ w', Below w0.heap.size w0 w' → (w'.cell? ⟨w.heap.size + 1 + 1 + 1 + 1 + 1 + 1, 0, none⟩ = some (.int .i64 3) ∧ w'.cell? ⟨w.heap.size + 1 + 1 + 1 + 1 + 1 + 1, 1, none⟩ = some (.int .i64 A) ∧ w'.cell? ⟨w.heap.size, 0, none⟩ = some (.slice A0 m.c.length c0) ∧ w'.cell? ⟨w.heap.size, 1, none⟩ = some (.slice A1 m.s.length c1) ∧ w'.cell? ⟨w.heap.size, 2, none⟩ = some (.slice A2 m.n.length c2) ∧ w'.cell? ⟨w.heap.size, 3, none⟩ = some (.slice (some ae) m.m.length c3) ∧ w'.cell? ⟨w.heap.size, 4, none⟩ = some (.slice A4 m.e.length c4) ∧ w'.cell? ⟨w.heap.size, 5, none⟩ = some (.int .i64 m.sk) ∧ w'.cell? ⟨w.heap.size, 6, none⟩ = some (.int .i64 m.hp) ∧ w'.cell? ⟨w.heap.size + 1, 1, none⟩ = some (.int .i64 A) ∧ w'.cell? ⟨w.heap.size + 1, 2, none⟩ = some (.int .i64 (b : Int))) from fun w' h => ⟨keepc h hq1_.out, keepc h hq2_.out, keepc h hq3_.out, keepc h hq4_.out, keepc h hq5_.out, keepc h hq6_.out, keepc h hq7_.out, keepc h hq8_.out, keepc h hq9_.out, keepc h hq10_.out, keepc h hq11_.out⟩)
    refine wp_region_noPanic ?_
    refine wp_region_held_drew (S := fun w' => w'.cell? ⟨w.heap.size + 1 + 1 + 1 + 1 + 1 + 1, 0, none⟩ = some (.int .i64 3) ∧ w'.cell? ⟨w.heap.size + 1 + 1 + 1 + 1 + 1 + 1, 1, none⟩ = some (.int .i64 A) ∧ w'.cell? ⟨w.heap.size, 0, none⟩ = some (.slice A0 m.c.length c0) ∧ w'.cell? ⟨w.heap.size, 1, none⟩ = some (.slice A1 m.s.length c1) ∧ w'.cell? ⟨w.heap.size, 2, none⟩ = some (.slice A2 m.n.length c2) ∧ w'.cell? ⟨w.heap.size, 3, none⟩ = some (.slice (some ae) m.m.length c3) ∧ w'.cell? ⟨w.heap.size, 4, none⟩ = some (.slice A4 m.e.length c4) ∧ w'.cell? ⟨w.heap.size, 5, none⟩ = some (.int .i64 m.sk) ∧ w'.cell? ⟨w.heap.size, 6, none⟩ = some (.int .i64 m.hp) ∧ w'.cell? ⟨w.heap.size + 1, 1, none⟩ = some (.int .i64 A) ∧ w'.cell? ⟨w.heap.size + 1, 2, none⟩ = some (.int .i64 (b : Int))) (by kernel_rfl) (by ((try dsimp only); first | exact KP.out _ (by assumption) | exact KP.out _ (Below.drew (Below.refl _ _)) | exact KP.out _ (below_alloc (by assumption) _) | exact KP.out _ (below_alloc (Below.refl _ _) _) | exact KP.out _ (below_alloc (below_alloc (Below.refl _ _) _) _) | exact KP.out _ (below_drew (below_alloc (Below.refl _ _) _)) | exact KP.out _ (below_drew (below_alloc (below_alloc (Below.refl _ _) _) _)) | exact KP.out _ (below_drew (below_alloc (by assumption) _)))) (fun hHeld => ?_)
    refine wpAnyH_take (i := 0) (oi := _) (v := ?v8) rfl (by kernel_rfl) (by kernel_rfl) (by kernel_rfl) (fun _ _ _ h => h) (Or.inl ⟨by rfl, ?hy8⟩) (by assumption) ?hr8
    case hy8 => (intro w hSw; (try dsimp only at hSw); (first | (go_simp; done) | (go_simp; with_reducible rfl)))
    (try simp only [Act.put, List.getElem_toArray, List.getElem_cons_zero, List.getElem_cons_succ, List.setIfInBounds_toArray, List.set_cons_zero, List.set_cons_succ])
    refine wpAnyH_take (i := 2) (oi := _) (v := ?v9) rfl (by kernel_rfl) (by kernel_rfl) (by kernel_rfl) (fun _ _ _ h => h) (Or.inl ⟨by rfl, ?hy9⟩) (by assumption) ?hr9
    case hy9 => (intro w hSw; (try dsimp only at hSw); (first | (go_simp; done) | (go_simp; with_reducible rfl)))
    (try simp only [Act.put, List.getElem_toArray, List.getElem_cons_zero, List.getElem_cons_succ, List.setIfInBounds_toArray, List.set_cons_zero, List.set_cons_succ])
    refine wpAnyH_take (i := 3) (oi := _) (v := ?v10) rfl (by kernel_rfl) (by kernel_rfl) (by kernel_rfl) (fun _ _ _ h => h) (Or.inl ⟨by rfl, ?hy10⟩) (by assumption) ?hr10
    case hy10 => (intro w hSw; (try dsimp only at hSw); (first | (go_simp; done) | (go_simp; with_reducible rfl)))
    (try simp only [Act.put, List.getElem_toArray, List.getElem_cons_zero, List.getElem_cons_succ, List.setIfInBounds_toArray, List.set_cons_zero, List.set_cons_succ])
    refine wpAnyH_take (i := 4) (oi := _) (v := ?v11) rfl (by kernel_rfl) (by kernel_rfl) (by kernel_rfl) (fun _ _ _ h => h) (Or.inl ⟨by rfl, ?hy11⟩) (by assumption) ?hr11
    case hy11 => (intro w hSw; (try dsimp only at hSw); (first | (go_simp; done) | (go_simp; with_reducible rfl)))
    (try simp only [Act.put, List.getElem_toArray, List.getElem_cons_zero, List.getElem_cons_succ, List.setIfInBounds_toArray, List.set_cons_zero, List.set_cons_succ])
    refine wpAnyH_take (i := 6) (oi := _) (v := ?v12) rfl (by kernel_rfl) (by kernel_rfl) (by kernel_rfl) (fun _ _ _ h => h) (Or.inl ⟨by rfl, ?hy12⟩) (by assumption) ?hr12
    case hy12 => (intro w hSw; (try dsimp only at hSw); (first | (go_simp; done) | (go_simp; with_reducible rfl)))
    (try simp only [Act.put, List.getElem_toArray, List.getElem_cons_zero, List.getElem_cons_succ, List.setIfInBounds_toArray, List.set_cons_zero, List.set_cons_succ])
    refine wpAnyH_take (i := 7) (oi := _) (v := ?v13) rfl (by kernel_rfl) (by kernel_rfl) (by kernel_rfl) (fun _ _ _ h => h) (Or.inl ⟨by rfl, ?hy13⟩) (by assumption) ?hr13
    case hy13 => (intro w hSw; (try dsimp only at hSw); (first | (go_simp; done) | (go_simp; with_reducible rfl)))
    (try simp only [Act.put, List.getElem_toArray, List.getElem_cons_zero, List.getElem_cons_succ, List.setIfInBounds_toArray, List.set_cons_zero, List.set_cons_succ])
    refine wpAnyH_take (i := 8) (oi := _) (v := ?v14) rfl (by kernel_rfl) (by kernel_rfl) (by kernel_rfl) (fun _ _ _ h => h) (Or.inl ⟨by rfl, ?hy14⟩) (by assumption) ?hr14
    case hy14 => (intro w hSw; (try dsimp only at hSw); (first | (go_simp; done) | (go_simp; with_reducible rfl)))
    (try simp only [Act.put, List.getElem_toArray, List.getElem_cons_zero, List.getElem_cons_succ, List.setIfInBounds_toArray, List.set_cons_zero, List.set_cons_succ])
    refine wpAnyH_take (i := 9) (oi := _) (v := ?v15) rfl (by kernel_rfl) (by kernel_rfl) (by kernel_rfl) (fun _ _ _ h => h) (Or.inl ⟨by rfl, ?hy15⟩) (by assumption) ?hr15
    case hy15 => (intro w hSw; (try dsimp only at hSw); (first | (go_simp; done) | (go_simp; with_reducible rfl)))
    (try simp only [Act.put, List.getElem_toArray, List.getElem_cons_zero, List.getElem_cons_succ, List.setIfInBounds_toArray, List.set_cons_zero, List.set_cons_succ])
    refine wpAnyH_take (i := 10) (oi := _) (v := ?v16) rfl (by kernel_rfl) (by kernel_rfl) (by kernel_rfl) (fun _ _ _ h => h) (Or.inl ⟨by rfl, ?hy16⟩) (by assumption) ?hr16
    case hy16 => (intro w hSw; (try dsimp only at hSw); (first | (go_simp; done) | (go_simp; with_reducible rfl)))
    (try simp only [Act.put, List.getElem_toArray, List.getElem_cons_zero, List.getElem_cons_succ, List.setIfInBounds_toArray, List.set_cons_zero, List.set_cons_succ])
    refine wpAnyH_ready (rs := [1, 5]) (by kernel_rfl) (by simp) ?_
    refine AllReadyH.cons (o := _) rfl (fun K hK => ?_) (AllReadyH.cons (o := _) rfl (fun K hK => ?_) (AllReadyH.nil))
    · first | ((try go_simp); go_at_call 25; (refine (rfields_c (HM.out.below (below_step hb0_.out (by first | exact Below.refl _ _ | exact Below.drew (Below.refl _ _) | assumption | exact below_alloc (Below.drew (Below.refl _ _)) _ | exact below_alloc (by assumption) _ | exact below_alloc (Below.refl _ _) _))) HS.out.fits.tot A).mono ?_); rintro e w5 ⟨v5, rfl, hr5, hb5⟩; have HB5 : Below w0.heap.size w0 w5 := below_step (by first | exact Below.refl _ _ | exact Below.drew (Below.refl _ _) | assumption | exact below_alloc (Below.drew (Below.refl _ _)) _ | exact below_alloc (by assumption) _ | exact below_alloc (Below.refl _ _) _) hb5; obtain ⟨Ar5, cr5, rfl⟩ := hr5.slice; obtain ⟨Af, cf, ef, hcf, hCf⟩ := hr5.form; injection ef with ef1 ef2 ef3; subst ef1 ef3; have HCF := Aside0.mk hCf; clear hCf ef2; have hc5 : (b : Int) + 1 ≤ (cr5 : Int) := (by omega); have hc7 : (0 : Int) ≤ (b : Int) + 1 := (by omega); have hc6 : ¬ cr5 = b := (by omega); have HR5 := Aside0.mk hr5; clear hr5; have HBB5 := hb5; clear hb5) | go_simp
      refine hK.out _ _ (by ((try dsimp only); first | exact KP.out _ (by assumption) | exact KP.out _ (Below.drew (Below.refl _ _)) | exact KP.out _ (below_alloc (by assumption) _) | exact KP.out _ (below_alloc (Below.refl _ _) _) | exact KP.out _ (below_alloc (below_alloc (Below.refl _ _) _) _) | exact KP.out _ (below_drew (below_alloc (Below.refl _ _) _)) | exact KP.out _ (below_drew (below_alloc (below_alloc (Below.refl _ _) _) _)) | exact KP.out _ (below_drew (below_alloc (by assumption) _)))) (fun hHeld => ?_)
      clear hK K
      (try simp only [Act.put, List.getElem_toArray, List.getElem_cons_zero, List.getElem_cons_succ, List.setIfInBounds_toArray, List.set_cons_zero, List.set_cons_succ])
      refine wpAnyH_ready (rs := [5]) (by kernel_rfl) (by simp) ?_
      refine AllReadyH.cons (o := _) rfl (fun K hK => ?_) AllReadyH.nil
      first | ((try go_simp); go_at_call 25; (refine (rfields_c (HM.out.below (below_step hb0_.out (by first | exact Below.refl _ _ | exact Below.drew (Below.refl _ _) | assumption | exact below_alloc (Below.drew (Below.refl _ _)) _ | exact below_alloc (by assumption) _ | exact below_alloc (Below.refl _ _) _))) HS.out.fits.tot A).mono ?_); rintro e w5 ⟨v5, rfl, hr5, hb5⟩; have HB5 : Below w0.heap.size w0 w5 := below_step (by first | exact Below.refl _ _ | exact Below.drew (Below.refl _ _) | assumption | exact below_alloc (Below.drew (Below.refl _ _)) _ | exact below_alloc (by assumption) _ | exact below_alloc (Below.refl _ _) _) hb5; obtain ⟨Ar5, cr5, rfl⟩ := hr5.slice; obtain ⟨Af, cf, ef, hcf, hCf⟩ := hr5.form; injection ef with ef1 ef2 ef3; subst ef1 ef3; have HCF := Aside0.mk hCf; clear hCf ef2; have hc5 : (b : Int) + 1 ≤ (cr5 : Int) := (by omega); have hc7 : (0 : Int) ≤ (b : Int) + 1 := (by omega); have hc6 : ¬ cr5 = b := (by omega); have HR5 := Aside0.mk hr5; clear hr5; have HBB5 := hb5; clear hb5) | go_simp
      refine hK.out _ _ (by ((try dsimp only); first | exact KP.out _ (by assumption) | exact KP.out _ (Below.drew (Below.refl _ _)) | exact KP.out _ (below_alloc (by assumption) _) | exact KP.out _ (below_alloc (Below.refl _ _) _) | exact KP.out _ (below_alloc (below_alloc (Below.refl _ _) _) _) | exact KP.out _ (below_drew (below_alloc (Below.refl _ _) _)) | exact KP.out _ (below_drew (below_alloc (below_alloc (Below.refl _ _) _) _)) | exact KP.out _ (below_drew (below_alloc (by assumption) _)))) (fun hHeld => ?_)
      clear hK K
      (try simp only [Act.put, List.getElem_toArray, List.getElem_cons_zero, List.getElem_cons_succ, List.setIfInBounds_toArray, List.set_cons_zero, List.set_cons_succ])
      refine wpAnyH_take (i := 11) (oi := _) (v := ?v17) rfl (by kernel_rfl) (by kernel_rfl) (by kernel_rfl) (fun _ _ _ h => h) (Or.inl ⟨by rfl, ?hy17⟩) (by assumption) ?hr17
      case hy17 => (intro w hSw; (try dsimp only at hSw); (first | (go_simp; done) | (go_simp; with_reducible rfl)))
      (try simp only [Act.put, List.getElem_toArray, List.getElem_cons_zero, List.getElem_cons_succ, List.setIfInBounds_toArray, List.set_cons_zero, List.set_cons_succ])
      refine wpAnyH_ready (rs := [12]) (by kernel_rfl) (by simp) ?_
      refine AllReadyH.cons (o := _) rfl (fun K hK => ?_) AllReadyH.nil
      first | ((try go_simp); go_at_call 25; (refine (rfields_c (HM.out.below (below_step hb0_.out (by first | exact Below.refl _ _ | exact Below.drew (Below.refl _ _) | assumption | exact below_alloc (Below.drew (Below.refl _ _)) _ | exact below_alloc (by assumption) _ | exact below_alloc (Below.refl _ _) _))) HS.out.fits.tot A).mono ?_); rintro e w5 ⟨v5, rfl, hr5, hb5⟩; have HB5 : Below w0.heap.size w0 w5 := below_step (by first | exact Below.refl _ _ | exact Below.drew (Below.refl _ _) | assumption | exact below_alloc (Below.drew (Below.refl _ _)) _ | exact below_alloc (by assumption) _ | exact below_alloc (Below.refl _ _) _) hb5; obtain ⟨Ar5, cr5, rfl⟩ := hr5.slice; obtain ⟨Af, cf, ef, hcf, hCf⟩ := hr5.form; injection ef with ef1 ef2 ef3; subst ef1 ef3; have HCF := Aside0.mk hCf; clear hCf ef2; have hc5 : (b : Int) + 1 ≤ (cr5 : Int) := (by omega); have hc7 : (0 : Int) ≤ (b : Int) + 1 := (by omega); have hc6 : ¬ cr5 = b := (by omega); have HR5 := Aside0.mk hr5; clear hr5; have HBB5 := hb5; clear hb5) | go_simp
      refine hK.out _ _ (by ((try dsimp only); first | exact KP.out _ (by assumption) | exact KP.out _ (Below.drew (Below.refl _ _)) | exact KP.out _ (below_alloc (by assumption) _) | exact KP.out _ (below_alloc (Below.refl _ _) _) | exact KP.out _ (below_alloc (below_alloc (Below.refl _ _) _) _) | exact KP.out _ (below_drew (below_alloc (Below.refl _ _) _)) | exact KP.out _ (below_drew (below_alloc (below_alloc (Below.refl _ _) _) _)) | exact KP.out _ (below_drew (below_alloc (by assumption) _)))) (fun hHeld => ?_)
      clear hK K
      (try simp only [Act.put, List.getElem_toArray, List.getElem_cons_zero, List.getElem_cons_succ, List.setIfInBounds_toArray, List.set_cons_zero, List.set_cons_succ])
      refine wpAnyH_ready (rs := [13]) (by kernel_rfl) (by simp) ?_
      refine AllReadyH.cons (o := _) rfl (fun K hK => ?_) AllReadyH.nil
      first | ((try go_simp); go_at_call 25; (refine (rfields_c (HM.out.below (below_step hb0_.out (by first | exact Below.refl _ _ | exact Below.drew (Below.refl _ _) | assumption | exact below_alloc (Below.drew (Below.refl _ _)) _ | exact below_alloc (by assumption) _ | exact below_alloc (Below.refl _ _) _))) HS.out.fits.tot A).mono ?_); rintro e w5 ⟨v5, rfl, hr5, hb5⟩; have HB5 : Below w0.heap.size w0 w5 := below_step (by first | exact Below.refl _ _ | exact Below.drew (Below.refl _ _) | assumption | exact below_alloc (Below.drew (Below.refl _ _)) _ | exact below_alloc (by assumption) _ | exact below_alloc (Below.refl _ _) _) hb5; obtain ⟨Ar5, cr5, rfl⟩ := hr5.slice; obtain ⟨Af, cf, ef, hcf, hCf⟩ := hr5.form; injection ef with ef1 ef2 ef3; subst ef1 ef3; have HCF := Aside0.mk hCf; clear hCf ef2; have hc5 : (b : Int) + 1 ≤ (cr5 : Int) := (by omega); have hc7 : (0 : Int) ≤ (b : Int) + 1 := (by omega); have hc6 : ¬ cr5 = b := (by omega); have HR5 := Aside0.mk hr5; clear hr5; have HBB5 := hb5; clear hb5) | go_simp
      refine hK.out _ _ (by ((try dsimp only); first | exact KP.out _ (by assumption) | exact KP.out _ (Below.drew (Below.refl _ _)) | exact KP.out _ (below_alloc (by assumption) _) | exact KP.out _ (below_alloc (Below.refl _ _) _) | exact KP.out _ (below_alloc (below_alloc (Below.refl _ _) _) _) | exact KP.out _ (below_drew (below_alloc (Below.refl _ _) _)) | exact KP.out _ (below_drew (below_alloc (below_alloc (Below.refl _ _) _) _)) | exact KP.out _ (below_drew (below_alloc (by assumption) _)))) (fun hHeld => ?_)
      clear hK K
      (try simp only [Act.put, List.getElem_toArray, List.getElem_cons_zero, List.getElem_cons_succ, List.setIfInBounds_toArray, List.set_cons_zero, List.set_cons_succ])
      refine wpAnyH_done (by kernel_rfl) ?_ _
      refine NoPanic.normal ?_
      go_wp2_with fail
      all_goals
        refine bodyPost_ret (results_tmp2 rfl _ _ _) rfl ?_
        refine ⟨_, _, rfl, ?_, ?_, (below_step hb0_.out bel)⟩
        · refine RowT.blk (xs := [tO A]) ?_ (by simp) (Nat.zero_le _)
          first | exact blk_drew (blk_alloc (heap_alloc_at _ _ _ (by simp)) _) | exact blk_drew (heap_alloc_at _ _ _ (by simp)) | exact blk_alloc (heap_alloc_at _ _ _ (by simp)) _ | exact heap_alloc_at _ _ _ (by simp) | exact blk_below (blk_drew (heap_alloc_new w0 _)) HBB5 | exact blk_below (blk_drew (heap_alloc_new w0 _)) HBB4
        · have hq := cutr (HR5.out) hBf hc6
          first | exact (RowT.lower hq (Nat.zero_le _)) | exact (RowT.lower (hq.alloc _) (Nat.zero_le _)) | exact (RowT.lower ((hq.alloc _).drewN 1) (Nat.zero_le _)) | exact (RowT.lower (hq.drewN 1) (Nat.zero_le _))
    · first | ((try go_simp); go_at_call 25; (refine (rfields_c (HM.out.below (below_step hb0_.out (by first | exact Below.refl _ _ | exact Below.drew (Below.refl _ _) | assumption | exact below_alloc (Below.drew (Below.refl _ _)) _ | exact below_alloc (by assumption) _ | exact below_alloc (Below.refl _ _) _))) HS.out.fits.tot A).mono ?_); rintro e w5 ⟨v5, rfl, hr5, hb5⟩; have HB5 : Below w0.heap.size w0 w5 := below_step (by first | exact Below.refl _ _ | exact Below.drew (Below.refl _ _) | assumption | exact below_alloc (Below.drew (Below.refl _ _)) _ | exact below_alloc (by assumption) _ | exact below_alloc (Below.refl _ _) _) hb5; obtain ⟨Ar5, cr5, rfl⟩ := hr5.slice; obtain ⟨Af, cf, ef, hcf, hCf⟩ := hr5.form; injection ef with ef1 ef2 ef3; subst ef1 ef3; have HCF := Aside0.mk hCf; clear hCf ef2; have hc5 : (b : Int) + 1 ≤ (cr5 : Int) := (by omega); have hc7 : (0 : Int) ≤ (b : Int) + 1 := (by omega); have hc6 : ¬ cr5 = b := (by omega); have HR5 := Aside0.mk hr5; clear hr5; have HBB5 := hb5; clear hb5) | go_simp
      refine hK.out _ _ (by ((try dsimp only); first | exact KP.out _ (by assumption) | exact KP.out _ (Below.drew (Below.refl _ _)) | exact KP.out _ (below_alloc (by assumption) _) | exact KP.out _ (below_alloc (Below.refl _ _) _) | exact KP.out _ (below_alloc (below_alloc (Below.refl _ _) _) _) | exact KP.out _ (below_drew (below_alloc (Below.refl _ _) _)) | exact KP.out _ (below_drew (below_alloc (below_alloc (Below.refl _ _) _) _)) | exact KP.out _ (below_drew (below_alloc (by assumption) _)))) (fun hHeld => ?_)
      clear hK K
      (try simp only [Act.put, List.getElem_toArray, List.getElem_cons_zero, List.getElem_cons_succ, List.setIfInBounds_toArray, List.set_cons_zero, List.set_cons_succ])
      refine wpAnyH_take (i := 11) (oi := _) (v := ?v18) rfl (by kernel_rfl) (by kernel_rfl) (by kernel_rfl) (fun _ _ _ h => h) (Or.inl ⟨by rfl, ?hy18⟩) (by assumption) ?hr18
      case hy18 => (intro w hSw; (try dsimp only at hSw); (first | (go_simp; done) | (go_simp; with_reducible rfl)))
      (try simp only [Act.put, List.getElem_toArray, List.getElem_cons_zero, List.getElem_cons_succ, List.setIfInBounds_toArray, List.set_cons_zero, List.set_cons_succ])
      refine wpAnyH_ready (rs := [1]) (by kernel_rfl) (by simp) ?_
      refine AllReadyH.cons (o := _) rfl (fun K hK => ?_) AllReadyH.nil
      first | ((try go_simp); go_at_call 25; (refine (rfields_c (HM.out.below (below_step hb0_.out (by first | exact Below.refl _ _ | exact Below.drew (Below.refl _ _) | assumption | exact below_alloc (Below.drew (Below.refl _ _)) _ | exact below_alloc (by assumption) _ | exact below_alloc (Below.refl _ _) _))) HS.out.fits.tot A).mono ?_); rintro e w5 ⟨v5, rfl, hr5, hb5⟩; have HB5 : Below w0.heap.size w0 w5 := below_step (by first | exact Below.refl _ _ | exact Below.drew (Below.refl _ _) | assumption | exact below_alloc (Below.drew (Below.refl _ _)) _ | exact below_alloc (by assumption) _ | exact below_alloc (Below.refl _ _) _) hb5; obtain ⟨Ar5, cr5, rfl⟩ := hr5.slice; obtain ⟨Af, cf, ef, hcf, hCf⟩ := hr5.form; injection ef with ef1 ef2 ef3; subst ef1 ef3; have HCF := Aside0.mk hCf; clear hCf ef2; have hc5 : (b : Int) + 1 ≤ (cr5 : Int) := (by omega); have hc7 : (0 : Int) ≤ (b : Int) + 1 := (by omega); have hc6 : ¬ cr5 = b := (by omega); have HR5 := Aside0.mk hr5; clear hr5; have HBB5 := hb5; clear hb5) | go_simp
      refine hK.out _ _ (by ((try dsimp only); first | exact KP.out _ (by assumption) | exact KP.out _ (Below.drew (Below.refl _ _)) | exact KP.out _ (below_alloc (by assumption) _) | exact KP.out _ (below_alloc (Below.refl _ _) _) | exact KP.out _ (below_alloc (below_alloc (Below.refl _ _) _) _) | exact KP.out _ (below_drew (below_alloc (Below.refl _ _) _)) | exact KP.out _ (below_drew (below_alloc (below_alloc (Below.refl _ _) _) _)) | exact KP.out _ (below_drew (below_alloc (by assumption) _)))) (fun hHeld => ?_)
      clear hK K
      (try simp only [Act.put, List.getElem_toArray, List.getElem_cons_zero, List.getElem_cons_succ, List.setIfInBounds_toArray, List.set_cons_zero, List.set_cons_succ])
      refine wpAnyH_ready (rs := [12]) (by kernel_rfl) (by simp) ?_
      refine AllReadyH.cons (o := _) rfl (fun K hK => ?_) AllReadyH.nil
      first | ((try go_simp); go_at_call 25; (refine (rfields_c (HM.out.below (below_step hb0_.out (by first | exact Below.refl _ _ | exact Below.drew (Below.refl _ _) | assumption | exact below_alloc (Below.drew (Below.refl _ _)) _ | exact below_alloc (by assumption) _ | exact below_alloc (Below.refl _ _) _))) HS.out.fits.tot A).mono ?_); rintro e w5 ⟨v5, rfl, hr5, hb5⟩; have HB5 : Below w0.heap.size w0 w5 := below_step (by first | exact Below.refl _ _ | exact Below.drew (Below.refl _ _) | assumption | exact below_alloc (Below.drew (Below.refl _ _)) _ | exact below_alloc (by assumption) _ | exact below_alloc (Below.refl _ _) _) hb5; obtain ⟨Ar5, cr5, rfl⟩ := hr5.slice; obtain ⟨Af, cf, ef, hcf, hCf⟩ := hr5.form; injection ef with ef1 ef2 ef3; subst ef1 ef3; have HCF := Aside0.mk hCf; clear hCf ef2; have hc5 : (b : Int) + 1 ≤ (cr5 : Int) := (by omega); have hc7 : (0 : Int) ≤ (b : Int) + 1 := (by omega); have hc6 : ¬ cr5 = b := (by omega); have HR5 := Aside0.mk hr5; clear hr5; have HBB5 := hb5; clear hb5) | go_simp
      refine hK.out _ _ (by ((try dsimp only); first | exact KP.out _ (by assumption) | exact KP.out _ (Below.drew (Below.refl _ _)) | exact KP.out _ (below_alloc (by assumption) _) | exact KP.out _ (below_alloc (Below.refl _ _) _) | exact KP.out _ (below_alloc (below_alloc (Below.refl _ _) _) _) | exact KP.out _ (below_drew (below_alloc (Below.refl _ _) _)) | exact KP.out _ (below_drew (below_alloc (below_alloc (Below.refl _ _) _) _)) | exact KP.out _ (below_drew (below_alloc (by assumption) _)))) (fun hHeld => ?_)
      clear hK K
      (try simp only [Act.put, List.getElem_toArray, List.getElem_cons_zero, List.getElem_cons_succ, List.setIfInBounds_toArray, List.set_cons_zero, List.set_cons_succ])
      refine wpAnyH_ready (rs := [13]) (by kernel_rfl) (by simp) ?_
      refine AllReadyH.cons (o := _) rfl (fun K hK => ?_) AllReadyH.nil
      first | ((try go_simp); go_at_call 25; (refine (rfields_c (HM.out.below (below_step hb0_.out (by first | exact Below.refl _ _ | exact Below.drew (Below.refl _ _) | assumption | exact below_alloc (Below.drew (Below.refl _ _)) _ | exact below_alloc (by assumption) _ | exact below_alloc (Below.refl _ _) _))) HS.out.fits.tot A).mono ?_); rintro e w5 ⟨v5, rfl, hr5, hb5⟩; have HB5 : Below w0.heap.size w0 w5 := below_step (by first | exact Below.refl _ _ | exact Below.drew (Below.refl _ _) | assumption | exact below_alloc (Below.drew (Below.refl _ _)) _ | exact below_alloc (by assumption) _ | exact below_alloc (Below.refl _ _) _) hb5; obtain ⟨Ar5, cr5, rfl⟩ := hr5.slice; obtain ⟨Af, cf, ef, hcf, hCf⟩ := hr5.form; injection ef with ef1 ef2 ef3; subst ef1 ef3; have HCF := Aside0.mk hCf; clear hCf ef2; have hc5 : (b : Int) + 1 ≤ (cr5 : Int) := (by omega); have hc7 : (0 : Int) ≤ (b : Int) + 1 := (by omega); have hc6 : ¬ cr5 = b := (by omega); have HR5 := Aside0.mk hr5; clear hr5; have HBB5 := hb5; clear hb5) | go_simp
      refine hK.out _ _ (by ((try dsimp only); first | exact KP.out _ (by assumption) | exact KP.out _ (Below.drew (Below.refl _ _)) | exact KP.out _ (below_alloc (by assumption) _) | exact KP.out _ (below_alloc (Below.refl _ _) _) | exact KP.out _ (below_alloc (below_alloc (Below.refl _ _) _) _) | exact KP.out _ (below_drew (below_alloc (Below.refl _ _) _)) | exact KP.out _ (below_drew (below_alloc (below_alloc (Below.refl _ _) _) _)) | exact KP.out _ (below_drew (below_alloc (by assumption) _)))) (fun hHeld => ?_)
      clear hK K
      (try simp only [Act.put, List.getElem_toArray, List.getElem_cons_zero, List.getElem_cons_succ, List.setIfInBounds_toArray, List.set_cons_zero, List.set_cons_succ])
      refine wpAnyH_done (by kernel_rfl) ?_ _
      refine NoPanic.normal ?_
      go_wp2_with fail
      all_goals
        refine bodyPost_ret (results_tmp2 rfl _ _ _) rfl ?_
        refine ⟨_, _, rfl, ?_, ?_, (below_step hb0_.out bel)⟩
        · refine RowT.blk (xs := [tO A]) ?_ (by simp) (Nat.zero_le _)
          first | exact blk_drew (blk_alloc (heap_alloc_at _ _ _ (by simp)) _) | exact blk_drew (heap_alloc_at _ _ _ (by simp)) | exact blk_alloc (heap_alloc_at _ _ _ (by simp)) _ | exact heap_alloc_at _ _ _ (by simp) | exact blk_below (blk_drew (heap_alloc_new w0 _)) HBB5 | exact blk_below (blk_drew (heap_alloc_new w0 _)) HBB4
        · have hq := cutr (HR5.out) hBf hc6
          first | exact (RowT.lower hq (Nat.zero_le _)) | exact (RowT.lower (hq.alloc _) (Nat.zero_le _)) | exact (RowT.lower ((hq.alloc _).drewN 1) (Nat.zero_le _)) | exact (RowT.lower (hq.drewN 1) (Nat.zero_le _))
  have d27 : (op == 27) = false := by simpa using hop
  by_cases hop : op = 32
  · subst hop
    have e : ofV m ⟨f0, f1, ⟨t0, t1⟩, f3, f4, f5, f6⟩ 32 A B = (tO A :: (rd_T41 m.m (slotV m A B)).f0.drop 1, givesV (rd_T41 m.m (slotV m A B))) := by simp [ofV, plainB, plainV]
    rw [e]
    clear e
    have hN32 := HN.out
    simp [namedB] at hN32
    have hsm := slot_mem m A B hB hN32.2
    have hcb := HS.out.cls A.toNat (by omega)
    rw [Int.toNat_of_nonneg hA] at hcb
    have hsl := classB_slots hcb _ hsm
    have hs0 : 0 ≤ slotV m A B := ((HS.out.fits.cl _ (rdC_mem hA hN32.1)).2.2.2.2 _ hsm).1
    have hs1 : slotV m A B < (m.m.length : Int) := hsl.1
    have hs2 := hsl.2
    have hs3 : (1 : Int) ≤ ((rd_T41 m.m (slotV m A B)).f0.length : Int) := by omega
    have hs4 : (rd_T41 m.m (slotV m A B)).f0.length ≤ 4 := (HS.out.metP (rdM_mem hs0 hs1)).a4
    clear hsm hcb hsl
    obtain ⟨L1, hL1⟩ : ∃ L, tO A :: (rd_T41 m.m (slotV m A B)).f0.drop 1 = L := ⟨_, rfl⟩
    rw [hL1]
    have HL1 := Aside0.mk hL1
    clear hL1
    obtain ⟨ae2, F0', g0', F1', g1', F4', g4', F7', g7', hA3, u0, u1, u2, u3, u4, u5, u6, u7, v0, v1, v2, v3, v4, v5, v6, v7⟩ := at_T41 (show Kd.C k41 w (some ae) m.m.length m.m from HM.out.h3) (slotV m A B) hs0 hs1
    obtain rfl := Option.some.inj hA3
    clear hA3
    have HX2 := Aside0.mk (show MC w ⟨F0', F1', F4', F7', g0', g1', g4', g7'⟩ (rd_T41 m.m (slotV m A B)) from ⟨v1, v3, v5, v7, v0, v2, v4, v6⟩)
    clear v0 v1 v2 v3 v4 v5 v6 v7
    have U0 := Aside0.mk u0
    have U1 := Aside0.mk u1
    have U2 := Aside0.mk u2
    have U3 := Aside0.mk u3
    have U4 := Aside0.mk u4
    have U5 := Aside0.mk u5
    have U6 := Aside0.mk u6
    have U7 := Aside0.mk u7
    clear u0 u1 u2 u3 u4 u5 u6 u7
    go_enter Try.func14, Try.ntmps14
    go_wp2_with (first | (go_at_call 27; (refine (rslot_c (HM.out.below bel) A B hA hN32.1 hB hN32.2).mono ?_); rintro e w2 ⟨rfl, hb2⟩; have HB2 : Below w.heap.size w w2 := below_mid bel hb2; have HC2 := Aside0.mk hb2; clear hb2))
    refine see (F := fun w0_ => Below w.heap.size w w0_ ∧ w0_.cell? ⟨w.heap.size + 1 + 1 + 1 + 1 + 1 + 1, 0, none⟩ = some (.int .i64 3) ∧ w0_.cell? ⟨w.heap.size + 1 + 1 + 1 + 1 + 1 + 1, 1, none⟩ = some (.int .i64 A) ∧ w0_.cell? ⟨w.heap.size, 3, none⟩ = some (.slice (some ae) m.m.length c3) ∧ w0_.cell? (ae.add ((slotV m A B).toNat * 8)) = some (.slice F0' (rd_T41 m.m (slotV m A B)).f0.length g0') ∧ w0_.cell? ⟨(ae.add ((slotV m A B).toNat * 8)).block, (ae.add ((slotV m A B).toNat * 8)).off + 1, none⟩ = some (.slice F1' (rd_T41 m.m (slotV m A B)).f1.length g1') ∧ w0_.cell? ⟨(ae.add ((slotV m A B).toNat * 8)).block, (ae.add ((slotV m A B).toNat * 8)).off + 2, none⟩ = some (.int .i64 (rd_T41 m.m (slotV m A B)).f2.f0) ∧ w0_.cell? ⟨(ae.add ((slotV m A B).toNat * 8)).block, (ae.add ((slotV m A B).toNat * 8)).off + 3, none⟩ = some (.int .i64 (rd_T41 m.m (slotV m A B)).f2.f1) ∧ w0_.cell? ⟨(ae.add ((slotV m A B).toNat * 8)).block, (ae.add ((slotV m A B).toNat * 8)).off + 4, none⟩ = some (.slice F4' (rd_T41 m.m (slotV m A B)).f3.length g4') ∧ w0_.cell? ⟨(ae.add ((slotV m A B).toNat * 8)).block, (ae.add ((slotV m A B).toNat * 8)).off + 5, none⟩ = some (.int .i64 (rd_T41 m.m (slotV m A B)).f4) ∧ w0_.cell? ⟨(ae.add ((slotV m A B).toNat * 8)).block, (ae.add ((slotV m A B).toNat * 8)).off + 6, none⟩ = some (.int .i64 (rd_T41 m.m (slotV m A B)).f5) ∧ w0_.cell? ⟨(ae.add ((slotV m A B).toNat * 8)).block, (ae.add ((slotV m A B).toNat * 8)).off + 7, none⟩ = some (.slice F7' (rd_T41 m.m (slotV m A B)).f6.length g7')) _ ⟨bel, (blk_cell (blk_below (heap_k w [(.cells #[.slice A0 m.c.length c0, .slice A1 m.s.length c1, .slice A2 m.n.length c2, .slice (some ae) m.m.length c3, .slice A4 m.e.length c4, .int .i64 m.sk, .int .i64 m.hp] 28), (.cells #[.int .i64 32, .int .i64 A, .int .i64 B] 44), (.cells #[.int .i64 1, .int .i64 0] 38), (.cells #[.int .i64 2, .int .i64 0] 38), (.cells #[.int .i64 4, .int .i64 0] 38), (.cells #[.int .i64 0, .int .i64 0] 38), (.cells #[.int .i64 3, .int .i64 A] 38)] 6 (by simp)) HC2.out) 0).trans rfl, (blk_cell (blk_below (heap_k w [(.cells #[.slice A0 m.c.length c0, .slice A1 m.s.length c1, .slice A2 m.n.length c2, .slice (some ae) m.m.length c3, .slice A4 m.e.length c4, .int .i64 m.sk, .int .i64 m.hp] 28), (.cells #[.int .i64 32, .int .i64 A, .int .i64 B] 44), (.cells #[.int .i64 1, .int .i64 0] 38), (.cells #[.int .i64 2, .int .i64 0] 38), (.cells #[.int .i64 4, .int .i64 0] 38), (.cells #[.int .i64 0, .int .i64 0] 38), (.cells #[.int .i64 3, .int .i64 A] 38)] 6 (by simp)) HC2.out) 1).trans rfl, (blk_cell (blk_below (heap_k w [(.cells #[.slice A0 m.c.length c0, .slice A1 m.s.length c1, .slice A2 m.n.length c2, .slice (some ae) m.m.length c3, .slice A4 m.e.length c4, .int .i64 m.sk, .int .i64 m.hp] 28), (.cells #[.int .i64 32, .int .i64 A, .int .i64 B] 44), (.cells #[.int .i64 1, .int .i64 0] 38), (.cells #[.int .i64 2, .int .i64 0] 38), (.cells #[.int .i64 4, .int .i64 0] 38), (.cells #[.int .i64 0, .int .i64 0] 38), (.cells #[.int .i64 3, .int .i64 A] 38)] 0 (by simp)) HC2.out) 3).trans rfl, keepc bel U0.out, keepc bel U1.out, keepc bel U2.out, keepc bel U3.out, keepc bel U4.out, keepc bel U5.out, keepc bel U6.out, keepc bel U7.out⟩ ?_
    rintro w0 ⟨hb0_, hq1_, hq2_, hq3_, hq4_, hq5_, hq6_, hq7_, hq8_, hq9_, hq10_, hq11_⟩
    replace hb0_ := Aside0.mk hb0_
    replace hq1_ := Aside0.mk hq1_
    replace hq2_ := Aside0.mk hq2_
    replace hq3_ := Aside0.mk hq3_
    replace hq4_ := Aside0.mk hq4_
    replace hq5_ := Aside0.mk hq5_
    replace hq6_ := Aside0.mk hq6_
    replace hq7_ := Aside0.mk hq7_
    replace hq8_ := Aside0.mk hq8_
    replace hq9_ := Aside0.mk hq9_
    replace hq10_ := Aside0.mk hq10_
    replace hq11_ := Aside0.mk hq11_
    have KP := Aside0.mk (show ∀ w', Below w0.heap.size w0 w' → (w'.cell? ⟨w.heap.size + 1 + 1 + 1 + 1 + 1 + 1, 0, none⟩ = some (.int .i64 3) ∧ w'.cell? ⟨w.heap.size + 1 + 1 + 1 + 1 + 1 + 1, 1, none⟩ = some (.int .i64 A) ∧ w'.cell? ⟨w.heap.size, 3, none⟩ = some (.slice (some ae) m.m.length c3) ∧ w'.cell? (ae.add ((slotV m A B).toNat * 8)) = some (.slice F0' (rd_T41 m.m (slotV m A B)).f0.length g0') ∧ w'.cell? ⟨(ae.add ((slotV m A B).toNat * 8)).block, (ae.add ((slotV m A B).toNat * 8)).off + 1, none⟩ = some (.slice F1' (rd_T41 m.m (slotV m A B)).f1.length g1') ∧ w'.cell? ⟨(ae.add ((slotV m A B).toNat * 8)).block, (ae.add ((slotV m A B).toNat * 8)).off + 2, none⟩ = some (.int .i64 (rd_T41 m.m (slotV m A B)).f2.f0) ∧ w'.cell? ⟨(ae.add ((slotV m A B).toNat * 8)).block, (ae.add ((slotV m A B).toNat * 8)).off + 3, none⟩ = some (.int .i64 (rd_T41 m.m (slotV m A B)).f2.f1) ∧ w'.cell? ⟨(ae.add ((slotV m A B).toNat * 8)).block, (ae.add ((slotV m A B).toNat * 8)).off + 4, none⟩ = some (.slice F4' (rd_T41 m.m (slotV m A B)).f3.length g4') ∧ w'.cell? ⟨(ae.add ((slotV m A B).toNat * 8)).block, (ae.add ((slotV m A B).toNat * 8)).off + 5, none⟩ = some (.int .i64 (rd_T41 m.m (slotV m A B)).f4) ∧ w'.cell? ⟨(ae.add ((slotV m A B).toNat * 8)).block, (ae.add ((slotV m A B).toNat * 8)).off + 6, none⟩ = some (.int .i64 (rd_T41 m.m (slotV m A B)).f5) ∧ w'.cell? ⟨(ae.add ((slotV m A B).toNat * 8)).block, (ae.add ((slotV m A B).toNat * 8)).off + 7, none⟩ = some (.slice F7' (rd_T41 m.m (slotV m A B)).f6.length g7')) from fun w' h => ⟨keepc h hq1_.out, keepc h hq2_.out, keepc h hq3_.out, keepc h hq4_.out, keepc h hq5_.out, keepc h hq6_.out, keepc h hq7_.out, keepc h hq8_.out, keepc h hq9_.out, keepc h hq10_.out, keepc h hq11_.out⟩)
    refine wp_region_noPanic ?_
    refine wp_region_held_drew (S := fun w' => w'.cell? ⟨w.heap.size + 1 + 1 + 1 + 1 + 1 + 1, 0, none⟩ = some (.int .i64 3) ∧ w'.cell? ⟨w.heap.size + 1 + 1 + 1 + 1 + 1 + 1, 1, none⟩ = some (.int .i64 A) ∧ w'.cell? ⟨w.heap.size, 3, none⟩ = some (.slice (some ae) m.m.length c3) ∧ w'.cell? (ae.add ((slotV m A B).toNat * 8)) = some (.slice F0' (rd_T41 m.m (slotV m A B)).f0.length g0') ∧ w'.cell? ⟨(ae.add ((slotV m A B).toNat * 8)).block, (ae.add ((slotV m A B).toNat * 8)).off + 1, none⟩ = some (.slice F1' (rd_T41 m.m (slotV m A B)).f1.length g1') ∧ w'.cell? ⟨(ae.add ((slotV m A B).toNat * 8)).block, (ae.add ((slotV m A B).toNat * 8)).off + 2, none⟩ = some (.int .i64 (rd_T41 m.m (slotV m A B)).f2.f0) ∧ w'.cell? ⟨(ae.add ((slotV m A B).toNat * 8)).block, (ae.add ((slotV m A B).toNat * 8)).off + 3, none⟩ = some (.int .i64 (rd_T41 m.m (slotV m A B)).f2.f1) ∧ w'.cell? ⟨(ae.add ((slotV m A B).toNat * 8)).block, (ae.add ((slotV m A B).toNat * 8)).off + 4, none⟩ = some (.slice F4' (rd_T41 m.m (slotV m A B)).f3.length g4') ∧ w'.cell? ⟨(ae.add ((slotV m A B).toNat * 8)).block, (ae.add ((slotV m A B).toNat * 8)).off + 5, none⟩ = some (.int .i64 (rd_T41 m.m (slotV m A B)).f4) ∧ w'.cell? ⟨(ae.add ((slotV m A B).toNat * 8)).block, (ae.add ((slotV m A B).toNat * 8)).off + 6, none⟩ = some (.int .i64 (rd_T41 m.m (slotV m A B)).f5) ∧ w'.cell? ⟨(ae.add ((slotV m A B).toNat * 8)).block, (ae.add ((slotV m A B).toNat * 8)).off + 7, none⟩ = some (.slice F7' (rd_T41 m.m (slotV m A B)).f6.length g7')) (by kernel_rfl) (by ((try dsimp only); first | exact KP.out _ (by assumption) | exact KP.out _ (Below.drew (Below.refl _ _)) | exact KP.out _ (below_alloc (by assumption) _) | exact KP.out _ (below_alloc (Below.refl _ _) _) | exact KP.out _ (below_alloc (below_alloc (Below.refl _ _) _) _) | exact KP.out _ (below_drew (below_alloc (Below.refl _ _) _)) | exact KP.out _ (below_drew (below_alloc (below_alloc (Below.refl _ _) _) _)) | exact KP.out _ (below_drew (below_alloc (by assumption) _)))) (fun hHeld => ?_)
    refine wpAnyH_take (i := 0) (oi := _) (v := ?v19) rfl (by kernel_rfl) (by kernel_rfl) (by kernel_rfl) (fun _ _ _ h => h) (Or.inl ⟨by rfl, ?hy19⟩) (by assumption) ?hr19
    case hy19 => (intro w hSw; (try dsimp only at hSw); (first | (go_simp; done) | (go_simp; with_reducible rfl)))
    (try simp only [Act.put, List.getElem_toArray, List.getElem_cons_zero, List.getElem_cons_succ, List.setIfInBounds_toArray, List.set_cons_zero, List.set_cons_succ])
    refine wpAnyH_take (i := 2) (oi := _) (v := ?v20) rfl (by kernel_rfl) (by kernel_rfl) (by kernel_rfl) (fun _ _ _ h => h) (Or.inl ⟨by rfl, ?hy20⟩) (by assumption) ?hr20
    case hy20 => (intro w hSw; (try dsimp only at hSw); (first | (go_simp; done) | (go_simp; with_reducible rfl)))
    (try simp only [Act.put, List.getElem_toArray, List.getElem_cons_zero, List.getElem_cons_succ, List.setIfInBounds_toArray, List.set_cons_zero, List.set_cons_succ])
    refine wpAnyH_take (i := 3) (oi := _) (v := ?v21) rfl (by kernel_rfl) (by kernel_rfl) (by kernel_rfl) (fun _ _ _ h => h) (Or.inl ⟨by rfl, ?hy21⟩) (by assumption) ?hr21
    case hy21 => (intro w hSw; (try dsimp only at hSw); (first | (go_simp; done) | (go_simp; with_reducible rfl)))
    (try simp only [Act.put, List.getElem_toArray, List.getElem_cons_zero, List.getElem_cons_succ, List.setIfInBounds_toArray, List.set_cons_zero, List.set_cons_succ])
    refine wpAnyH_take (i := 4) (oi := _) (v := ?v22) rfl (by kernel_rfl) (by kernel_rfl) (by kernel_rfl) (fun _ _ _ h => h) (Or.inl ⟨by rfl, ?hy22⟩) (by assumption) ?hr22
    case hy22 => (intro w hSw; (try dsimp only at hSw); (first | (go_simp; done) | (go_simp; with_reducible rfl)))
    (try simp only [Act.put, List.getElem_toArray, List.getElem_cons_zero, List.getElem_cons_succ, List.setIfInBounds_toArray, List.set_cons_zero, List.set_cons_succ])
    refine wpAnyH_take (i := 5) (oi := _) (v := ?v23) rfl (by kernel_rfl) (by kernel_rfl) (by kernel_rfl) (fun _ _ _ h => h) (Or.inl ⟨by rfl, ?hy23⟩) (by assumption) ?hr23
    case hy23 => (intro w hSw; (try dsimp only at hSw); (first | (go_simp; done) | (go_simp; with_reducible rfl)))
    (try simp only [Act.put, List.getElem_toArray, List.getElem_cons_zero, List.getElem_cons_succ, List.setIfInBounds_toArray, List.set_cons_zero, List.set_cons_succ])
    refine wpAnyH_take (i := 6) (oi := _) (v := ?v24) rfl (by kernel_rfl) (by kernel_rfl) (by kernel_rfl) (fun _ _ _ h => h) (Or.inl ⟨by rfl, ?hy24⟩) (by assumption) ?hr24
    case hy24 => (intro w hSw; (try dsimp only at hSw); (first | (go_simp; done) | (go_simp; with_reducible rfl)))
    (try simp only [Act.put, List.getElem_toArray, List.getElem_cons_zero, List.getElem_cons_succ, List.setIfInBounds_toArray, List.set_cons_zero, List.set_cons_succ])
    refine wpAnyH_take (i := 7) (oi := _) (v := ?v25) rfl (by kernel_rfl) (by kernel_rfl) (by kernel_rfl) (fun _ _ _ h => h) (Or.inl ⟨by rfl, ?hy25⟩) (by assumption) ?hr25
    case hy25 => (intro w hSw; (try dsimp only at hSw); (first | (go_simp; done) | (go_simp; with_reducible rfl)))
    (try simp only [Act.put, List.getElem_toArray, List.getElem_cons_zero, List.getElem_cons_succ, List.setIfInBounds_toArray, List.set_cons_zero, List.set_cons_succ])
    refine wpAnyH_take (i := 8) (oi := _) (v := ?v26) rfl (by kernel_rfl) (by kernel_rfl) (by kernel_rfl) (fun _ _ _ h => h) (Or.inl ⟨by rfl, ?hy26⟩) (by assumption) ?hr26
    case hy26 => (intro w hSw; (try dsimp only at hSw); (first | (go_simp; done) | (go_simp; with_reducible rfl)))
    (try simp only [Act.put, List.getElem_toArray, List.getElem_cons_zero, List.getElem_cons_succ, List.setIfInBounds_toArray, List.set_cons_zero, List.set_cons_succ])
    refine wpAnyH_take (i := 10) (oi := _) (v := ?v27) rfl (by kernel_rfl) (by kernel_rfl) (by kernel_rfl) (fun _ _ _ h => h) (Or.inl ⟨by rfl, ?hy27⟩) (by assumption) ?hr27
    case hy27 => (intro w hSw; (try dsimp only at hSw); (first | (go_simp; done) | (go_simp; with_reducible rfl)))
    (try simp only [Act.put, List.getElem_toArray, List.getElem_cons_zero, List.getElem_cons_succ, List.setIfInBounds_toArray, List.set_cons_zero, List.set_cons_succ])
    refine wpAnyH_take (i := 11) (oi := _) (v := ?v28) rfl (by kernel_rfl) (by kernel_rfl) (by kernel_rfl) (fun _ _ _ h => h) (Or.inl ⟨by rfl, ?hy28⟩) (by assumption) ?hr28
    case hy28 => (intro w hSw; (try dsimp only at hSw); (first | (go_simp; done) | (go_simp; with_reducible rfl)))
    (try simp only [Act.put, List.getElem_toArray, List.getElem_cons_zero, List.getElem_cons_succ, List.setIfInBounds_toArray, List.set_cons_zero, List.set_cons_succ])
    refine wpAnyH_take (i := 12) (oi := _) (v := ?v29) rfl (by kernel_rfl) (by kernel_rfl) (by kernel_rfl) (fun _ _ _ h => h) (Or.inl ⟨by rfl, ?hy29⟩) (by assumption) ?hr29
    case hy29 => (intro w hSw; (try dsimp only at hSw); (first | (go_simp; done) | (go_simp; with_reducible rfl)))
    (try simp only [Act.put, List.getElem_toArray, List.getElem_cons_zero, List.getElem_cons_succ, List.setIfInBounds_toArray, List.set_cons_zero, List.set_cons_succ])
    refine wpAnyH_take (i := 13) (oi := _) (v := ?v30) rfl (by kernel_rfl) (by kernel_rfl) (by kernel_rfl) (fun _ _ _ h => h) (Or.inl ⟨by rfl, ?hy30⟩) (by assumption) ?hr30
    case hy30 => (intro w hSw; (try dsimp only at hSw); (first | (go_simp; done) | (go_simp; with_reducible rfl)))
    (try simp only [Act.put, List.getElem_toArray, List.getElem_cons_zero, List.getElem_cons_succ, List.setIfInBounds_toArray, List.set_cons_zero, List.set_cons_succ])
    refine wpAnyH_take (i := 14) (oi := _) (v := ?v31) rfl (by kernel_rfl) (by kernel_rfl) (by kernel_rfl) (fun _ _ _ h => h) (Or.inl ⟨by rfl, ?hy31⟩) (by assumption) ?hr31
    case hy31 => (intro w hSw; (try dsimp only at hSw); (first | (go_simp; done) | (go_simp; with_reducible rfl)))
    (try simp only [Act.put, List.getElem_toArray, List.getElem_cons_zero, List.getElem_cons_succ, List.setIfInBounds_toArray, List.set_cons_zero, List.set_cons_succ])
    refine wpAnyH_ready (rs := [1]) (by kernel_rfl) (by simp) ?_
    refine AllReadyH.cons (o := _) rfl (fun K hK => ?_) AllReadyH.nil
    first | (refine Kd.R_lit_step k38 _ 38 ?hg (N := 190) ?hd (xs := [tO A]) (inner := [.int .i64 3, .int .i64 A]) (ok := fun _ => True) (okp := fun _ => True) ?hr ?hp (fun _ hk => hk) trivial (Below.refl _ _) (Nat.le_refl _) (by simp) ?_; (case hd => rfl); (case hg => rfl); (case hr => first | (go_simp; done) | (go_simp; rfl)); (case hp => exact one_reps _ _ _ _); intro v6 w6 hR6 hb6 hg6 hn6; clear hg6 hn6; have HV := Aside0.mk (Kd.R_lower hR6 (base' := w0.heap.size) (by first | exact Nat.le_refl _ | exact HB4.size)); clear hR6; have HB6 : Below w0.heap.size w0 w6 := below_step (by first | exact Below.refl _ _ | exact Below.drew (Below.refl _ _) | assumption | exact below_alloc (Below.drew (Below.refl _ _)) _ | exact below_alloc (by assumption) _ | exact below_alloc (Below.refl _ _) _) hb6; have HBB6 := hb6; clear hb6; show K (Act.put _ (some 190) v6) w6) | (refine Kd.R_append_rows_step k38 (w0 := w0) w0.heap.size (by rfl) (.tmp 190) (.tmp 197) 23 38 (.agg #[(.int .i64 0), (.int .i64 0)]) 16 rfl Try.underlying23 info38 rfl (by decide) (by omega) v6 [tO A] ((rd_T41 m.m (slotV m A B)).f0.drop 1) _ _ _ (fun _ => True) (fun _ => False) rfl rfl ?aO ?aR (fun _ _ h => h) (fun _ h => h.elim) (fun _ _ => trivial) ?aB ?aS ?aL ?_; (case aR => exact Kd.C_below (cutT HX2.out.h0 HX2.out.n0 hs2) (below_mid hb0_.out (by first | exact Below.refl _ _ | exact Below.drew (Below.refl _ _) | assumption | exact below_alloc (Below.drew (Below.refl _ _)) _ | exact below_alloc (by assumption) _ | exact below_alloc (Below.refl _ _) _))); (case aO => first | exact HV.out | exact Kd.R_below HV.out HBB4); (case aB => exact (by first | exact Below.refl _ _ | exact Below.drew (Below.refl _ _) | assumption | exact below_alloc (Below.drew (Below.refl _ _)) _ | exact below_alloc (by assumption) _ | exact below_alloc (Below.refl _ _) _)); (case aS => first | exact HB4.size | exact HB6.size); (case aL => simp; omega); intro v7 w7 hR7 hb7 hg7 ha7; clear hg7 ha7; have HB7 : Below w0.heap.size w0 w7 := hb7; have HRI := Aside0.mk (RowT.ofR hR7); clear hR7 hb7; show K (Act.put _ (some 198) v7) w7) | ((try go_simp); go_at_call 26; (refine (rgives_c (HX2.out.below (below_step hb0_.out (by first | exact Below.refl _ _ | exact Below.drew (Below.refl _ _) | assumption | exact below_alloc (Below.drew (Below.refl _ _)) _ | exact below_alloc (by assumption) _ | exact below_alloc (Below.refl _ _) _)))).mono ?_); rintro e w4 ⟨v4, rfl, hr4, hb4⟩; have HB4 : Below w0.heap.size w0 w4 := below_step (by first | exact Below.refl _ _ | exact Below.drew (Below.refl _ _) | assumption | exact below_alloc (Below.drew (Below.refl _ _)) _ | exact below_alloc (by assumption) _ | exact below_alloc (Below.refl _ _) _) hb4; obtain ⟨Ar4, cr4, rfl⟩ := hr4.slice; have HR4 := Aside0.mk hr4; clear hr4; have HBB4 := hb4; clear hb4) | go_simp
    refine hK.out _ _ (by ((try dsimp only); first | exact KP.out _ (by assumption) | exact KP.out _ (Below.drew (Below.refl _ _)) | exact KP.out _ (below_alloc (by assumption) _) | exact KP.out _ (below_alloc (Below.refl _ _) _) | exact KP.out _ (below_alloc (below_alloc (Below.refl _ _) _) _) | exact KP.out _ (below_drew (below_alloc (Below.refl _ _) _)) | exact KP.out _ (below_drew (below_alloc (below_alloc (Below.refl _ _) _) _)) | exact KP.out _ (below_drew (below_alloc (by assumption) _)))) (fun hHeld => ?_)
    clear hK K
    (try simp only [Act.put, List.getElem_toArray, List.getElem_cons_zero, List.getElem_cons_succ, List.setIfInBounds_toArray, List.set_cons_zero, List.set_cons_succ])
    refine wpAnyH_ready (rs := [9]) (by kernel_rfl) (by simp) ?_
    refine AllReadyH.cons (o := _) rfl (fun K hK => ?_) AllReadyH.nil
    first | (refine Kd.R_lit_step k38 _ 38 ?hg (N := 190) ?hd (xs := [tO A]) (inner := [.int .i64 3, .int .i64 A]) (ok := fun _ => True) (okp := fun _ => True) ?hr ?hp (fun _ hk => hk) trivial (Below.refl _ _) (Nat.le_refl _) (by simp) ?_; (case hd => rfl); (case hg => rfl); (case hr => first | (go_simp; done) | (go_simp; rfl)); (case hp => exact one_reps _ _ _ _); intro v6 w6 hR6 hb6 hg6 hn6; clear hg6 hn6; have HV := Aside0.mk (Kd.R_lower hR6 (base' := w0.heap.size) (by first | exact Nat.le_refl _ | exact HB4.size)); clear hR6; have HB6 : Below w0.heap.size w0 w6 := below_step (by first | exact Below.refl _ _ | exact Below.drew (Below.refl _ _) | assumption | exact below_alloc (Below.drew (Below.refl _ _)) _ | exact below_alloc (by assumption) _ | exact below_alloc (Below.refl _ _) _) hb6; have HBB6 := hb6; clear hb6; show K (Act.put _ (some 190) v6) w6) | (refine Kd.R_append_rows_step k38 (w0 := w0) w0.heap.size (by rfl) (.tmp 190) (.tmp 197) 23 38 (.agg #[(.int .i64 0), (.int .i64 0)]) 16 rfl Try.underlying23 info38 rfl (by decide) (by omega) v6 [tO A] ((rd_T41 m.m (slotV m A B)).f0.drop 1) _ _ _ (fun _ => True) (fun _ => False) rfl rfl ?aO ?aR (fun _ _ h => h) (fun _ h => h.elim) (fun _ _ => trivial) ?aB ?aS ?aL ?_; (case aR => exact Kd.C_below (cutT HX2.out.h0 HX2.out.n0 hs2) (below_mid hb0_.out (by first | exact Below.refl _ _ | exact Below.drew (Below.refl _ _) | assumption | exact below_alloc (Below.drew (Below.refl _ _)) _ | exact below_alloc (by assumption) _ | exact below_alloc (Below.refl _ _) _))); (case aO => first | exact HV.out | exact Kd.R_below HV.out HBB4); (case aB => exact (by first | exact Below.refl _ _ | exact Below.drew (Below.refl _ _) | assumption | exact below_alloc (Below.drew (Below.refl _ _)) _ | exact below_alloc (by assumption) _ | exact below_alloc (Below.refl _ _) _)); (case aS => first | exact HB4.size | exact HB6.size); (case aL => simp; omega); intro v7 w7 hR7 hb7 hg7 ha7; clear hg7 ha7; have HB7 : Below w0.heap.size w0 w7 := hb7; have HRI := Aside0.mk (RowT.ofR hR7); clear hR7 hb7; show K (Act.put _ (some 198) v7) w7) | ((try go_simp); go_at_call 26; (refine (rgives_c (HX2.out.below (below_step hb0_.out (by first | exact Below.refl _ _ | exact Below.drew (Below.refl _ _) | assumption | exact below_alloc (Below.drew (Below.refl _ _)) _ | exact below_alloc (by assumption) _ | exact below_alloc (Below.refl _ _) _)))).mono ?_); rintro e w4 ⟨v4, rfl, hr4, hb4⟩; have HB4 : Below w0.heap.size w0 w4 := below_step (by first | exact Below.refl _ _ | exact Below.drew (Below.refl _ _) | assumption | exact below_alloc (Below.drew (Below.refl _ _)) _ | exact below_alloc (by assumption) _ | exact below_alloc (Below.refl _ _) _) hb4; obtain ⟨Ar4, cr4, rfl⟩ := hr4.slice; have HR4 := Aside0.mk hr4; clear hr4; have HBB4 := hb4; clear hb4) | go_simp
    refine hK.out _ _ (by ((try dsimp only); first | exact KP.out _ (by assumption) | exact KP.out _ (Below.drew (Below.refl _ _)) | exact KP.out _ (below_alloc (by assumption) _) | exact KP.out _ (below_alloc (Below.refl _ _) _) | exact KP.out _ (below_alloc (below_alloc (Below.refl _ _) _) _) | exact KP.out _ (below_drew (below_alloc (Below.refl _ _) _)) | exact KP.out _ (below_drew (below_alloc (below_alloc (Below.refl _ _) _) _)) | exact KP.out _ (below_drew (below_alloc (by assumption) _)))) (fun hHeld => ?_)
    clear hK K
    (try simp only [Act.put, List.getElem_toArray, List.getElem_cons_zero, List.getElem_cons_succ, List.setIfInBounds_toArray, List.set_cons_zero, List.set_cons_succ])
    refine wpAnyH_ready (rs := [15]) (by kernel_rfl) (by simp) ?_
    refine AllReadyH.cons (o := _) rfl (fun K hK => ?_) AllReadyH.nil
    first | (refine Kd.R_lit_step k38 _ 38 ?hg (N := 190) ?hd (xs := [tO A]) (inner := [.int .i64 3, .int .i64 A]) (ok := fun _ => True) (okp := fun _ => True) ?hr ?hp (fun _ hk => hk) trivial (Below.refl _ _) (Nat.le_refl _) (by simp) ?_; (case hd => rfl); (case hg => rfl); (case hr => first | (go_simp; done) | (go_simp; rfl)); (case hp => exact one_reps _ _ _ _); intro v6 w6 hR6 hb6 hg6 hn6; clear hg6 hn6; have HV := Aside0.mk (Kd.R_lower hR6 (base' := w0.heap.size) (by first | exact Nat.le_refl _ | exact HB4.size)); clear hR6; have HB6 : Below w0.heap.size w0 w6 := below_step (by first | exact Below.refl _ _ | exact Below.drew (Below.refl _ _) | assumption | exact below_alloc (Below.drew (Below.refl _ _)) _ | exact below_alloc (by assumption) _ | exact below_alloc (Below.refl _ _) _) hb6; have HBB6 := hb6; clear hb6; show K (Act.put _ (some 190) v6) w6) | (refine Kd.R_append_rows_step k38 (w0 := w0) w0.heap.size (by rfl) (.tmp 190) (.tmp 197) 23 38 (.agg #[(.int .i64 0), (.int .i64 0)]) 16 rfl Try.underlying23 info38 rfl (by decide) (by omega) v6 [tO A] ((rd_T41 m.m (slotV m A B)).f0.drop 1) _ _ _ (fun _ => True) (fun _ => False) rfl rfl ?aO ?aR (fun _ _ h => h) (fun _ h => h.elim) (fun _ _ => trivial) ?aB ?aS ?aL ?_; (case aR => exact Kd.C_below (cutT HX2.out.h0 HX2.out.n0 hs2) (below_mid hb0_.out (by first | exact Below.refl _ _ | exact Below.drew (Below.refl _ _) | assumption | exact below_alloc (Below.drew (Below.refl _ _)) _ | exact below_alloc (by assumption) _ | exact below_alloc (Below.refl _ _) _))); (case aO => first | exact HV.out | exact Kd.R_below HV.out HBB4); (case aB => exact (by first | exact Below.refl _ _ | exact Below.drew (Below.refl _ _) | assumption | exact below_alloc (Below.drew (Below.refl _ _)) _ | exact below_alloc (by assumption) _ | exact below_alloc (Below.refl _ _) _)); (case aS => first | exact HB4.size | exact HB6.size); (case aL => simp; omega); intro v7 w7 hR7 hb7 hg7 ha7; clear hg7 ha7; have HB7 : Below w0.heap.size w0 w7 := hb7; have HRI := Aside0.mk (RowT.ofR hR7); clear hR7 hb7; show K (Act.put _ (some 198) v7) w7) | ((try go_simp); go_at_call 26; (refine (rgives_c (HX2.out.below (below_step hb0_.out (by first | exact Below.refl _ _ | exact Below.drew (Below.refl _ _) | assumption | exact below_alloc (Below.drew (Below.refl _ _)) _ | exact below_alloc (by assumption) _ | exact below_alloc (Below.refl _ _) _)))).mono ?_); rintro e w4 ⟨v4, rfl, hr4, hb4⟩; have HB4 : Below w0.heap.size w0 w4 := below_step (by first | exact Below.refl _ _ | exact Below.drew (Below.refl _ _) | assumption | exact below_alloc (Below.drew (Below.refl _ _)) _ | exact below_alloc (by assumption) _ | exact below_alloc (Below.refl _ _) _) hb4; obtain ⟨Ar4, cr4, rfl⟩ := hr4.slice; have HR4 := Aside0.mk hr4; clear hr4; have HBB4 := hb4; clear hb4) | go_simp
    refine hK.out _ _ (by ((try dsimp only); first | exact KP.out _ (by assumption) | exact KP.out _ (Below.drew (Below.refl _ _)) | exact KP.out _ (below_alloc (by assumption) _) | exact KP.out _ (below_alloc (Below.refl _ _) _) | exact KP.out _ (below_alloc (below_alloc (Below.refl _ _) _) _) | exact KP.out _ (below_drew (below_alloc (Below.refl _ _) _)) | exact KP.out _ (below_drew (below_alloc (below_alloc (Below.refl _ _) _) _)) | exact KP.out _ (below_drew (below_alloc (by assumption) _)))) (fun hHeld => ?_)
    clear hK K
    (try simp only [Act.put, List.getElem_toArray, List.getElem_cons_zero, List.getElem_cons_succ, List.setIfInBounds_toArray, List.set_cons_zero, List.set_cons_succ])
    refine wpAnyH_ready (rs := [16]) (by kernel_rfl) (by simp) ?_
    refine AllReadyH.cons (o := _) rfl (fun K hK => ?_) AllReadyH.nil
    first | (refine Kd.R_lit_step k38 _ 38 ?hg (N := 190) ?hd (xs := [tO A]) (inner := [.int .i64 3, .int .i64 A]) (ok := fun _ => True) (okp := fun _ => True) ?hr ?hp (fun _ hk => hk) trivial (Below.refl _ _) (Nat.le_refl _) (by simp) ?_; (case hd => rfl); (case hg => rfl); (case hr => first | (go_simp; done) | (go_simp; rfl)); (case hp => exact one_reps _ _ _ _); intro v6 w6 hR6 hb6 hg6 hn6; clear hg6 hn6; have HV := Aside0.mk (Kd.R_lower hR6 (base' := w0.heap.size) (by first | exact Nat.le_refl _ | exact HB4.size)); clear hR6; have HB6 : Below w0.heap.size w0 w6 := below_step (by first | exact Below.refl _ _ | exact Below.drew (Below.refl _ _) | assumption | exact below_alloc (Below.drew (Below.refl _ _)) _ | exact below_alloc (by assumption) _ | exact below_alloc (Below.refl _ _) _) hb6; have HBB6 := hb6; clear hb6; show K (Act.put _ (some 190) v6) w6) | (refine Kd.R_append_rows_step k38 (w0 := w0) w0.heap.size (by rfl) (.tmp 190) (.tmp 197) 23 38 (.agg #[(.int .i64 0), (.int .i64 0)]) 16 rfl Try.underlying23 info38 rfl (by decide) (by omega) v6 [tO A] ((rd_T41 m.m (slotV m A B)).f0.drop 1) _ _ _ (fun _ => True) (fun _ => False) rfl rfl ?aO ?aR (fun _ _ h => h) (fun _ h => h.elim) (fun _ _ => trivial) ?aB ?aS ?aL ?_; (case aR => exact Kd.C_below (cutT HX2.out.h0 HX2.out.n0 hs2) (below_mid hb0_.out (by first | exact Below.refl _ _ | exact Below.drew (Below.refl _ _) | assumption | exact below_alloc (Below.drew (Below.refl _ _)) _ | exact below_alloc (by assumption) _ | exact below_alloc (Below.refl _ _) _))); (case aO => first | exact HV.out | exact Kd.R_below HV.out HBB4); (case aB => exact (by first | exact Below.refl _ _ | exact Below.drew (Below.refl _ _) | assumption | exact below_alloc (Below.drew (Below.refl _ _)) _ | exact below_alloc (by assumption) _ | exact below_alloc (Below.refl _ _) _)); (case aS => first | exact HB4.size | exact HB6.size); (case aL => simp; omega); intro v7 w7 hR7 hb7 hg7 ha7; clear hg7 ha7; have HB7 : Below w0.heap.size w0 w7 := hb7; have HRI := Aside0.mk (RowT.ofR hR7); clear hR7 hb7; show K (Act.put _ (some 198) v7) w7) | ((try go_simp); go_at_call 26; (refine (rgives_c (HX2.out.below (below_step hb0_.out (by first | exact Below.refl _ _ | exact Below.drew (Below.refl _ _) | assumption | exact below_alloc (Below.drew (Below.refl _ _)) _ | exact below_alloc (by assumption) _ | exact below_alloc (Below.refl _ _) _)))).mono ?_); rintro e w4 ⟨v4, rfl, hr4, hb4⟩; have HB4 : Below w0.heap.size w0 w4 := below_step (by first | exact Below.refl _ _ | exact Below.drew (Below.refl _ _) | assumption | exact below_alloc (Below.drew (Below.refl _ _)) _ | exact below_alloc (by assumption) _ | exact below_alloc (Below.refl _ _) _) hb4; obtain ⟨Ar4, cr4, rfl⟩ := hr4.slice; have HR4 := Aside0.mk hr4; clear hr4; have HBB4 := hb4; clear hb4) | go_simp
    refine hK.out _ _ (by ((try dsimp only); first | exact KP.out _ (by assumption) | exact KP.out _ (Below.drew (Below.refl _ _)) | exact KP.out _ (below_alloc (by assumption) _) | exact KP.out _ (below_alloc (Below.refl _ _) _) | exact KP.out _ (below_alloc (below_alloc (Below.refl _ _) _) _) | exact KP.out _ (below_drew (below_alloc (Below.refl _ _) _)) | exact KP.out _ (below_drew (below_alloc (below_alloc (Below.refl _ _) _) _)) | exact KP.out _ (below_drew (below_alloc (by assumption) _)))) (fun hHeld => ?_)
    clear hK K
    (try simp only [Act.put, List.getElem_toArray, List.getElem_cons_zero, List.getElem_cons_succ, List.setIfInBounds_toArray, List.set_cons_zero, List.set_cons_succ])
    refine wpAnyH_ready (rs := [17]) (by kernel_rfl) (by simp) ?_
    refine AllReadyH.cons (o := _) rfl (fun K hK => ?_) AllReadyH.nil
    first | (refine Kd.R_lit_step k38 _ 38 ?hg (N := 190) ?hd (xs := [tO A]) (inner := [.int .i64 3, .int .i64 A]) (ok := fun _ => True) (okp := fun _ => True) ?hr ?hp (fun _ hk => hk) trivial (Below.refl _ _) (Nat.le_refl _) (by simp) ?_; (case hd => rfl); (case hg => rfl); (case hr => first | (go_simp; done) | (go_simp; rfl)); (case hp => exact one_reps _ _ _ _); intro v6 w6 hR6 hb6 hg6 hn6; clear hg6 hn6; have HV := Aside0.mk (Kd.R_lower hR6 (base' := w0.heap.size) (by first | exact Nat.le_refl _ | exact HB4.size)); clear hR6; have HB6 : Below w0.heap.size w0 w6 := below_step (by first | exact Below.refl _ _ | exact Below.drew (Below.refl _ _) | assumption | exact below_alloc (Below.drew (Below.refl _ _)) _ | exact below_alloc (by assumption) _ | exact below_alloc (Below.refl _ _) _) hb6; have HBB6 := hb6; clear hb6; show K (Act.put _ (some 190) v6) w6) | (refine Kd.R_append_rows_step k38 (w0 := w0) w0.heap.size (by rfl) (.tmp 190) (.tmp 197) 23 38 (.agg #[(.int .i64 0), (.int .i64 0)]) 16 rfl Try.underlying23 info38 rfl (by decide) (by omega) v6 [tO A] ((rd_T41 m.m (slotV m A B)).f0.drop 1) _ _ _ (fun _ => True) (fun _ => False) rfl rfl ?aO ?aR (fun _ _ h => h) (fun _ h => h.elim) (fun _ _ => trivial) ?aB ?aS ?aL ?_; (case aR => exact Kd.C_below (cutT HX2.out.h0 HX2.out.n0 hs2) (below_mid hb0_.out (by first | exact Below.refl _ _ | exact Below.drew (Below.refl _ _) | assumption | exact below_alloc (Below.drew (Below.refl _ _)) _ | exact below_alloc (by assumption) _ | exact below_alloc (Below.refl _ _) _))); (case aO => first | exact HV.out | exact Kd.R_below HV.out HBB4); (case aB => exact (by first | exact Below.refl _ _ | exact Below.drew (Below.refl _ _) | assumption | exact below_alloc (Below.drew (Below.refl _ _)) _ | exact below_alloc (by assumption) _ | exact below_alloc (Below.refl _ _) _)); (case aS => first | exact HB4.size | exact HB6.size); (case aL => simp; omega); intro v7 w7 hR7 hb7 hg7 ha7; clear hg7 ha7; have HB7 : Below w0.heap.size w0 w7 := hb7; have HRI := Aside0.mk (RowT.ofR hR7); clear hR7 hb7; show K (Act.put _ (some 198) v7) w7) | ((try go_simp); go_at_call 26; (refine (rgives_c (HX2.out.below (below_step hb0_.out (by first | exact Below.refl _ _ | exact Below.drew (Below.refl _ _) | assumption | exact below_alloc (Below.drew (Below.refl _ _)) _ | exact below_alloc (by assumption) _ | exact below_alloc (Below.refl _ _) _)))).mono ?_); rintro e w4 ⟨v4, rfl, hr4, hb4⟩; have HB4 : Below w0.heap.size w0 w4 := below_step (by first | exact Below.refl _ _ | exact Below.drew (Below.refl _ _) | assumption | exact below_alloc (Below.drew (Below.refl _ _)) _ | exact below_alloc (by assumption) _ | exact below_alloc (Below.refl _ _) _) hb4; obtain ⟨Ar4, cr4, rfl⟩ := hr4.slice; have HR4 := Aside0.mk hr4; clear hr4; have HBB4 := hb4; clear hb4) | go_simp
    refine hK.out _ _ (by ((try dsimp only); first | exact KP.out _ (by assumption) | exact KP.out _ (Below.drew (Below.refl _ _)) | exact KP.out _ (below_alloc (by assumption) _) | exact KP.out _ (below_alloc (Below.refl _ _) _) | exact KP.out _ (below_alloc (below_alloc (Below.refl _ _) _) _) | exact KP.out _ (below_drew (below_alloc (Below.refl _ _) _)) | exact KP.out _ (below_drew (below_alloc (below_alloc (Below.refl _ _) _) _)) | exact KP.out _ (below_drew (below_alloc (by assumption) _)))) (fun hHeld => ?_)
    clear hK K
    (try simp only [Act.put, List.getElem_toArray, List.getElem_cons_zero, List.getElem_cons_succ, List.setIfInBounds_toArray, List.set_cons_zero, List.set_cons_succ])
    refine wpAnyH_done (by kernel_rfl) ?_ _
    refine NoPanic.normal ?_
    go_wp2_with fail
    all_goals
      refine bodyPost_ret (results_tmp2 rfl _ _ _) rfl ?_
      refine ⟨_, _, rfl, ?_, ?_, (below_step hb0_.out bel)⟩
      · rw [← HL1.out]; exact (HRI.out.below HBB4).lower (Nat.zero_le _)
      · exact HR4.out.lower (Nat.zero_le _)
  have d32 : (op == 32) = false := by simpa using hop
  have n2 := beq_eq_false_iff_ne.1 d2
  have n5 := beq_eq_false_iff_ne.1 d5
  have n20 := beq_eq_false_iff_ne.1 d20
  have n21 := beq_eq_false_iff_ne.1 d21
  have n24 := beq_eq_false_iff_ne.1 d24
  have n25 := beq_eq_false_iff_ne.1 d25
  have n26 := beq_eq_false_iff_ne.1 d26
  have n1 := beq_eq_false_iff_ne.1 d1
  have n19 := beq_eq_false_iff_ne.1 d19
  have n23 := beq_eq_false_iff_ne.1 d23
  have n22 := beq_eq_false_iff_ne.1 d22
  have n34 := beq_eq_false_iff_ne.1 d34
  have n3 := beq_eq_false_iff_ne.1 d3
  have n4 := beq_eq_false_iff_ne.1 d4
  have n29 := beq_eq_false_iff_ne.1 d29
  have n30 := beq_eq_false_iff_ne.1 d30
  have n33 := beq_eq_false_iff_ne.1 d33
  have n31 := beq_eq_false_iff_ne.1 d31
  have n27 := beq_eq_false_iff_ne.1 d27
  have n28 := beq_eq_false_iff_ne.1 d28
  have n32 := beq_eq_false_iff_ne.1 d32
  by_cases h18 : op = 18
  · subst h18
    have e : ofV m ⟨f0, f1, ⟨t0, t1⟩, f3, f4, f5, f6⟩ 18 A B = ([], []) := by simp [ofV, plainB, plainV]
    rw [e]
    clear e
    clear n2 n5 n20 n21 n24 n25 n26 n1 n19 n23 n22 n34 n3 n4 n29 n30 n33 n31 n27 n28 n32
    go_enter Try.func14, Try.ntmps14
    go_wp2_with fail
    refine bodyPost_ret (results_tmp2 rfl _ _ _) rfl ?_
    refine ⟨_, _, rfl, ?_, ?_, bel⟩
    · exact RowT.nil _ _
    · exact RowT.nil _ _
  have n18 := h18
  have d18 : (op == 18) = false := by simpa using h18
  clear h18
  by_cases h7 : 7 ≤ op
  · have b7 : decide (7 ≤ op) = true := decide_eq_true h7
    by_cases h17 : op ≤ 17
    · have b17 : decide (op ≤ 17) = true := decide_eq_true h17
      have e : ofV m ⟨f0, f1, ⟨t0, t1⟩, f3, f4, f5, f6⟩ op A B = ([tN, tN], [tN]) := by
        simp [ofV, plainB, plainV, h7, h17, n18, n2, n5, n20, n21, n24, n25, n26, n1, n19, n23, n22, n34, n3, n4, n29, n30, n33, n31, n27, n28, n32]
      rw [e]
      clear e
      clear h7 h17
      clear n2 n5 n20 n21 n24 n25 n26 n1 n19 n23 n22 n34 n3 n4 n29 n30 n33 n31 n27 n28 n32
      go_enter Try.func14, Try.ntmps14
      go_wp2_with fail
      refine see (F := fun w0_ => Below w.heap.size w w0_ ∧ w0_.cell? ⟨w.heap.size + 1 + 1, 0, none⟩ = some (.int .i64 1) ∧ w0_.cell? ⟨w.heap.size + 1 + 1, 1, none⟩ = some (.int .i64 0)) _ ⟨bel, (blk_cell (heap_k w [(.cells #[.slice A0 m.c.length c0, .slice A1 m.s.length c1, .slice A2 m.n.length c2, .slice (some ae) m.m.length c3, .slice A4 m.e.length c4, .int .i64 m.sk, .int .i64 m.hp] 28), (.cells #[.int .i64 op, .int .i64 A, .int .i64 B] 44), (.cells #[.int .i64 1, .int .i64 0] 38), (.cells #[.int .i64 2, .int .i64 0] 38), (.cells #[.int .i64 4, .int .i64 0] 38), (.cells #[.int .i64 0, .int .i64 0] 38), (.cells #[.int .i64 3, .int .i64 A] 38)] 2 (by simp)) 0).trans rfl, (blk_cell (heap_k w [(.cells #[.slice A0 m.c.length c0, .slice A1 m.s.length c1, .slice A2 m.n.length c2, .slice (some ae) m.m.length c3, .slice A4 m.e.length c4, .int .i64 m.sk, .int .i64 m.hp] 28), (.cells #[.int .i64 op, .int .i64 A, .int .i64 B] 44), (.cells #[.int .i64 1, .int .i64 0] 38), (.cells #[.int .i64 2, .int .i64 0] 38), (.cells #[.int .i64 4, .int .i64 0] 38), (.cells #[.int .i64 0, .int .i64 0] 38), (.cells #[.int .i64 3, .int .i64 A] 38)] 2 (by simp)) 1).trans rfl⟩ ?_
      rintro w0 ⟨hb0_, hq1_, hq2_⟩
      replace hb0_ := Aside0.mk hb0_
      replace hq1_ := Aside0.mk hq1_
      replace hq2_ := Aside0.mk hq2_
      have KP := Aside0.mk (show ∀ w', Below w0.heap.size w0 w' → (w'.cell? ⟨w.heap.size + 1 + 1, 0, none⟩ = some (.int .i64 1) ∧ w'.cell? ⟨w.heap.size + 1 + 1, 1, none⟩ = some (.int .i64 0)) from fun w' h => ⟨keepc h hq1_.out, keepc h hq2_.out⟩)
      go_region_held3 (fun w' => w'.cell? ⟨w.heap.size + 1 + 1, 0, none⟩ = some (.int .i64 1) ∧ w'.cell? ⟨w.heap.size + 1 + 1, 1, none⟩ = some (.int .i64 0)) (((try dsimp only); first | exact KP.out _ (by assumption) | exact KP.out _ (Below.drew (Below.refl _ _)) | exact KP.out _ (below_alloc (by assumption) _) | exact KP.out _ (below_alloc (Below.refl _ _) _) | exact KP.out _ (below_alloc (below_alloc (Below.refl _ _) _) _) | exact KP.out _ (below_drew (below_alloc (Below.refl _ _) _)) | exact KP.out _ (below_drew (below_alloc (below_alloc (Below.refl _ _) _) _)) | exact KP.out _ (below_drew (below_alloc (by assumption) _)))) (first | fail)
      all_goals
        go_wp2_with fail
        refine bodyPost_ret (results_tmp2 rfl _ _ _) rfl ?_
        refine ⟨_, _, rfl, ?_, ?_, (below_step hb0_.out bel)⟩
        · refine RowT.blk (xs := [tN, tN]) ?_ (by simp) (Nat.zero_le _)
          first | exact blk_drew (blk_alloc (heap_alloc_at _ _ _ (by simp)) _) | exact blk_drew (heap_alloc_at _ _ _ (by simp)) | exact blk_alloc (heap_alloc_at _ _ _ (by simp)) _ | exact heap_alloc_at _ _ _ (by simp) | exact blk_below (blk_drew (heap_alloc_new w0 _)) HBB5 | exact blk_below (blk_drew (heap_alloc_new w0 _)) HBB4
        · refine RowT.blk (xs := [tN]) ?_ (by simp) (Nat.zero_le _)
          first | exact blk_drew (blk_alloc (heap_alloc_at _ _ _ (by simp)) _) | exact blk_drew (heap_alloc_at _ _ _ (by simp)) | exact blk_alloc (heap_alloc_at _ _ _ (by simp)) _ | exact heap_alloc_at _ _ _ (by simp) | exact blk_below (blk_drew (heap_alloc_new w0 _)) HBB5 | exact blk_below (blk_drew (heap_alloc_new w0 _)) HBB4
    · have b17 : decide (op ≤ 17) = false := decide_eq_false h17
      have e : ofV m ⟨f0, f1, ⟨t0, t1⟩, f3, f4, f5, f6⟩ op A B = ([], []) := by
        simp [ofV, plainB, plainV, h7, h17, n18, n2, n5, n20, n21, n24, n25, n26, n1, n19, n23, n22, n34, n3, n4, n29, n30, n33, n31, n27, n28, n32]
      rw [e]
      clear e
      clear h7 h17
      clear n2 n5 n20 n21 n24 n25 n26 n1 n19 n23 n22 n34 n3 n4 n29 n30 n33 n31 n27 n28 n32
      go_enter Try.func14, Try.ntmps14
      go_wp2_with fail
      refine bodyPost_ret (results_tmp2 rfl _ _ _) rfl ?_
      refine ⟨_, _, rfl, ?_, ?_, bel⟩
      · exact RowT.nil _ _
      · exact RowT.nil _ _
  · have b7 : decide (7 ≤ op) = false := decide_eq_false h7
    have e : ofV m ⟨f0, f1, ⟨t0, t1⟩, f3, f4, f5, f6⟩ op A B = ([], []) := by
      simp [ofV, plainB, plainV, h7, n18, n2, n5, n20, n21, n24, n25, n26, n1, n19, n23, n22, n34, n3, n4, n29, n30, n33, n31, n27, n28, n32]
    rw [e]
    clear e
    clear h7
    clear n2 n5 n20 n21 n24 n25 n26 n1 n19 n23 n22 n34 n3 n4 n29 n30 n33 n31 n27 n28 n32
    go_enter Try.func14, Try.ntmps14
    go_wp2_with fail
    refine bodyPost_ret (results_tmp2 rfl _ _ _) rfl ?_
    refine ⟨_, _, rfl, ?_, ?_, bel⟩
    · exact RowT.nil _ _
    · exact RowT.nil _ _

end Go.Proofs.Ytoiahldbahdaoaa.Flow
