/- The law FlowTakes, walked whole. -/
import Derived.Test.YtoiahldbahdaoaaFlowLF
import Derived.Test.YtoiahldbahdaoaaFlowFX
namespace Go.Proofs.Ytoiahldbahdaoaa.Flow
open Go.RowKit Go.Proofs.Ytoiahldbahdaoaa.QFlowSteps Go.Proofs.YtoiahldbahdaoaaW.PrintWords Go.Proofs.YtoiahldbahdaoaaW.PrintLast Go.Proofs.Ytoiahldbahdaoaa.Chain
set_option linter.unusedVariables false
set_option linter.unusedSimpArgs false
set_option maxHeartbeats 16000000 in
set_option maxRecDepth 100000 in
theorem takes_law (a : IA) (m : Im) (f pc : Int) (A6 : Option Addr) (c6 : Nat) (sb : List S38) (w : World) (hm : IC w a m) (hsb : Kd.C k38 w A6 sb.length sb) (hcb : sb.length ≤ c6) (hf : 0 ≤ f ∧ f ≤ 255) (hp : 0 ≤ pc ∧ pc ≤ 255) :
    Calls Try.prog 4 #[.agg #[.slice a.A0 m.c.length a.c0, .slice a.A1 m.s.length a.c1, .slice a.A2 m.n.length a.c2, .slice a.A3 m.m.length a.c3, .slice a.A4 m.e.length a.c4, .int .i64 m.sk, .int .i64 m.hp], .int .u8 f, .int .u8 pc, .slice A6 sb.length c6] w fun e w' => e = .returned (.bool true) ∧ Below w.heap.size w w' := by
  obtain ⟨A0, A1, A2, A3, A4, c0, c1, c2, c3, c4⟩ := a
  have HM := Aside0.mk hm
  have HB := Aside0.mk hsb
  have hmax := Kd.C_max hm.h3
  have hmay := Kd.C_max hsb
  clear hm hsb
  obtain ⟨q, hq⟩ : ∃ q, saneB m = q := ⟨_, rfl⟩
  have HQ := Aside0.mk hq
  clear hq
  cases q with
  | false =>
    go_enter Try.func4, Try.ntmps4
    go_wp2_with (first | (go_at_call 7; (refine (law_sane_c (HM.out.below bel) HQ.out).mono ?_); rintro e w1 ⟨rfl, hb1⟩; obtain ⟨hc1, hf1⟩ := bcell hb1; have hz1 : w.heap.size < w1.heap.size := lts hb1.size; have HB1 : Below w.heap.size w w1 := below_mid bel hb1; have HC1 := Aside0.mk hb1; clear hb1) | (go_at_call 8; (refine (awake_c _).mono ?_); rintro e w9 ⟨rfl, hb9⟩; have HB9 : Below w.heap.size w w9 := below_mid bel hb9; clear hb9))
    go_ret
    exact ⟨rfl, HB9⟩
  | true =>
  have HSN := Aside0.mk (saneP HQ.out)
  have m12 := (saneP HQ.out).fits.m12
  have c8 := (saneP HQ.out).fits.c8
  by_cases hz : m.m.length = 0
  · have dz : ((m.m.length : Int) == 0) = true := by rw [hz]; rfl
    clear hz
    go_enter Try.func4, Try.ntmps4
    go_wp2_with (first | (go_at_call 7; (refine (law_sane_c (HM.out.below bel) HQ.out).mono ?_); rintro e w1 ⟨rfl, hb1⟩; obtain ⟨hc1, hf1⟩ := bcell hb1; have hz1 : w.heap.size < w1.heap.size := lts hb1.size; have HB1 : Below w.heap.size w w1 := below_mid bel hb1; have HC1 := Aside0.mk hb1; clear hb1) | (go_at_call 8; (refine (awake_c _).mono ?_); rintro e w9 ⟨rfl, hb9⟩; have HB9 : Below w.heap.size w w9 := below_mid bel hb9; clear hb9))
    go_ret
    exact ⟨rfl, HB9⟩
  have dz : ((m.m.length : Int) == 0) = false := beq_eq_false_iff_ne.2 (by omega)
  by_cases h5 : 50 < sb.length
  · have d5 : decide (50 < (sb.length : Int)) = true := decide_eq_true (by omega)
    clear h5
    go_enter Try.func4, Try.ntmps4
    go_wp2_with (first | (go_at_call 7; (refine (law_sane_c (HM.out.below bel) HQ.out).mono ?_); rintro e w1 ⟨rfl, hb1⟩; obtain ⟨hc1, hf1⟩ := bcell hb1; have hz1 : w.heap.size < w1.heap.size := lts hb1.size; have HB1 : Below w.heap.size w w1 := below_mid bel hb1; have HC1 := Aside0.mk hb1; clear hb1) | (go_at_call 8; (refine (awake_c _).mono ?_); rintro e w9 ⟨rfl, hb9⟩; have HB9 : Below w.heap.size w w9 := below_mid bel hb9; clear hb9))
    go_ret
    exact ⟨rfl, HB9⟩
  have d5 : decide (50 < (sb.length : Int)) = false := decide_eq_false (by omega)
  have hlb : sb.length ≤ 50 := by omega
  clear h5 hmay
  have hf0 := hf.1
  have hf1 := hf.2
  have hp0 := hp.1
  have hp1 := hp.2
  have hml : 0 < (m.m.length : Int) := by omega
  have hg0 : 0 ≤ f % (m.m.length : Int) := Int.emod_nonneg _ (by omega)
  have hg1 : f % (m.m.length : Int) < (m.m.length : Int) := Int.emod_lt_of_pos _ hml
  obtain ⟨g, hg⟩ : ∃ g, f % (m.m.length : Int) = g := ⟨_, rfl⟩
  rw [hg] at hg0 hg1
  obtain ⟨ae, F0, g0', F1, g1', F4, g4', F7, g7', hA3, y0, y1, y2, y3, y4, y5, y6, y7, z0, z1, z2, z3, z4, z5, z6, z7⟩ := at_T41 HM.out.h3 g hg0 hg1
  subst hA3
  clear y0 y1 y2 y3 y5 y6 y7 z0 z1 z2 z3 z6 z7
  have hmp := HSN.out.metP (rdM_mem hg0 hg1)
  have hx0 := hmp.c0
  have hx64 := hmp.c64
  obtain ⟨X, hX⟩ : ∃ X, (rd_T41 m.m g).f3 = X := ⟨_, rfl⟩
  rw [hX] at y4 hx0 hx64 z4 z5
  have HXX := Aside0.mk hX
  have hxl : 0 < (X.length : Int) := by omega
  have dx : ((X.length : Int) == 0) = false := beq_eq_false_iff_ne.2 (by omega)
  have hq0 : 0 ≤ pc % (X.length : Int) := Int.emod_nonneg _ (by omega)
  have hq1 : pc % (X.length : Int) < (X.length : Int) := Int.emod_lt_of_pos _ hxl
  obtain ⟨p, hpq⟩ : ∃ p, pc % (X.length : Int) = p := ⟨_, rfl⟩
  rw [hpq] at hq0 hq1
  have hxm := rdI_mem hq0 hq1
  rw [← hX] at hxm
  have hib := hmp.ib _ hxm
  have HNM := Aside0.mk (hmp.nm _ hxm)
  rw [hX] at hib HNM
  clear hmp hX hxm
  obtain ⟨ai, hF4, x0, x1, x2⟩ := at_T44 z5 p hq0 hq1
  subst hF4
  clear z4 z5
  obtain ⟨⟨op, A, B⟩, hI⟩ : ∃ i, rd_T44 X p = i := ⟨_, rfl⟩
  rw [hI] at x0 x1 x2 hib HNM
  dsimp only at x0 x1 x2 hib HNM
  have hin : rd_T44 (rd_T41 m.m g).f3 p = ⟨op, A, B⟩ := by rw [HXX.out]; exact hI
  have HIN := Aside0.mk hin
  clear hI hin
  obtain ⟨b0, b1, b2, b3, b4, b5⟩ := hib
  clear b4 b5
  have hal := World.block_lt_of_cell? w _ y4
  have hal1 : (ae.add (g.toNat * 8)).block < w.heap.size + 1 := Nat.lt_succ_of_lt hal
  have hai := World.block_lt_of_cell? w _ x0
  have hai1 : (ai.add (p.toNat * 3)).block < w.heap.size + 1 := Nat.lt_succ_of_lt hai
  obtain ⟨⟨e1, x, n1⟩, hs1⟩ : ∃ r, stepV m g p sb = r := ⟨_, rfl⟩
  have HS1 := Aside0.mk hs1
  have hfew : (sb.length : Int) < takesV m (rd_T41 m.m g) op A B → e1 ≠ 0 := fun h => by
    have h2 := stepV_in (st := sb) hg0 hg1 hq0 (by rw [HXX.out]; exact hq1)
    rw [hs1, HIN.out] at h2
    have h3 := stepI_few (m := m) (x := rd_T41 m.m g) (i := ⟨op, A, B⟩) (pc := p) (s := sb) h
    rw [← h2] at h3
    exact h3
  clear hs1
  obtain ⟨I, hI⟩ : ∃ I, (ofV m (rd_T41 m.m g) op A B).1 = I := ⟨_, rfl⟩
  have HI := Aside0.mk hI
  have hI1000 : I.length ≤ 8 := by rw [← hI]; exact (of_len HSN.out b0 b2 HNM.out).1
  obtain ⟨N, hN⟩ : ∃ N, takesV m (rd_T41 m.m g) op A B = N := ⟨_, rfl⟩
  have HN := Aside0.mk hN
  have hN6 : N = if op = 6 then 1 else (I.length : Int) := by rw [← hN, ← hI]; rfl
  rw [hN] at hfew
  clear hN hI
  have dw : ((I.length : Int) == (I.length : Int)) = true := beq_self_eq_true _
  have main : ∀ b6, (op == 6) = b6 → (N = if b6 then 1 else (I.length : Int)) → ∀ bl, decide ((sb.length : Int) < N) = bl → ∀ be, (bl = true → be = false) → (bl = true → (e1 == 0) = be) → Calls Try.prog 4 #[.agg #[.slice A0 m.c.length c0, .slice A1 m.s.length c1, .slice A2 m.n.length c2, .slice (some ae) m.m.length c3, .slice A4 m.e.length c4, .int .i64 m.sk, .int .i64 m.hp], .int .u8 f, .int .u8 pc, .slice A6 sb.length c6] w fun e w' => e = .returned (.bool true) ∧ Below w.heap.size w w' := by
    intro b6 d6 hNN bl dl be hbe dbe
    clear hfew hN6
    cases b6 <;> cases bl
    all_goals
      simp only [if_true, if_false, Bool.false_eq_true] at hNN
      subst hNN
      first | (obtain rfl := hbe rfl; replace dbe := dbe rfl) | clear dbe hbe
      try clear hbe
      try have dl3 : sb.length < I.length := by have := of_decide_eq_true dl; omega
      try have dl3 : ¬ sb.length < I.length := by have := of_decide_eq_false dl; omega
      go_enter Try.func4, Try.ntmps4
      go_wp2_with (first | (go_at_call 7; (refine (law_sane_c (HM.out.below bel) HQ.out).mono ?_); rintro e w1 ⟨rfl, hb1⟩; obtain ⟨hc1, hf1⟩ := bcell hb1; have hz1 : w.heap.size < w1.heap.size := lts hb1.size; have hy1 : (ae.add (g.toNat * 8)).block < w1.heap.size := lts hb1.size; have hu1 : (ai.add (p.toNat * 3)).block < w1.heap.size := lts hb1.size; have HB1 : Below w.heap.size w w1 := below_mid bel hb1; have HC1 := Aside0.mk hb1; clear hb1))
      refine see (F := fun w0_ => Below w.heap.size w w0_ ∧ w0_.cell? ⟨w.heap.size, 0, none⟩ = some (.slice A0 m.c.length c0) ∧ w0_.cell? ⟨w.heap.size, 1, none⟩ = some (.slice A1 m.s.length c1) ∧ w0_.cell? ⟨w.heap.size, 2, none⟩ = some (.slice A2 m.n.length c2) ∧ w0_.cell? ⟨w.heap.size, 3, none⟩ = some (.slice (some ae) m.m.length c3) ∧ w0_.cell? ⟨w.heap.size, 4, none⟩ = some (.slice A4 m.e.length c4) ∧ w0_.cell? ⟨w.heap.size, 5, none⟩ = some (.int .i64 m.sk) ∧ w0_.cell? ⟨w.heap.size, 6, none⟩ = some (.int .i64 m.hp) ∧ w0_.cell? ⟨(ae.add (g.toNat * 8)).block, (ae.add (g.toNat * 8)).off + 4, none⟩ = some (.slice (some ai) X.length g4') ∧ w0_.cell? (ai.add (p.toNat * 3)) = some (.int .i64 op) ∧ w0_.cell? ⟨(ai.add (p.toNat * 3)).block, (ai.add (p.toNat * 3)).off + 1, none⟩ = some (.int .i64 A) ∧ w0_.cell? ⟨(ai.add (p.toNat * 3)).block, (ai.add (p.toNat * 3)).off + 2, none⟩ = some (.int .i64 B)) _ ⟨bel, (blk_cell (blk_below (blk_new w _) HC1.out) 0).trans rfl, (blk_cell (blk_below (blk_new w _) HC1.out) 1).trans rfl, (blk_cell (blk_below (blk_new w _) HC1.out) 2).trans rfl, (blk_cell (blk_below (blk_new w _) HC1.out) 3).trans rfl, (blk_cell (blk_below (blk_new w _) HC1.out) 4).trans rfl, (blk_cell (blk_below (blk_new w _) HC1.out) 5).trans rfl, (blk_cell (blk_below (blk_new w _) HC1.out) 6).trans rfl, keepc HB1 y4, keepc HB1 x0, keepc HB1 x1, keepc HB1 x2⟩ ?_
      rintro w3 ⟨hb3_, hq1_, hq2_, hq3_, hq4_, hq5_, hq6_, hq7_, hq8_, hq9_, hq10_, hq11_⟩
      replace hb3_ := Aside0.mk hb3_
      replace hq1_ := Aside0.mk hq1_
      replace hq2_ := Aside0.mk hq2_
      replace hq3_ := Aside0.mk hq3_
      replace hq4_ := Aside0.mk hq4_
      replace hq5_ := Aside0.mk hq5_
      replace hq6_ := Aside0.mk hq6_
      replace hq7_ := Aside0.mk hq7_
      replace hq8_ := Aside0.mk hq8_
      replace hq9_ := Aside0.mk hq9_
      replace hq10_ := Aside0.mk hq10_
      replace hq11_ := Aside0.mk hq11_
      have KP := Aside0.mk (show ∀ w', Below w3.heap.size w3 w' → (w'.cell? ⟨w.heap.size, 0, none⟩ = some (.slice A0 m.c.length c0) ∧ w'.cell? ⟨w.heap.size, 1, none⟩ = some (.slice A1 m.s.length c1) ∧ w'.cell? ⟨w.heap.size, 2, none⟩ = some (.slice A2 m.n.length c2) ∧ w'.cell? ⟨w.heap.size, 3, none⟩ = some (.slice (some ae) m.m.length c3) ∧ w'.cell? ⟨w.heap.size, 4, none⟩ = some (.slice A4 m.e.length c4) ∧ w'.cell? ⟨w.heap.size, 5, none⟩ = some (.int .i64 m.sk) ∧ w'.cell? ⟨w.heap.size, 6, none⟩ = some (.int .i64 m.hp) ∧ w'.cell? ⟨(ae.add (g.toNat * 8)).block, (ae.add (g.toNat * 8)).off + 4, none⟩ = some (.slice (some ai) X.length g4') ∧ w'.cell? (ai.add (p.toNat * 3)) = some (.int .i64 op) ∧ w'.cell? ⟨(ai.add (p.toNat * 3)).block, (ai.add (p.toNat * 3)).off + 1, none⟩ = some (.int .i64 A) ∧ w'.cell? ⟨(ai.add (p.toNat * 3)).block, (ai.add (p.toNat * 3)).off + 2, none⟩ = some (.int .i64 B)) from fun w' h => ⟨keepc h hq1_.out, keepc h hq2_.out, keepc h hq3_.out, keepc h hq4_.out, keepc h hq5_.out, keepc h hq6_.out, keepc h hq7_.out, keepc h hq8_.out, keepc h hq9_.out, keepc h hq10_.out, keepc h hq11_.out⟩)
      go_region_held3 (fun w' => w'.cell? ⟨w.heap.size, 0, none⟩ = some (.slice A0 m.c.length c0) ∧ w'.cell? ⟨w.heap.size, 1, none⟩ = some (.slice A1 m.s.length c1) ∧ w'.cell? ⟨w.heap.size, 2, none⟩ = some (.slice A2 m.n.length c2) ∧ w'.cell? ⟨w.heap.size, 3, none⟩ = some (.slice (some ae) m.m.length c3) ∧ w'.cell? ⟨w.heap.size, 4, none⟩ = some (.slice A4 m.e.length c4) ∧ w'.cell? ⟨w.heap.size, 5, none⟩ = some (.int .i64 m.sk) ∧ w'.cell? ⟨w.heap.size, 6, none⟩ = some (.int .i64 m.hp) ∧ w'.cell? ⟨(ae.add (g.toNat * 8)).block, (ae.add (g.toNat * 8)).off + 4, none⟩ = some (.slice (some ai) X.length g4') ∧ w'.cell? (ai.add (p.toNat * 3)) = some (.int .i64 op) ∧ w'.cell? ⟨(ai.add (p.toNat * 3)).block, (ai.add (p.toNat * 3)).off + 1, none⟩ = some (.int .i64 A) ∧ w'.cell? ⟨(ai.add (p.toNat * 3)).block, (ai.add (p.toNat * 3)).off + 2, none⟩ = some (.int .i64 B)) (((try dsimp only); first | exact KP.out _ (by assumption) | exact KP.out _ (Below.drew (Below.refl _ _)) | exact KP.out _ (below_alloc (by assumption) _) | exact KP.out _ (below_alloc (Below.refl _ _) _) | exact KP.out _ (below_alloc (below_alloc (Below.refl _ _) _) _) | exact KP.out _ (below_drew (below_alloc (Below.refl _ _) _)) | exact KP.out _ (below_drew (below_alloc (below_alloc (Below.refl _ _) _) _)) | exact KP.out _ (below_drew (below_alloc (by assumption) _)))) (first | ((try go_simp); go_at_call 13; (with_reducible refine (takes_calls ⟨A0, A1, A2, some ae, A4, c0, c1, c2, c3, c4⟩ m g op A B _ (HM.out.below (below_mid hb3_.out (by first | exact Below.refl _ _ | exact Below.drew (Below.refl _ _) | assumption))) HSN.out hg0 hg1 b0 b1 b2 b3 HNM.out).mono ?_); rintro e w5 ⟨rfl, hb5⟩; (try rw [HN.out]); have HB5 : Below w3.heap.size w3 w5 := below_step (by first | exact Below.refl _ _ | exact Below.drew (Below.refl _ _) | assumption) hb5; clear hb5))
      go_wp2_with fail
      refine see (F := fun w0_ => Below w5.heap.size w5 w0_ ∧ w0_.cell? ⟨w.heap.size, 0, none⟩ = some (.slice A0 m.c.length c0) ∧ w0_.cell? ⟨w.heap.size, 1, none⟩ = some (.slice A1 m.s.length c1) ∧ w0_.cell? ⟨w.heap.size, 2, none⟩ = some (.slice A2 m.n.length c2) ∧ w0_.cell? ⟨w.heap.size, 3, none⟩ = some (.slice (some ae) m.m.length c3) ∧ w0_.cell? ⟨w.heap.size, 4, none⟩ = some (.slice A4 m.e.length c4) ∧ w0_.cell? ⟨w.heap.size, 5, none⟩ = some (.int .i64 m.sk) ∧ w0_.cell? ⟨w.heap.size, 6, none⟩ = some (.int .i64 m.hp) ∧ w0_.cell? ⟨(ae.add (g.toNat * 8)).block, (ae.add (g.toNat * 8)).off + 4, none⟩ = some (.slice (some ai) X.length g4') ∧ w0_.cell? (ai.add (p.toNat * 3)) = some (.int .i64 op) ∧ w0_.cell? ⟨(ai.add (p.toNat * 3)).block, (ai.add (p.toNat * 3)).off + 1, none⟩ = some (.int .i64 A) ∧ w0_.cell? ⟨(ai.add (p.toNat * 3)).block, (ai.add (p.toNat * 3)).off + 2, none⟩ = some (.int .i64 B)) _ ⟨bel, keepc HB5 hq1_.out, keepc HB5 hq2_.out, keepc HB5 hq3_.out, keepc HB5 hq4_.out, keepc HB5 hq5_.out, keepc HB5 hq6_.out, keepc HB5 hq7_.out, keepc HB5 hq8_.out, keepc HB5 hq9_.out, keepc HB5 hq10_.out, keepc HB5 hq11_.out⟩ ?_
      rintro w6 ⟨hb6_, hq1_, hq2_, hq3_, hq4_, hq5_, hq6_, hq7_, hq8_, hq9_, hq10_, hq11_⟩
      replace hb6_ := Aside0.mk hb6_
      replace hq1_ := Aside0.mk hq1_
      replace hq2_ := Aside0.mk hq2_
      replace hq3_ := Aside0.mk hq3_
      replace hq4_ := Aside0.mk hq4_
      replace hq5_ := Aside0.mk hq5_
      replace hq6_ := Aside0.mk hq6_
      replace hq7_ := Aside0.mk hq7_
      replace hq8_ := Aside0.mk hq8_
      replace hq9_ := Aside0.mk hq9_
      replace hq10_ := Aside0.mk hq10_
      replace hq11_ := Aside0.mk hq11_
      have KP := Aside0.mk (show ∀ w', Below w6.heap.size w6 w' → (w'.cell? ⟨w.heap.size, 0, none⟩ = some (.slice A0 m.c.length c0) ∧ w'.cell? ⟨w.heap.size, 1, none⟩ = some (.slice A1 m.s.length c1) ∧ w'.cell? ⟨w.heap.size, 2, none⟩ = some (.slice A2 m.n.length c2) ∧ w'.cell? ⟨w.heap.size, 3, none⟩ = some (.slice (some ae) m.m.length c3) ∧ w'.cell? ⟨w.heap.size, 4, none⟩ = some (.slice A4 m.e.length c4) ∧ w'.cell? ⟨w.heap.size, 5, none⟩ = some (.int .i64 m.sk) ∧ w'.cell? ⟨w.heap.size, 6, none⟩ = some (.int .i64 m.hp) ∧ w'.cell? ⟨(ae.add (g.toNat * 8)).block, (ae.add (g.toNat * 8)).off + 4, none⟩ = some (.slice (some ai) X.length g4') ∧ w'.cell? (ai.add (p.toNat * 3)) = some (.int .i64 op) ∧ w'.cell? ⟨(ai.add (p.toNat * 3)).block, (ai.add (p.toNat * 3)).off + 1, none⟩ = some (.int .i64 A) ∧ w'.cell? ⟨(ai.add (p.toNat * 3)).block, (ai.add (p.toNat * 3)).off + 2, none⟩ = some (.int .i64 B)) from fun w' h => ⟨keepc h hq1_.out, keepc h hq2_.out, keepc h hq3_.out, keepc h hq4_.out, keepc h hq5_.out, keepc h hq6_.out, keepc h hq7_.out, keepc h hq8_.out, keepc h hq9_.out, keepc h hq10_.out, keepc h hq11_.out⟩)
      go_region_held3 (fun w' => w'.cell? ⟨w.heap.size, 0, none⟩ = some (.slice A0 m.c.length c0) ∧ w'.cell? ⟨w.heap.size, 1, none⟩ = some (.slice A1 m.s.length c1) ∧ w'.cell? ⟨w.heap.size, 2, none⟩ = some (.slice A2 m.n.length c2) ∧ w'.cell? ⟨w.heap.size, 3, none⟩ = some (.slice (some ae) m.m.length c3) ∧ w'.cell? ⟨w.heap.size, 4, none⟩ = some (.slice A4 m.e.length c4) ∧ w'.cell? ⟨w.heap.size, 5, none⟩ = some (.int .i64 m.sk) ∧ w'.cell? ⟨w.heap.size, 6, none⟩ = some (.int .i64 m.hp) ∧ w'.cell? ⟨(ae.add (g.toNat * 8)).block, (ae.add (g.toNat * 8)).off + 4, none⟩ = some (.slice (some ai) X.length g4') ∧ w'.cell? (ai.add (p.toNat * 3)) = some (.int .i64 op) ∧ w'.cell? ⟨(ai.add (p.toNat * 3)).block, (ai.add (p.toNat * 3)).off + 1, none⟩ = some (.int .i64 A) ∧ w'.cell? ⟨(ai.add (p.toNat * 3)).block, (ai.add (p.toNat * 3)).off + 2, none⟩ = some (.int .i64 B)) (((try dsimp only); first | exact KP.out _ (by assumption) | exact KP.out _ (Below.drew (Below.refl _ _)) | exact KP.out _ (below_alloc (by assumption) _) | exact KP.out _ (below_alloc (Below.refl _ _) _) | exact KP.out _ (below_alloc (below_alloc (Below.refl _ _) _) _) | exact KP.out _ (below_drew (below_alloc (Below.refl _ _) _)) | exact KP.out _ (below_drew (below_alloc (below_alloc (Below.refl _ _) _) _)) | exact KP.out _ (below_drew (below_alloc (by assumption) _)))) (first | ((try go_simp); go_at_call 14; (with_reducible refine (rule_calls ⟨A0, A1, A2, some ae, A4, c0, c1, c2, c3, c4⟩ m g op A B _ (HM.out.below (below_mid (below_mid (below_mid hb3_.out HB5) hb6_.out) (by first | exact Below.refl _ _ | exact Below.drew (Below.refl _ _) | assumption))) HSN.out hg0 hg1 b0 b1 b2 b3 HNM.out).mono ?_); rintro e w7 ⟨va, vo, rfl, hi, ho, hb7⟩; rw [HI.out] at hi; obtain ⟨Ai, ci, rfl⟩ := hi.slice; obtain ⟨Ao, co, rfl⟩ := ho.slice; clear hi ho; have HB7 : Below w6.heap.size w6 w7 := below_step (by first | exact Below.refl _ _ | exact Below.drew (Below.refl _ _) | assumption) hb7; clear hb7))
      have HBW : Below w.heap.size w w7 := below_mid (below_mid (below_mid hb3_.out HB5) hb6_.out) HB7
      have j0 := keepc HB7 hq1_.out
      have j1 := keepc HB7 hq2_.out
      have j2 := keepc HB7 hq3_.out
      have j3 := keepc HB7 hq4_.out
      have j4 := keepc HB7 hq5_.out
      have j5 := keepc HB7 hq6_.out
      have j6 := keepc HB7 hq7_.out
      have j7 := keepc HB7 hq8_.out
      have j8 := keepc HB7 hq9_.out
      go_wp2_with (first | (go_at_call 9; (with_reducible refine (step_w (a := ⟨A0, A1, A2, some ae, A4, c0, c1, c2, c3, c4⟩) (HM.out.below HBW) HSN.out g p (Kd.C_below HB.out HBW) hcb (by omega) HS1.out).mono ?_); rintro e w8 ⟨Ax, cx, Bx, kx, rfl, hcx, hCx, hkx, hNx, hb8⟩; clear hCx hNx; have HB8 : Below w.heap.size w w8 := below_mid HBW hb8; clear hb8) | (go_at_call 8; (refine (awake_c _).mono ?_); rintro e w9 ⟨rfl, hb9⟩; have HB9 : Below w.heap.size w w9 := below_mid bel hb9; clear hb9))
      go_ret
      exact ⟨rfl, HB9⟩
  by_cases h6 : op = 6
  · refine main true (beq_iff_eq.2 h6) (by rw [hN6, if_pos h6]; rfl) _ rfl (e1 == 0 && !decide ((sb.length : Int) < N)) (fun h => by rw [h]; simp) (fun h => by rw [h, beq_eq_false_iff_ne.2 (hfew (of_decide_eq_true h))]; rfl)
  · refine main false (beq_eq_false_iff_ne.2 h6) (by rw [hN6, if_neg h6]; rfl) _ rfl (e1 == 0 && !decide ((sb.length : Int) < N)) (fun h => by rw [h]; simp) (fun h => by rw [h, beq_eq_false_iff_ne.2 (hfew (of_decide_eq_true h))]; rfl)
end Go.Proofs.Ytoiahldbahdaoaa.Flow
