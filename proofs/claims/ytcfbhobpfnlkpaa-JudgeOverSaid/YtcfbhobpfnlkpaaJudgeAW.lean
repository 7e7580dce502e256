/- The walk: targets and calls. -/
import Derived.Test.YtcfbhobpfnlkpaaJudgeFS
namespace Go.Proofs.Ytcfbhobpfnlkpaa.Flow
open Go.RowKit Go.Proofs.Ytcfbhobpfnlkpaa.QJudgeFound Go.Proofs.YtcfbhobpfnlkpaaW.PrintWords Go.Proofs.YtcfbhobpfnlkpaaW.PrintLast Go.Proofs.Ytcfbhobpfnlkpaa.Chain
set_option linter.unusedVariables false
set_option linter.unusedSimpArgs false
theorem C_zero {α : Type} (d : Kd α) (w : World) (A : Option Addr) : Kd.C d w A 0 [] := ⟨rfl, by omega, fun h => absurd h (Nat.lt_irrefl 0)⟩
set_option maxHeartbeats 4000000 in
set_option maxRecDepth 100000 in
theorem targets_c {w : World} {a : IA} {m : Im} (op A B : Int) (n1 : op ≠ 31) (n2 : op ≠ 32) :
    Calls Try.prog 45 #[.agg #[.slice a.A0 m.c.length a.c0, .slice a.A1 m.s.length a.c1, .slice a.A2 m.n.length a.c2, .slice a.A3 m.m.length a.c3, .slice a.A4 m.e.length a.c4, .int .i64 m.sk, .int .i64 m.hp], .agg #[.int .i64 op, .int .i64 A, .int .i64 B]] w fun e w' => ∃ R c, e = .returned (.slice R 0 c) ∧ Below w.heap.size w w' := by
  have d1 : (op == 31) = false := beq_eq_false_iff_ne.2 n1
  have d2 : (op == 32) = false := beq_eq_false_iff_ne.2 n2
  clear n1 n2
  go_enter Try.func45, Try.ntmps45
  go_wp2_with fail
  go_ret
  exact ⟨_, _, rfl, bel⟩
set_option maxHeartbeats 8000000 in
set_option maxRecDepth 100000 in
theorem calls_c {w : World} {a : IA} {m : Im} (hm : IC w a m) (f g : Int) (h0 : 0 ≤ f) (h1 : f < (m.m.length : Int)) (hl : (rd_T52 m.m f).f3.length ≤ 1000) (hops : ∀ i ∈ (rd_T52 m.m f).f3, i.f0 ≠ 31 ∧ i.f0 ≠ 32) :
    Calls Try.prog 27 #[.agg #[.slice a.A0 m.c.length a.c0, .slice a.A1 m.s.length a.c1, .slice a.A2 m.n.length a.c2, .slice a.A3 m.m.length a.c3, .slice a.A4 m.e.length a.c4, .int .i64 m.sk, .int .i64 m.hp], .int .i64 f, .int .i64 g] w fun e w' => e = .returned (.bool false) ∧ Below w.heap.size w w' := by
  obtain ⟨A0, A1, A2, A3, A4, c0, c1, c2, c3, c4⟩ := a
  obtain ⟨ae, F0, g0', F1, g1', F4, g4', F7, g7', hA3, y0, y1, y2, y3, y4, y5, y6, y7, z0, z1, z2, z3, z4, z5, z6, z7⟩ := at_T52 (show Kd.C k52 w A3 m.m.length m.m from hm.h3) f h0 h1
  subst hA3
  clear y0 y1 y2 y3 y5 y6 y7 z0 z1 z2 z3 z6 z7
  obtain ⟨X, hX⟩ : ∃ X, (rd_T52 m.m f).f3 = X := ⟨_, rfl⟩
  rw [hX] at y4 z4 z5 hl hops
  have HM := Aside0.mk hm
  have HO := Aside0.mk hops
  have HZ := Aside0.mk z5
  have HY := Aside0.mk y4
  have ql := World.block_lt_of_cell? w _ y4
  have ql1 : (ae.add (f.toNat * 8)).block < w.heap.size + 1 := Nat.lt_succ_of_lt ql
  clear hm hops hX z4 z5
  go_enter Try.func27, Try.ntmps27
  go_wp2_with fail
  refine see (F := fun w0_ => Below w.heap.size w w0_ ∧ w0_.heap[w.heap.size]? = some (.cells #[.slice A0 m.c.length c0, .slice A1 m.s.length c1, .slice A2 m.n.length c2, .slice (some ae) m.m.length c3, .slice A4 m.e.length c4, .int .i64 m.sk, .int .i64 m.hp] 28 (0, 0))) _ ⟨bel, blk_new w _⟩ ?_
  rintro w0 ⟨hb0_, HX0⟩
  replace hb0_ := Aside0.mk hb0_
  replace HX0 := Aside0.mk HX0
  clear y4
  go_loopg [7] (X.length + 1) (fun kq v7 w' => ∃ k : Nat, v7 = .int .i64 (k : Int) ∧ Aside0 (k ≤ X.length) ∧ Aside0 (k + kq = X.length + 1) ∧ Aside0 (Below w0.heap.size w0 w'))
  case atStart => exact ⟨0, rfl, ⟨Nat.zero_le _⟩, ⟨by omega⟩, ⟨Below.refl _ _⟩⟩
  case round =>
    obtain ⟨k, rfl, HK, HKQ, HL⟩ := hrel
    have hbw : Below w.heap.size w wr := below_mid hb0_.out HL.out
    have HXW := Aside0.mk (blk_below HX0.out HL.out)
    have y4 := keepc hbw HY.out
    cases gk with
    | zero => exact absurd HK.out (by have := HKQ.out; omega)
    | succ k1 =>
      have i3 := (blk_cell HXW.out 3).trans rfl
      by_cases hk : k < X.length
      · obtain ⟨ai, hF4, i0, i1, i2⟩ := at_T49 (Kd.C_below HZ.out hbw) (k : Int) (by omega) (by omega)
        subst hF4
        simp only [Int.toNat_natCast] at i0 i1 i2
        rw [ti hk] at i0 i1 i2
        obtain ⟨⟨op, A, B⟩, hi⟩ : ∃ i, X[k] = i := ⟨_, rfl⟩
        rw [hi] at i0 i1 i2
        dsimp only at i0 i1 i2
        have HOP := Aside0.mk (by have := HO.out X[k] (List.getElem_mem hk); rw [hi] at this; exact this : op ≠ 31 ∧ op ≠ 32)
        clear hi
        go_wp2_with fail
        refine see (F := fun w0_ => Below wr.heap.size wr w0_ ∧ w0_.cell? ⟨w.heap.size, 0, none⟩ = some (.slice A0 m.c.length c0) ∧ w0_.cell? ⟨w.heap.size, 1, none⟩ = some (.slice A1 m.s.length c1) ∧ w0_.cell? ⟨w.heap.size, 2, none⟩ = some (.slice A2 m.n.length c2) ∧ w0_.cell? ⟨w.heap.size, 3, none⟩ = some (.slice (some ae) m.m.length c3) ∧ w0_.cell? ⟨w.heap.size, 4, none⟩ = some (.slice A4 m.e.length c4) ∧ w0_.cell? ⟨w.heap.size, 5, none⟩ = some (.int .i64 m.sk) ∧ w0_.cell? ⟨w.heap.size, 6, none⟩ = some (.int .i64 m.hp) ∧ w0_.cell? ⟨(ae.add (f.toNat * 8)).block, (ae.add (f.toNat * 8)).off + 4, none⟩ = some (.slice (some ai) X.length g4') ∧ w0_.cell? (ai.add (k * 3)) = some (.int .i64 op) ∧ w0_.cell? ⟨(ai.add (k * 3)).block, (ai.add (k * 3)).off + 1, none⟩ = some (.int .i64 A) ∧ w0_.cell? ⟨(ai.add (k * 3)).block, (ai.add (k * 3)).off + 2, none⟩ = some (.int .i64 B)) _ ⟨bel, (blk_cell HXW.out 0).trans rfl, (blk_cell HXW.out 1).trans rfl, (blk_cell HXW.out 2).trans rfl, (blk_cell HXW.out 3).trans rfl, (blk_cell HXW.out 4).trans rfl, (blk_cell HXW.out 5).trans rfl, (blk_cell HXW.out 6).trans rfl, y4, i0, i1, i2⟩ ?_
        rintro w4 ⟨hb4_, hq1_, hq2_, hq3_, hq4_, hq5_, hq6_, hq7_, hq8_, hq9_, hq10_, hq11_⟩
        replace hb4_ := Aside0.mk hb4_
        replace hq1_ := Aside0.mk hq1_
        replace hq2_ := Aside0.mk hq2_
        replace hq3_ := Aside0.mk hq3_
        replace hq4_ := Aside0.mk hq4_
        replace hq5_ := Aside0.mk hq5_
        replace hq6_ := Aside0.mk hq6_
        replace hq7_ := Aside0.mk hq7_
        replace hq8_ := Aside0.mk hq8_
        replace hq9_ := Aside0.mk hq9_
        replace hq10_ := Aside0.mk hq10_
        replace hq11_ := Aside0.mk hq11_
        have KP := Aside0.mk (show ∀ w', Below w4.heap.size w4 w' → (w'.cell? ⟨w.heap.size, 0, none⟩ = some (.slice A0 m.c.length c0) ∧ w'.cell? ⟨w.heap.size, 1, none⟩ = some (.slice A1 m.s.length c1) ∧ w'.cell? ⟨w.heap.size, 2, none⟩ = some (.slice A2 m.n.length c2) ∧ w'.cell? ⟨w.heap.size, 3, none⟩ = some (.slice (some ae) m.m.length c3) ∧ w'.cell? ⟨w.heap.size, 4, none⟩ = some (.slice A4 m.e.length c4) ∧ w'.cell? ⟨w.heap.size, 5, none⟩ = some (.int .i64 m.sk) ∧ w'.cell? ⟨w.heap.size, 6, none⟩ = some (.int .i64 m.hp) ∧ w'.cell? ⟨(ae.add (f.toNat * 8)).block, (ae.add (f.toNat * 8)).off + 4, none⟩ = some (.slice (some ai) X.length g4') ∧ w'.cell? (ai.add (k * 3)) = some (.int .i64 op) ∧ w'.cell? ⟨(ai.add (k * 3)).block, (ai.add (k * 3)).off + 1, none⟩ = some (.int .i64 A) ∧ w'.cell? ⟨(ai.add (k * 3)).block, (ai.add (k * 3)).off + 2, none⟩ = some (.int .i64 B)) from fun w' h => ⟨keepc h hq1_.out, keepc h hq2_.out, keepc h hq3_.out, keepc h hq4_.out, keepc h hq5_.out, keepc h hq6_.out, keepc h hq7_.out, keepc h hq8_.out, keepc h hq9_.out, keepc h hq10_.out, keepc h hq11_.out⟩)
        go_region_held3 (fun w' => w'.cell? ⟨w.heap.size, 0, none⟩ = some (.slice A0 m.c.length c0) ∧ w'.cell? ⟨w.heap.size, 1, none⟩ = some (.slice A1 m.s.length c1) ∧ w'.cell? ⟨w.heap.size, 2, none⟩ = some (.slice A2 m.n.length c2) ∧ w'.cell? ⟨w.heap.size, 3, none⟩ = some (.slice (some ae) m.m.length c3) ∧ w'.cell? ⟨w.heap.size, 4, none⟩ = some (.slice A4 m.e.length c4) ∧ w'.cell? ⟨w.heap.size, 5, none⟩ = some (.int .i64 m.sk) ∧ w'.cell? ⟨w.heap.size, 6, none⟩ = some (.int .i64 m.hp) ∧ w'.cell? ⟨(ae.add (f.toNat * 8)).block, (ae.add (f.toNat * 8)).off + 4, none⟩ = some (.slice (some ai) X.length g4') ∧ w'.cell? (ai.add (k * 3)) = some (.int .i64 op) ∧ w'.cell? ⟨(ai.add (k * 3)).block, (ai.add (k * 3)).off + 1, none⟩ = some (.int .i64 A) ∧ w'.cell? ⟨(ai.add (k * 3)).block, (ai.add (k * 3)).off + 2, none⟩ = some (.int .i64 B)) (((try dsimp only); first | exact KP.out _ (by assumption) | exact KP.out _ (Below.drew (Below.refl _ _)) | exact KP.out _ (below_alloc (by assumption) _) | exact KP.out _ (below_alloc (Below.refl _ _) _) | exact KP.out _ (below_alloc (below_alloc (Below.refl _ _) _) _) | exact KP.out _ (below_drew (below_alloc (Below.refl _ _) _)) | exact KP.out _ (below_drew (below_alloc (below_alloc (Below.refl _ _) _) _)) | exact KP.out _ (below_drew (below_alloc (by assumption) _)))) (first | ((try go_simp); go_at_call 45; (refine (targets_c (m := m) (a := ⟨A0, A1, A2, some ae, A4, c0, c1, c2, c3, c4⟩) op A B HOP.out.1 HOP.out.2).mono ?_); rintro e w5 ⟨R5, r5, rfl, hb5⟩; have HB5 : Below w4.heap.size w4 w5 := below_step (by first | exact Below.refl _ _ | exact Below.drew (Below.refl _ _) | assumption) hb5; clear hb5) | ((try go_simp); go_at_call 44; (refine (plimsollref01_In.calls 5 R5 r5 [] g false _ (C_zero _ _ _) (Nat.zero_le _) ((in_val [] g 5 (by decide) (by decide)).trans (by simp))).mono ?_); rintro e w6 ⟨rfl, hb6⟩; have hb7 := hb6.below; have HB6 : Below w4.heap.size w4 w6 := below_step (by first | exact Below.refl _ _ | exact Below.drew (Below.refl _ _) | assumption) hb7; clear hb6 hb7))
        go_wp2_with fail
        go_roundg k1
        case measure => have := HKQ.out; omega
        case rel => exact ⟨k + 1, by go_num, ⟨by omega⟩, ⟨by have := HKQ.out; omega⟩, ⟨below_step (below_step HL.out hb4_.out) HB6⟩⟩
      · have hke : k = X.length := by have := HK.out; omega
        subst hke
        go_wp2_with fail
        go_ret
        exact ⟨rfl, hbw⟩
end Go.Proofs.Ytcfbhobpfnlkpaa.Flow
