/- The walk: rows of types. -/
import Derived.Test.YtcfbhobpfnlkpaaJudgeFE
namespace Go.Proofs.Ytcfbhobpfnlkpaa.Flow
open Go.RowKit Go.Proofs.Ytcfbhobpfnlkpaa.QJudgeFound Go.Proofs.YtcfbhobpfnlkpaaW.PrintWords Go.Proofs.YtcfbhobpfnlkpaaW.PrintLast Go.Proofs.Ytcfbhobpfnlkpaa.Chain
set_option linter.unusedVariables false
set_option linter.unusedSimpArgs false
set_option maxHeartbeats 16000000 in
set_option maxRecDepth 100000 in
theorem sane_calls (a : IA) (m : Im) (w : World) (hm : IC w a m) : Calls Try.prog 14 #[.agg #[.slice a.A0 m.c.length a.c0, .slice a.A1 m.s.length a.c1, .slice a.A2 m.n.length a.c2, .slice a.A3 m.m.length a.c3, .slice a.A4 m.e.length a.c4, .int .i64 m.sk, .int .i64 m.hp]] w fun e w' => e = .returned (.int .i64 (saneE m)) ∧ Below w.heap.size w w' := by
  obtain ⟨A0, A1, A2, A3, A4, c0, c1, c2, c3, c4⟩ := a
  have HM := Aside0.mk hm
  clear hm
  cases h1 : fitsB m
  case false =>
    have HE := Aside0.mk (show saneE m = 2 from by unfold saneE; rw [h1]; rfl)
    go_enter Try.func14, Try.ntmps14
    go_wp2_with (first | (go_at_call 23; (refine (fits_c (HM.out.below bel) (by assumption)).mono ?_); rintro e w1 ⟨rfl, hb1⟩; obtain ⟨hc1, hf1⟩ := bcell hb1; have hz1 : w.heap.size < w1.heap.size := (by have := hb1.size; (try simp at this); omega); have HB1 : Below w.heap.size w w1 := below_mid bel hb1; have HC1 := Aside0.mk hb1; clear hb1) | (go_at_call 24; (refine (good_c (HM.out.below bel) (Kd.C_below HM.out.h1 bel) HM.out.n1 (by assumption)).mono ?_); rintro e w2 ⟨rfl, hb2⟩; obtain ⟨hc2, hf2⟩ := bcell hb2; have hz2 : w.heap.size < w2.heap.size := (by have := hb2.size; (try simp at this); omega); have HB2 : Below w.heap.size w w2 := below_mid bel hb2; have HC2 := Aside0.mk hb2; clear hb2))
    go_ret
    exact ⟨ret_i HE.out.symm, bel⟩
  have HFP := Aside0.mk (fitsP h1)
  have HE := Aside0.mk (show ∀ b, okB m = b → saneE m = (if b = true then 0 else 3) from fun b hb => by unfold saneE; rw [h1, hb]; rfl)
  obtain ⟨gb, h2⟩ : ∃ gb, m.s.all (goodT m.c.length) = gb := ⟨_, rfl⟩
  go_enter Try.func14, Try.ntmps14
  go_wp2_with (first | (go_at_call 23; (refine (fits_c (HM.out.below bel) (by assumption)).mono ?_); rintro e w1 ⟨rfl, hb1⟩; obtain ⟨hc1, hf1⟩ := bcell hb1; have hz1 : w.heap.size < w1.heap.size := (by have := hb1.size; (try simp at this); omega); have HB1 : Below w.heap.size w w1 := below_mid bel hb1; have HC1 := Aside0.mk hb1; clear hb1) | (go_at_call 24; (refine (good_c (HM.out.below bel) (Kd.C_below HM.out.h1 bel) HM.out.n1 (by assumption)).mono ?_); rintro e w2 ⟨rfl, hb2⟩; obtain ⟨hc2, hf2⟩ := bcell hb2; have hz2 : w.heap.size < w2.heap.size := (by have := hb2.size; (try simp at this); omega); have HB2 : Below w.heap.size w w2 := below_mid bel hb2; have HC2 := Aside0.mk hb2; clear hb2))
  refine see (F := fun w0_ => Below w.heap.size w w0_ ∧ w0_.heap[w.heap.size]? = some (.cells #[.slice A0 m.c.length c0, .slice A1 m.s.length c1, .slice A2 m.n.length c2, .slice A3 m.m.length c3, .slice A4 m.e.length c4, .int .i64 m.sk, .int .i64 m.hp] 28 (0, 0))) _ ⟨bel, blk_below (blk_below (blk1 w _) HC1.out) HC2.out⟩ ?_
  rintro w0 ⟨hb0, hbx⟩
  have HB0 := Aside0.mk hb0
  have HBX := Aside0.mk hbx
  have HG := Aside0.mk h2
  clear hb0 hbx h1 h2 hc1 hf1 hz1 HB1 HC1 hc2 hf2 hz2 HB2 HC2
  go_loopg [3, 4] (m.c.length + 1) (fun kq v3 v4 w' => ∃ (k : Nat) (b : Bool), v3 = .bool b ∧ v4 = .int .i64 (k : Int) ∧ Aside0 (k ≤ m.c.length) ∧ Aside0 (k + kq = m.c.length + 1) ∧ Aside0 (b = true → gb = true ∧ ∀ j, j < k → classB m (j : Int) = true) ∧ Aside0 (b = false → okB m = false) ∧ Aside0 (Below w0.heap.size w0 w'))
  case atStart =>
    refine ⟨0, gb, rfl, rfl, ⟨Nat.zero_le _⟩, ⟨by omega⟩, ⟨fun h => ⟨h, fun j hj => by omega⟩⟩, ⟨fun h => ?_⟩, ⟨Below.refl _ _⟩⟩
    unfold okB; rw [HG.out, h]; rfl
  case round =>
    obtain ⟨k, b, rfl, rfl, HK, HKQ, HT, HF, HL⟩ := hrel
    have HXW := Aside0.mk (blk_below HBX.out HL.out)
    have hlw : Below w0.heap.size w0 wr := HL.out
    have hbw : Below w.heap.size w wr := below_mid HB0.out HL.out
    cases gk with
    | zero => exact absurd HK.out (by have := HKQ.out; omega)
    | succ k1 =>
      by_cases hk : k < m.c.length ∧ b = true
      · obtain ⟨hk, hbt⟩ := hk
        subst hbt
        have ht := HT.out rfl
        have HPV := Aside0.mk ht.2
        have HGT := Aside0.mk ht.1
        obtain ⟨p, hp⟩ : ∃ p, classB m (k : Int) = p := ⟨_, rfl⟩
        have hk2 : (k : Int) ≤ 8 := by have := HFP.out.c8; omega
        have i0 := (blk_cell HXW.out 0).trans rfl
        have i1 := (blk_cell HXW.out 1).trans rfl
        have i2 := (blk_cell HXW.out 2).trans rfl
        have i3 := (blk_cell HXW.out 3).trans rfl
        have i4 := (blk_cell HXW.out 4).trans rfl
        have i5 := (blk_cell HXW.out 5).trans rfl
        have i6 := (blk_cell HXW.out 6).trans rfl
        have HPP := Aside0.mk hp
        clear ht hp HT HF
        go_wp2_with (first | (go_at_call 25; (refine (class_c (HM.out.below bel) HFP.out k hk HPV.out HPP.out).mono ?_); rintro e w3 ⟨rfl, hb3⟩; have HD3 : Below w0.heap.size w0 w3 := below_mid bel hb3; clear hb3))
        go_roundg k1
        case measure => have := HKQ.out; omega
        case rel =>
          refine ⟨k + 1, p, rfl, by go_num, ⟨by omega⟩, ⟨by have := HKQ.out; omega⟩, ⟨fun h => ⟨HGT.out, fun j hj => ?_⟩⟩, ⟨fun h => ?_⟩, ⟨bel⟩⟩
          · rcases Nat.lt_or_ge j k with h9 | h9
            · exact HPV.out j h9
            · obtain rfl : j = k := by omega
              rw [HPP.out, h]
          · have hcf : (List.range m.c.length).all (fun i => classB m i) = false := List.all_eq_false.2 ⟨k, List.mem_range.2 hk, by rw [HPP.out, h]; simp⟩
            unfold okB; rw [hcf]; simp
      · have i0 := (blk_cell HXW.out 0).trans rfl
        have i3 := (blk_cell HXW.out 3).trans rfl
        have i4 := (blk_cell HXW.out 4).trans rfl
        cases b
        case false =>
          have HZ := Aside0.mk (HE.out false (HF.out rfl))
          clear HT HF
          by_cases hk9 : k < m.c.length
          all_goals
            clear hk
            go_wp2_with fail
            all_goals
              refine wp_loop_rounds 1 ?_
              rw [rounds_succ]
              go_wp2_with fail
            all_goals
              refine wp_loop_rounds 1 ?_
              rw [rounds_succ]
              go_wp2_with fail
            all_goals
              go_ret
              exact ⟨ret_i HZ.out.symm, hbw⟩
        have hke : k = m.c.length := by have := HK.out; have h9 : ¬ k < m.c.length := fun h => hk ⟨h, rfl⟩; omega
        subst hke
        have HT1 := Aside0.mk (show gb = true ∧ (List.range m.c.length).all (fun i => classB m i) = true from ⟨(HT.out rfl).1, by
          rw [List.all_eq_true]
          intro i hi
          rw [List.mem_range] at hi
          exact (HT.out rfl).2 i hi⟩)
        clear hk HT HF
        go_wp2_with fail
        have HR0 := Aside0.mk hbw
        have HRX := HXW
        clear i0 i3 i4 hlw hbw HXW
        obtain ⟨wo, rfl⟩ : ∃ wo : World, wo = wr := ⟨_, rfl⟩
        go_loopg [3, 5] (m.m.length + 1) (fun kq v3 v5 w' => ∃ (k : Nat) (b : Bool), v3 = .bool b ∧ v5 = .int .i64 (k : Int) ∧ Aside0 (k ≤ m.m.length) ∧ Aside0 (k + kq = m.m.length + 1) ∧ Aside0 (b = true → ∀ j (h : j < m.m.length), j < k → methodB m m.m[j] = true) ∧ Aside0 (b = false → okB m = false) ∧ Aside0 (Below wo.heap.size wo w'))
        case atStart => exact ⟨0, true, rfl, rfl, ⟨Nat.zero_le _⟩, ⟨by omega⟩, ⟨fun _ j h hj => by omega⟩, ⟨fun h => by cases h⟩, ⟨Below.refl _ _⟩⟩
        case round =>
          obtain ⟨k, b, rfl, rfl, HKK, HKKQ, HT, HF, HL2⟩ := hrel
          have HXW := Aside0.mk (blk_below HRX.out HL2.out)
          have hlw : Below wo.heap.size wo wr := HL2.out
          have hbw : Below w.heap.size w wr := below_mid HR0.out HL2.out
          cases gk with
          | zero => exact absurd HKK.out (by have := HKKQ.out; omega)
          | succ k2 =>
            have i3 := (blk_cell HXW.out 3).trans rfl
            have i4 := (blk_cell HXW.out 4).trans rfl
            by_cases hk : k < m.m.length ∧ b = true
            · obtain ⟨hk, hbt⟩ := hk
              subst hbt
              have HPV := Aside0.mk (HT.out rfl)
              clear HT HF i4
              obtain ⟨ae, F0, g0, F1, g1, F4, g4, F7, g7, hA3, y0, y1, y2, y3, y4, y5, y6, y7, z0, z1, z2, z3, z4, z5, z6, z7⟩ := at_T52 (show Kd.C k52 w A3 m.m.length m.m from HM.out.h3) (k : Int) (by omega) (by omega)
              subst hA3
              simp only [Int.toNat_natCast] at y0 y1 y2 y3 y4 y5 y6 y7 z0 z1 z2 z3 z4 z5 z6 z7
              rw [tm hk] at y0 y1 y2 y3 y4 y5 y6 y7 z0 z1 z2 z3 z4 z5 z6 z7
              obtain ⟨x, hx⟩ : ∃ x, m.m[k] = x := ⟨_, rfl⟩
              rw [hx] at y0 y1 y2 y3 y4 y5 y6 y7 z0 z1 z2 z3 z4 z5 z6 z7
              have HX := Aside0.mk hx
              obtain ⟨f0, f1, ⟨t0, t1⟩, f3, f4, f5, f6⟩ := x
              dsimp only at y0 y1 y2 y3 y4 y5 y6 y7 z0 z1 z2 z3 z4 z5 z6 z7
              have Y0 := Aside0.mk (keepc hbw y0)
              have Y1 := Aside0.mk (keepc hbw y1)
              have Y2 := Aside0.mk (keepc hbw y2)
              have Y3 := Aside0.mk (keepc hbw y3)
              have Y4 := Aside0.mk (keepc hbw y4)
              have Y5 := Aside0.mk (keepc hbw y5)
              have Y6 := Aside0.mk (keepc hbw y6)
              have Y7 := Aside0.mk (keepc hbw y7)
              have HMC := Aside0.mk (show MC w ⟨F0, F1, F4, F7, g0, g1, g4, g7⟩ ⟨f0, f1, ⟨t0, t1⟩, f3, f4, f5, f6⟩ from ⟨z1, z3, z5, z7, z0, z2, z4, z6⟩)
              obtain ⟨p, hp⟩ : ∃ p, methodB m ⟨f0, f1, ⟨t0, t1⟩, f3, f4, f5, f6⟩ = p := ⟨_, rfl⟩
              have HPP := Aside0.mk hp
              have HMEM := Aside0.mk (show (⟨f0, f1, ⟨t0, t1⟩, f3, f4, f5, f6⟩ : S52) ∈ m.m from by rw [← hx]; exact List.getElem_mem hk)
              have HBW := Aside0.mk hbw
              have HLW := Aside0.mk hlw
              have hk0 : (0 : Int) ≤ (k : Int) := by omega
              have hk1 : (k : Int) < (m.m.length : Int) := by omega
              have hk2 : (k : Int) ≤ 12 := by have := HFP.out.m12; omega
              clear hx hp y0 y1 y2 y3 y4 y5 y6 y7 z0 z1 z2 z3 z4 z5 z6 z7 hbw hlw
              go_wp2_with fail
              clear i3
              have hq1_ := Aside0.mk (show wr.cell? ⟨w.heap.size, 0, none⟩ = some (.slice A0 m.c.length c0) from (blk_cell HXW.out 0).trans rfl)
              have hq2_ := Aside0.mk (show wr.cell? ⟨w.heap.size, 1, none⟩ = some (.slice A1 m.s.length c1) from (blk_cell HXW.out 1).trans rfl)
              have hq3_ := Aside0.mk (show wr.cell? ⟨w.heap.size, 2, none⟩ = some (.slice A2 m.n.length c2) from (blk_cell HXW.out 2).trans rfl)
              have hq4_ := Aside0.mk (show wr.cell? ⟨w.heap.size, 3, none⟩ = some (.slice (some ae) m.m.length c3) from (blk_cell HXW.out 3).trans rfl)
              have hq5_ := Aside0.mk (show wr.cell? ⟨w.heap.size, 4, none⟩ = some (.slice A4 m.e.length c4) from (blk_cell HXW.out 4).trans rfl)
              have hq6_ := Aside0.mk (show wr.cell? ⟨w.heap.size, 5, none⟩ = some (.int .i64 m.sk) from (blk_cell HXW.out 5).trans rfl)
              have hq7_ := Aside0.mk (show wr.cell? ⟨w.heap.size, 6, none⟩ = some (.int .i64 m.hp) from (blk_cell HXW.out 6).trans rfl)
              have hq8_ := Aside0.mk (show wr.cell? (ae.add (k * 8)) = some (.slice F0 f0.length g0) from Y0.out)
              have hq9_ := Aside0.mk (show wr.cell? ⟨(ae.add (k * 8)).block, (ae.add (k * 8)).off + 1, none⟩ = some (.slice F1 f1.length g1) from Y1.out)
              have hq10_ := Aside0.mk (show wr.cell? ⟨(ae.add (k * 8)).block, (ae.add (k * 8)).off + 2, none⟩ = some (.int .i64 t0) from Y2.out)
              have hq11_ := Aside0.mk (show wr.cell? ⟨(ae.add (k * 8)).block, (ae.add (k * 8)).off + 3, none⟩ = some (.int .i64 t1) from Y3.out)
              have hq12_ := Aside0.mk (show wr.cell? ⟨(ae.add (k * 8)).block, (ae.add (k * 8)).off + 4, none⟩ = some (.slice F4 f3.length g4) from Y4.out)
              have hq13_ := Aside0.mk (show wr.cell? ⟨(ae.add (k * 8)).block, (ae.add (k * 8)).off + 5, none⟩ = some (.int .i64 f4) from Y5.out)
              have hq14_ := Aside0.mk (show wr.cell? ⟨(ae.add (k * 8)).block, (ae.add (k * 8)).off + 6, none⟩ = some (.int .i64 f5) from Y6.out)
              have hq15_ := Aside0.mk (show wr.cell? ⟨(ae.add (k * 8)).block, (ae.add (k * 8)).off + 7, none⟩ = some (.slice F7 f6.length g7) from Y7.out)
              go_region_held3 (fun w' => Below wr.heap.size wr w' ∧ w'.cell? ⟨w.heap.size, 0, none⟩ = some (.slice A0 m.c.length c0) ∧ w'.cell? ⟨w.heap.size, 1, none⟩ = some (.slice A1 m.s.length c1) ∧ w'.cell? ⟨w.heap.size, 2, none⟩ = some (.slice A2 m.n.length c2) ∧ w'.cell? ⟨w.heap.size, 3, none⟩ = some (.slice (some ae) m.m.length c3) ∧ w'.cell? ⟨w.heap.size, 4, none⟩ = some (.slice A4 m.e.length c4) ∧ w'.cell? ⟨w.heap.size, 5, none⟩ = some (.int .i64 m.sk) ∧ w'.cell? ⟨w.heap.size, 6, none⟩ = some (.int .i64 m.hp) ∧ w'.cell? (ae.add (k * 8)) = some (.slice F0 f0.length g0) ∧ w'.cell? ⟨(ae.add (k * 8)).block, (ae.add (k * 8)).off + 1, none⟩ = some (.slice F1 f1.length g1) ∧ w'.cell? ⟨(ae.add (k * 8)).block, (ae.add (k * 8)).off + 2, none⟩ = some (.int .i64 t0) ∧ w'.cell? ⟨(ae.add (k * 8)).block, (ae.add (k * 8)).off + 3, none⟩ = some (.int .i64 t1) ∧ w'.cell? ⟨(ae.add (k * 8)).block, (ae.add (k * 8)).off + 4, none⟩ = some (.slice F4 f3.length g4) ∧ w'.cell? ⟨(ae.add (k * 8)).block, (ae.add (k * 8)).off + 5, none⟩ = some (.int .i64 f4) ∧ w'.cell? ⟨(ae.add (k * 8)).block, (ae.add (k * 8)).off + 6, none⟩ = some (.int .i64 f5) ∧ w'.cell? ⟨(ae.add (k * 8)).block, (ae.add (k * 8)).off + 7, none⟩ = some (.slice F7 f6.length g7)) (first | ((try dsimp only); refine ⟨?_, ?_, ?_, ?_, ?_, ?_, ?_, ?_, ?_, ?_, ?_, ?_, ?_, ?_, ?_, ?_⟩ <;> first | exact Below.drew (Below.refl _ _) | assumption | exact keepc (Below.drew (Below.refl _ _)) hq1_.out | exact keepc (by assumption) hq1_.out | exact keepc (Below.drew (Below.refl _ _)) hq2_.out | exact keepc (by assumption) hq2_.out | exact keepc (Below.drew (Below.refl _ _)) hq3_.out | exact keepc (by assumption) hq3_.out | exact keepc (Below.drew (Below.refl _ _)) hq4_.out | exact keepc (by assumption) hq4_.out | exact keepc (Below.drew (Below.refl _ _)) hq5_.out | exact keepc (by assumption) hq5_.out | exact keepc (Below.drew (Below.refl _ _)) hq6_.out | exact keepc (by assumption) hq6_.out | exact keepc (Below.drew (Below.refl _ _)) hq7_.out | exact keepc (by assumption) hq7_.out | exact keepc (Below.drew (Below.refl _ _)) hq8_.out | exact keepc (by assumption) hq8_.out | exact keepc (Below.drew (Below.refl _ _)) hq9_.out | exact keepc (by assumption) hq9_.out | exact keepc (Below.drew (Below.refl _ _)) hq10_.out | exact keepc (by assumption) hq10_.out | exact keepc (Below.drew (Below.refl _ _)) hq11_.out | exact keepc (by assumption) hq11_.out | exact keepc (Below.drew (Below.refl _ _)) hq12_.out | exact keepc (by assumption) hq12_.out | exact keepc (Below.drew (Below.refl _ _)) hq13_.out | exact keepc (by assumption) hq13_.out | exact keepc (Below.drew (Below.refl _ _)) hq14_.out | exact keepc (by assumption) hq14_.out | exact keepc (Below.drew (Below.refl _ _)) hq15_.out | exact keepc (by assumption) hq15_.out)) ((go_simp; go_at_call 26; refine (method_c (b := ⟨F0, F1, F4, F7, g0, g1, g4, g7⟩) (x := ⟨f0, f1, ⟨t0, t1⟩, f3, f4, f5, f6⟩) ((HM.out.below HBW.out).below (by first | exact Below.drew (Below.refl _ _) | assumption | exact And.left (by assumption))) ((HMC.out.below HBW.out).below (by first | exact Below.drew (Below.refl _ _) | assumption | exact And.left (by assumption))) HFP.out HMEM.out HPP.out).mono ?_; rintro e w5 ⟨rfl, hb⟩; have HB5 : Below wr.heap.size wr w5 := below_step (by first | exact Below.drew (Below.refl _ _) | assumption | exact And.left (by assumption)) hb; clear hb))
              have HB9 := Aside0.mk (show Below wr.heap.size wr w5 by first | assumption | exact And.left (by assumption))
              go_wp2_with fail
              go_roundg k2
              case measure => have := HKKQ.out; omega
              case rel =>
                refine ⟨k + 1, p, rfl, by go_num, ⟨by omega⟩, ⟨by have := HKKQ.out; omega⟩, ⟨fun h j hj hlt => ?_⟩, ⟨fun h => ?_⟩, ⟨below_mid HLW.out HB9.out⟩⟩
                · rcases Nat.lt_or_ge j k with h9 | h9
                  · exact HPV.out j hj h9
                  · obtain rfl : j = k := by omega
                    rw [HX.out, HPP.out, h]
                · have hcf : m.m.all (methodB m) = false := List.all_eq_false.2 ⟨m.m[k], List.getElem_mem hk, by rw [HX.out, HPP.out, h]; simp⟩
                  unfold okB; rw [hcf]; simp
            · cases b
              case false =>
                have HZ := Aside0.mk (HE.out false (HF.out rfl))
                clear HT HF
                by_cases hk9 : k < m.m.length
                all_goals
                  clear hk
                  go_wp2_with fail
                  all_goals
                    refine wp_loop_rounds 1 ?_
                    rw [rounds_succ]
                    go_wp2_with fail
                  all_goals
                    go_ret
                    exact ⟨ret_i HZ.out.symm, hbw⟩
              have hke : k = m.m.length := by have := HKK.out; have h9 : ¬ k < m.m.length := fun h => hk ⟨h, rfl⟩; omega
              subst hke
              have HT2 := Aside0.mk (show m.m.all (methodB m) = true from by
                rw [List.all_eq_true]
                intro i hi
                obtain ⟨j, hj, rfl⟩ := List.mem_iff_getElem.1 hi
                exact HT.out rfl j hj hj)
              clear hk HT HF
              go_wp2_with fail
              have HR3 := Aside0.mk hbw
              have HRX3 := HXW
              clear i3 i4 hlw hbw HXW
              obtain ⟨wq, rfl⟩ : ∃ wq : World, wq = wr := ⟨_, rfl⟩
              go_loopg [3, 6] (m.e.length + 1) (fun kq v3 v6 w' => ∃ (k : Nat) (b : Bool), v3 = .bool b ∧ v6 = .int .i64 (k : Int) ∧ Aside0 (k ≤ m.e.length) ∧ Aside0 (k + kq = m.e.length + 1) ∧ Aside0 (b = true → ∀ j (h : j < m.e.length), j < k → entryB m m.e[j] = true) ∧ Aside0 (b = false → okB m = false) ∧ Aside0 (Below wq.heap.size wq w'))
              case atStart => exact ⟨0, true, rfl, rfl, ⟨Nat.zero_le _⟩, ⟨by omega⟩, ⟨fun _ j h hj => by omega⟩, ⟨fun h => by cases h⟩, ⟨Below.refl _ _⟩⟩
              case round =>
                obtain ⟨k, b, rfl, rfl, HKK, HKKQ, HT, HF, HL3⟩ := hrel
                have HXW := Aside0.mk (blk_below HRX3.out HL3.out)
                have hlw : Below wq.heap.size wq wr := HL3.out
                have hbw : Below w.heap.size w wr := below_mid HR3.out HL3.out
                cases gk with
                | zero => exact absurd HKK.out (by have := HKKQ.out; omega)
                | succ k2 =>
                  have i3 := (blk_cell HXW.out 3).trans rfl
                  have i4 := (blk_cell HXW.out 4).trans rfl
                  by_cases hk : k < m.e.length ∧ b = true
                  · obtain ⟨hk, hbt⟩ := hk
                    subst hbt
                    have HPV := Aside0.mk (HT.out rfl)
                    clear HT HF
                    obtain ⟨a4, hA4, hq⟩ := C_int (show Kd.C (Kd.int .i64) w A4 m.e.length m.e from HM.out.h4) k hk
                    subst hA4
                    obtain ⟨s, hs⟩ : ∃ s, m.e[k] = s := ⟨_, rfl⟩
                    rw [hs] at hq
                    have HS := Aside0.mk hs
                    have hs0 : 0 ≤ s := (HFP.out.en s (by rw [← hs]; exact List.getElem_mem hk)).1
                    replace hq := keepc hbw hq
                    have HOKF := Aside0.mk (show entryB m m.e[k] = false → okB m = false from fun h => by
                      have hcf : m.e.all (entryB m) = false := List.all_eq_false.2 ⟨m.e[k], List.getElem_mem hk, by rw [h]; simp⟩
                      unfold okB; rw [hcf]; simp)
                    have hk0 : (0 : Int) ≤ (k : Int) := by omega
                    have hk1 : (k : Int) < (m.e.length : Int) := by omega
                    have hk2 : (k : Int) ≤ 12 := by have := HFP.out.e12; omega
                    clear hs
                    by_cases g1 : s < (m.m.length : Int)
                    case neg =>
                      have HZ := Aside0.mk (HE.out false (HOKF.out (by rw [HS.out]; unfold entryB; rw [decide_eq_false g1]; rfl)))
                      have dg : decide ((m.m.length : Int) ≤ s) = true := decide_eq_true (by omega)
                      clear g1
                      go_wp2_with fail
                      go_ret
                      exact ⟨ret_i HZ.out.symm, hbw⟩
                    have dg : decide ((m.m.length : Int) ≤ s) = false := decide_eq_false (by omega)
                    have G1 := Aside0.mk g1
                    obtain ⟨ae, F0, g0, F1, e1, F4, g4, F7, g7, hA3, y0, y1, y2, y3, y4, y5, y6, y7, z0, z1, z2, z3, z4, z5, z6, z7⟩ := at_T52 (show Kd.C k52 w A3 m.m.length m.m from HM.out.h3) s hs0 g1
                    subst hA3
                    obtain ⟨fm, hfm⟩ : ∃ fm, rd_T52 m.m s = fm := ⟨_, rfl⟩
                    have hfl := (HFP.out.me fm (by rw [← hfm]; exact rdM_mem hs0 g1)).1
                    rw [hfm] at y0 y2 z0 z1
                    have HFM := Aside0.mk hfm
                    obtain ⟨f0, f1, ⟨t0, t1⟩, f3, f4, f5, f6⟩ := fm
                    dsimp only at y0 y2 z0 z1 hfl
                    have Y0 := Aside0.mk (keepc hbw y0)
                    replace y2 := keepc hbw y2
                    have Z1 := Aside0.mk z1
                    have Z0 := Aside0.mk z0
                    have HBW := Aside0.mk hbw
                    have HLW := Aside0.mk hlw
                    clear hfm y0 y1 y3 y4 y5 y6 y7 z0 z1 z2 z3 z4 z5 z6 z7 hbw hlw
                    by_cases hr : t0 = 1 ∨ t0 = 5
                    case neg =>
                      have HZ := Aside0.mk (HOKF.out (by rw [HS.out]; unfold entryB; rw [HFM.out]; dsimp only; rw [decide_eq_false hr]; simp))
                      have hr1 : (t0 == 1) = false := by simp only [beq_eq_false_iff_ne]; omega
                      have hr5 : (t0 == 5) = false := by simp only [beq_eq_false_iff_ne]; omega
                      have yy0 := Y0.out
                      clear hr
                      go_wp2_with fail
                      all_goals
                        refine wp_loop_rounds 1 ?_
                        rw [rounds_succ]
                        go_wp2_with fail
                      all_goals
                        go_roundg k2
                        case measure => have := HKKQ.out; omega
                        case rel => exact ⟨k + 1, false, rfl, by go_num, ⟨by omega⟩, ⟨by have := HKKQ.out; omega⟩, ⟨fun h => by cases h⟩, ⟨fun _ => HZ.out⟩, ⟨HLW.out⟩⟩
                    rcases hr with rfl | rfl
                    all_goals
                      go_wp2_with fail
                      clear i3 i4 hq y2
                      obtain ⟨wp, rfl⟩ : ∃ wp : World, wp = wr := ⟨_, rfl⟩
                      go_loopg [3, 8] (f0.length + 1) (fun kq v3 v8 w' => ∃ (i : Nat) (b : Bool), v3 = .bool b ∧ v8 = .int .i64 (i : Int) ∧ Aside0 (i ≤ f0.length) ∧ Aside0 (i + kq = f0.length + 1) ∧ Aside0 (b = true → ∀ j (h : j < f0.length), j < i → f0[j].f0 = 1) ∧ Aside0 (b = false → entryB m m.e[k] = false) ∧ Aside0 (Below wp.heap.size wp w'))
                      case atStart => exact ⟨0, true, rfl, rfl, ⟨Nat.zero_le _⟩, ⟨by omega⟩, ⟨fun _ j h hj => by omega⟩, ⟨fun h => by cases h⟩, ⟨Below.refl _ _⟩⟩
                      case round =>
                        obtain ⟨i, b, rfl, rfl, HI, HIQ, HIT, HIF, HL4⟩ := hrel
                        have hbw : Below w.heap.size w wr := below_mid HBW.out HL4.out
                        have hlw : Below wq.heap.size wq wr := below_mid HLW.out HL4.out
                        have i3 := (blk_cell (blk_below HXW.out HL4.out) 3).trans rfl
                        have yy0 := keepc HL4.out Y0.out
                        cases gk with
                        | zero => exact absurd HI.out (by have := HIQ.out; omega)
                        | succ k4 =>
                          by_cases hi : i < f0.length ∧ b = true
                          · obtain ⟨hi, hbt⟩ := hi
                            subst hbt
                            have HPI := Aside0.mk (HIT.out rfl)
                            clear HIT HIF
                            obtain ⟨af, hF0, q0, q1⟩ := at_T39 (show Kd.C k39 w F0 f0.length f0 from Z1.out) (i : Int) (by omega) (by omega)
                            subst hF0
                            simp only [Int.toNat_natCast] at q0 q1
                            rw [tt hi] at q0 q1
                            obtain ⟨y, hy⟩ : ∃ y, f0[i] = y := ⟨_, rfl⟩
                            rw [hy] at q0
                            have HY := Aside0.mk hy
                            obtain ⟨y0, y1⟩ := y
                            dsimp only at q0
                            replace q0 := keepc hbw q0
                            have hi0 : (0 : Int) ≤ (i : Int) := by omega
                            have hi1 : (i : Int) < (f0.length : Int) := by omega
                            have hi2 : (i : Int) ≤ 4 := by omega
                            clear hy q1
                            by_cases hy1 : y0 = 1
                            · subst hy1
                              go_wp2_with fail
                              go_roundg k4
                              case measure => have := HIQ.out; omega
                              case rel =>
                                refine ⟨i + 1, _, rfl, by go_num, ⟨by omega⟩, ⟨by have := HIQ.out; omega⟩, ⟨fun h j hj hlt => ?_⟩, ⟨fun h => ?_⟩, ⟨HL4.out⟩⟩
                                · rcases Nat.lt_or_ge j i with h9 | h9
                                  · exact HPI.out j hj h9
                                  · obtain rfl : j = i := by omega
                                    rw [HY.out]
                                · simp at h
                            · have hyb : (y0 == 1) = false := by simpa using hy1
                              go_wp2_with fail
                              go_roundg k4
                              case measure => have := HIQ.out; omega
                              case rel =>
                                refine ⟨i + 1, _, rfl, by go_num, ⟨by omega⟩, ⟨by have := HIQ.out; omega⟩, ⟨fun h j hj hlt => ?_⟩, ⟨fun h => ?_⟩, ⟨HL4.out⟩⟩
                                · simp at h
                                · have hcf : f0.all (fun t => decide (t.f0 = 1)) = false := List.all_eq_false.2 ⟨f0[i], List.getElem_mem hi, by rw [HY.out]; simpa using hy1⟩
                                  unfold entryB; rw [HS.out, HFM.out]; dsimp only; rw [hcf]; simp
                          · cases b
                            case false =>
                              have HZ := Aside0.mk (HOKF.out (HIF.out rfl))
                              clear HIT HIF
                              by_cases hk9 : i < f0.length
                              all_goals
                                clear hi
                                go_wp2_with fail
                                go_roundg k2
                                case measure => have := HKKQ.out; omega
                                case rel => exact ⟨k + 1, false, rfl, by go_num, ⟨by omega⟩, ⟨by have := HKKQ.out; omega⟩, ⟨fun h => by cases h⟩, ⟨fun _ => HZ.out⟩, ⟨hlw⟩⟩
                            have hie : i = f0.length := by have := HI.out; have h9 : ¬ i < f0.length := fun h => hi ⟨h, rfl⟩; omega
                            subst hie
                            have HEN := Aside0.mk (show entryB m m.e[k] = true from by
                              have h1 : f0.all (fun t => decide (t.f0 = 1)) = true := by
                                rw [List.all_eq_true]
                                intro y hy
                                obtain ⟨j, hj, rfl⟩ := List.mem_iff_getElem.1 hy
                                exact decide_eq_true (HIT.out rfl j hj hj)
                              unfold entryB; rw [HS.out, HFM.out]; dsimp only; rw [h1, decide_eq_true G1.out]; simp)
                            clear hi HIT HIF
                            go_wp2_with fail
                            go_roundg k2
                            case measure => have := HKKQ.out; omega
                            case rel =>
                              refine ⟨k + 1, true, rfl, by go_num, ⟨by omega⟩, ⟨by have := HKKQ.out; omega⟩, ⟨fun _ j hj hlt => ?_⟩, ⟨fun h => by cases h⟩, ⟨hlw⟩⟩
                              rcases Nat.lt_or_ge j k with h9 | h9
                              · exact HPV.out j hj h9
                              · obtain rfl : j = k := by omega
                                exact HEN.out
                  · cases b
                    case false =>
                      have HZ := Aside0.mk (HE.out false (HF.out rfl))
                      clear HT HF
                      by_cases hk9 : k < m.e.length
                      all_goals
                        clear hk
                        go_wp2_with fail
                        go_ret
                        exact ⟨ret_i HZ.out.symm, hbw⟩
                    have hke : k = m.e.length := by have := HKK.out; have h9 : ¬ k < m.e.length := fun h => hk ⟨h, rfl⟩; omega
                    subst hke
                    have HZ := Aside0.mk (HE.out true (by
                      have h3 : m.e.all (entryB m) = true := by
                        rw [List.all_eq_true]
                        intro i hi
                        obtain ⟨j, hj, rfl⟩ := List.mem_iff_getElem.1 hi
                        exact HT.out rfl j hj hj
                      unfold okB; rw [HG.out, HT1.out.1, HT1.out.2, HT2.out, h3]; rfl))
                    clear hk HT HF
                    go_wp2_with fail
                    go_ret
                    exact ⟨ret_i HZ.out.symm, hbw⟩
end Go.Proofs.Ytcfbhobpfnlkpaa.Flow
