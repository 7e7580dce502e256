/- The law JudgeFound, walked whole. -/
import Derived.Test.YtcfbhobpfnlkpaaJudgeJY
namespace Go.Proofs.Ytcfbhobpfnlkpaa.Flow
open Go.RowKit Go.Proofs.Ytcfbhobpfnlkpaa.QJudgeFound Go.Proofs.YtcfbhobpfnlkpaaW.PrintWords Go.Proofs.YtcfbhobpfnlkpaaW.PrintLast Go.Proofs.Ytcfbhobpfnlkpaa.Chain
set_option linter.unusedVariables false
set_option linter.unusedSimpArgs false
set_option maxHeartbeats 16000000 in
set_option maxRecDepth 100000 in
theorem found_law (a : IA) (m : Im) (Y : Option Addr) (cy : Nat) (y : List (List S44)) (w : World) (hm : IC w a m) (hy : Kd.C (Kd.slice 44 k44) w Y y.length y) (hyc : y.length ≤ cy) (hy1 : ∀ u ∈ y, u.length ≤ 140737488355328) (hy2 : ∀ u ∈ y, ∀ s ∈ u, s.f1.length ≤ 140737488355328) :
    Calls Try.prog 3 #[.agg #[.slice a.A0 m.c.length a.c0, .slice a.A1 m.s.length a.c1, .slice a.A2 m.n.length a.c2, .slice a.A3 m.m.length a.c3, .slice a.A4 m.e.length a.c4, .int .i64 m.sk, .int .i64 m.hp], .slice Y y.length cy] w fun e w' => e = .returned (.bool true) ∧ Below w.heap.size w w' := by
  obtain ⟨A0, A1, A2, A3, A4, c0, c1, c2, c3, c4⟩ := a
  have HM := Aside0.mk hm
  have HY := Aside0.mk hy
  have HY1 := Aside0.mk hy1
  have HY2 := Aside0.mk hy2
  clear hm hy hy1 hy2
  obtain ⟨q, hq⟩ : ∃ q, saneB m = q := ⟨_, rfl⟩
  have HQ := Aside0.mk hq
  clear hq
  cases q with
  | false =>
    go_enter Try.func3, Try.ntmps3
    go_wp2_with (first | (go_at_call 6; (with_reducible refine (law_sane_c (HM.out.below bel) HQ.out).mono ?_); rintro e w1 ⟨rfl, hb1⟩; obtain ⟨hc1, hf1⟩ := bcell hb1; have hz1 : w.heap.size < w1.heap.size := lts hb1.size; have HB1 : Below w.heap.size w w1 := below_mid bel hb1; clear hb1) | (go_at_call 8; (with_reducible refine (awake_c _).mono ?_); rintro e w9 ⟨rfl, hb9⟩; obtain ⟨hc9, hf9⟩ := bcell hb9; have hz9 : w.heap.size < w9.heap.size := lts hb9.size; have HB9 : Below w.heap.size w w9 := below_mid bel hb9; clear hb9))
    go_ret
    exact ⟨rfl, HB9⟩
  | true =>
  obtain ⟨fy, hfy⟩ : ∃ b, fewV y = b := ⟨_, rfl⟩
  have HFY := Aside0.mk hfy
  clear hfy
  cases fy with
  | false =>
    go_enter Try.func3, Try.ntmps3
    go_wp2_with (first | (go_at_call 6; (with_reducible refine (law_sane_c (HM.out.below bel) HQ.out).mono ?_); rintro e w1 ⟨rfl, hb1⟩; obtain ⟨hc1, hf1⟩ := bcell hb1; have hz1 : w.heap.size < w1.heap.size := lts hb1.size; have HB1 : Below w.heap.size w w1 := below_mid bel hb1; clear hb1) | (go_at_call 7; (with_reducible refine (few_c Y cy y _ (Kd.C_below HY.out bel) hyc HY1.out HY2.out HFY.out).mono ?_); rintro e w2 ⟨rfl, hly_, hb2⟩; clear hly_; obtain ⟨hc2, hf2⟩ := bcell hb2; have hz2 : w.heap.size < w2.heap.size := lts hb2.size; have HB2 : Below w.heap.size w w2 := below_mid bel hb2; clear hb2) | (go_at_call 8; (with_reducible refine (awake_c _).mono ?_); rintro e w9 ⟨rfl, hb9⟩; obtain ⟨hc9, hf9⟩ := bcell hb9; have hz9 : w.heap.size < w9.heap.size := lts hb9.size; have HB9 : Below w.heap.size w w9 := below_mid bel hb9; clear hb9))
    go_ret
    exact ⟨rfl, HB9⟩
  | true =>
  obtain ⟨r, hr⟩ : ∃ r, checkV m m.m.length 0 = r := ⟨_, rfl⟩
  obtain ⟨p1, hp1⟩ : ∃ b, rightB m (mps y) = b := ⟨_, rfl⟩
  have HCV := Aside0.mk hr
  have HR1 := Aside0.mk hp1
  have HLS := Aside0.mk (fun h : p1 = true => check_least HQ.out (rightB_iff.1 (hp1.trans h)))
  clear hr hp1
  cases r with
  | none =>
    cases p1 with
    | true => exact absurd (HLS.out rfl) (by rintro ⟨l, h, _⟩; rw [HCV.out] at h; cases h)
    | false =>
      go_enter Try.func3, Try.ntmps3
      go_wp2_with (first | (go_at_call 6; (with_reducible refine (law_sane_c (HM.out.below bel) HQ.out).mono ?_); rintro e w1 ⟨rfl, hb1⟩; obtain ⟨hc1, hf1⟩ := bcell hb1; have hz1 : w.heap.size < w1.heap.size := lts hb1.size; have HB1 : Below w.heap.size w w1 := below_mid bel hb1; clear hb1) | (go_at_call 7; (with_reducible refine (few_c Y cy y _ (Kd.C_below HY.out bel) hyc HY1.out HY2.out HFY.out).mono ?_); rintro e w2 ⟨rfl, hly_, hb2⟩; have HLY := Aside0.mk (long_of (hly_ rfl)); clear hly_; obtain ⟨hc2, hf2⟩ := bcell hb2; have hz2 : w.heap.size < w2.heap.size := lts hb2.size; have HB2 : Below w.heap.size w w2 := below_mid bel hb2; clear hb2) | (go_at_call 9; (with_reducible refine (tcheck_c ⟨A0, A1, A2, A3, A4, c0, c1, c2, c3, c4⟩ m _ (HM.out.below bel) HQ.out HCV.out).mono ?_); rintro e w10 ⟨hb10, hno, hyes⟩; obtain ⟨f_, pc_, rfl⟩ := hno rfl; clear hno hyes; obtain ⟨hc10, hf10⟩ := bcell hb10; have hz10 : w.heap.size < w10.heap.size := lts hb10.size; have HB10 : Below w.heap.size w w10 := below_mid bel hb10; clear hb10) | (go_at_call 8; (with_reducible refine (awake_c _).mono ?_); rintro e w9 ⟨rfl, hb9⟩; obtain ⟨hc9, hf9⟩ := bcell hb9; have hz9 : w.heap.size < w9.heap.size := lts hb9.size; have HB9 : Below w.heap.size w w9 := below_mid bel hb9; clear hb9) | (go_at_call 10; (with_reducible refine (right_c ⟨A0, A1, A2, A3, A4, c0, c1, c2, c3, c4⟩ m Y cy y _ (HM.out.below bel) HQ.out (Kd.C_below HY.out bel) hyc HLY.out HR1.out).mono ?_); rintro e w11 ⟨rfl, hb11⟩; obtain ⟨hc11, hf11⟩ := bcell hb11; have hz11 : w.heap.size < w11.heap.size := lts hb11.size; have HB11 : Below w.heap.size w w11 := below_mid bel hb11; clear hb11))
      go_ret
      exact ⟨rfl, HB11⟩
  | some l =>
    have HLL := Aside0.mk (check_long HQ.out HCV.out)
    have HRL := Aside0.mk (rightB_iff.2 (check_right HQ.out HCV.out).1)
    have HOL := Aside0.mk (overB_iff.2 (check_right HQ.out HCV.out).2)
    cases p1 with
    | false =>
      go_enter Try.func3, Try.ntmps3
      go_wp2_with (first | (go_at_call 6; (with_reducible refine (law_sane_c (HM.out.below bel) HQ.out).mono ?_); rintro e w1 ⟨rfl, hb1⟩; obtain ⟨hc1, hf1⟩ := bcell hb1; have hz1 : w.heap.size < w1.heap.size := lts hb1.size; have HB1 : Below w.heap.size w w1 := below_mid bel hb1; clear hb1) | (go_at_call 7; (with_reducible refine (few_c Y cy y _ (Kd.C_below HY.out bel) hyc HY1.out HY2.out HFY.out).mono ?_); rintro e w2 ⟨rfl, hly_, hb2⟩; have HLY := Aside0.mk (long_of (hly_ rfl)); clear hly_; obtain ⟨hc2, hf2⟩ := bcell hb2; have hz2 : w.heap.size < w2.heap.size := lts hb2.size; have HB2 : Below w.heap.size w w2 := below_mid bel hb2; clear hb2) | (go_at_call 9; (with_reducible refine (tcheck_c ⟨A0, A1, A2, A3, A4, c0, c1, c2, c3, c4⟩ m _ (HM.out.below bel) HQ.out HCV.out).mono ?_); rintro e w3 ⟨hb3, hno, hyes⟩; obtain ⟨AL, rfl, hcl⟩ := hyes _ rfl; have HCL := Aside0.mk hcl; clear hno hyes hcl; obtain ⟨hc3, hf3⟩ := bcell hb3; have hz3 : w.heap.size < w3.heap.size := lts hb3.size; have HB3 : Below w.heap.size w w3 := below_mid bel hb3; clear hb3) | (go_at_call 10; (with_reducible refine (right_u ⟨A0, A1, A2, A3, A4, c0, c1, c2, c3, c4⟩ m AL l _ (HM.out.below bel) HQ.out (Kd.C_below HCL.out bel) HLL.out HRL.out).mono ?_); rintro e w4 ⟨rfl, hb4⟩; have HCL4 := Aside0.mk (Kd.C_below HCL.out (below_mid bel hb4)); obtain ⟨hc4, hf4⟩ := bcell hb4; have hz4 : w.heap.size < w4.heap.size := lts hb4.size; have HB4 : Below w.heap.size w w4 := below_mid bel hb4; clear hb4) | (go_at_call 11; (with_reducible refine (over_u ⟨A0, A1, A2, A3, A4, c0, c1, c2, c3, c4⟩ m AL l _ (HM.out.below bel) (Kd.C_below HCL4.out bel) HOL.out).mono ?_); rintro e w5 ⟨rfl, hb5⟩; have HCL5 := Aside0.mk (Kd.C_below HCL4.out (below_mid bel hb5)); obtain ⟨hc5, hf5⟩ := bcell hb5; have hz5 : w.heap.size < w5.heap.size := lts hb5.size; have HB5 : Below w.heap.size w w5 := below_mid bel hb5; clear hb5) | (go_at_call 8; (with_reducible refine (awake_c _).mono ?_); rintro e w9 ⟨rfl, hb9⟩; have HCL9 := Aside0.mk (Kd.C_below HCL5.out (below_mid bel hb9)); obtain ⟨hc9, hf9⟩ := bcell hb9; have hz9 : w.heap.size < w9.heap.size := lts hb9.size; have HB9 : Below w.heap.size w w9 := below_mid bel hb9; clear hb9) | (go_at_call 10; (with_reducible refine (right_c ⟨A0, A1, A2, A3, A4, c0, c1, c2, c3, c4⟩ m Y cy y _ (HM.out.below bel) HQ.out (Kd.C_below HY.out bel) hyc HLY.out HR1.out).mono ?_); rintro e w11 ⟨rfl, hb11⟩; have HCL11 := Aside0.mk (Kd.C_below HCL9.out (below_mid bel hb11)); obtain ⟨hc11, hf11⟩ := bcell hb11; have hz11 : w.heap.size < w11.heap.size := lts hb11.size; have HB11 : Below w.heap.size w w11 := below_mid bel hb11; clear hb11))
      go_ret
      exact ⟨rfl, HB11⟩
    | true =>
      have HOY := Aside0.mk (show overB m l (mps y) = true from by
        obtain ⟨l', h1, h2⟩ := HLS.out rfl
        rw [HCV.out] at h1
        injection h1 with h1
        subst h1
        exact overB_iff.2 h2)
      go_enter Try.func3, Try.ntmps3
      go_wp2_with (first | (go_at_call 6; (with_reducible refine (law_sane_c (HM.out.below bel) HQ.out).mono ?_); rintro e w1 ⟨rfl, hb1⟩; obtain ⟨hc1, hf1⟩ := bcell hb1; have hz1 : w.heap.size < w1.heap.size := lts hb1.size; have HB1 : Below w.heap.size w w1 := below_mid bel hb1; clear hb1) | (go_at_call 7; (with_reducible refine (few_c Y cy y _ (Kd.C_below HY.out bel) hyc HY1.out HY2.out HFY.out).mono ?_); rintro e w2 ⟨rfl, hly_, hb2⟩; have HLY := Aside0.mk (long_of (hly_ rfl)); clear hly_; obtain ⟨hc2, hf2⟩ := bcell hb2; have hz2 : w.heap.size < w2.heap.size := lts hb2.size; have HB2 : Below w.heap.size w w2 := below_mid bel hb2; clear hb2) | (go_at_call 9; (with_reducible refine (tcheck_c ⟨A0, A1, A2, A3, A4, c0, c1, c2, c3, c4⟩ m _ (HM.out.below bel) HQ.out HCV.out).mono ?_); rintro e w3 ⟨hb3, hno, hyes⟩; obtain ⟨AL, rfl, hcl⟩ := hyes _ rfl; have HCL := Aside0.mk hcl; clear hno hyes hcl; obtain ⟨hc3, hf3⟩ := bcell hb3; have hz3 : w.heap.size < w3.heap.size := lts hb3.size; have HB3 : Below w.heap.size w w3 := below_mid bel hb3; clear hb3) | (go_at_call 10; (with_reducible refine (right_u ⟨A0, A1, A2, A3, A4, c0, c1, c2, c3, c4⟩ m AL l _ (HM.out.below bel) HQ.out (Kd.C_below HCL.out bel) HLL.out HRL.out).mono ?_); rintro e w4 ⟨rfl, hb4⟩; have HCL4 := Aside0.mk (Kd.C_below HCL.out (below_mid bel hb4)); obtain ⟨hc4, hf4⟩ := bcell hb4; have hz4 : w.heap.size < w4.heap.size := lts hb4.size; have HB4 : Below w.heap.size w w4 := below_mid bel hb4; clear hb4) | (go_at_call 11; (with_reducible refine (over_u ⟨A0, A1, A2, A3, A4, c0, c1, c2, c3, c4⟩ m AL l _ (HM.out.below bel) (Kd.C_below HCL4.out bel) HOL.out).mono ?_); rintro e w5 ⟨rfl, hb5⟩; have HCL5 := Aside0.mk (Kd.C_below HCL4.out (below_mid bel hb5)); obtain ⟨hc5, hf5⟩ := bcell hb5; have hz5 : w.heap.size < w5.heap.size := lts hb5.size; have HB5 : Below w.heap.size w w5 := below_mid bel hb5; clear hb5) | (go_at_call 8; (with_reducible refine (awake_c _).mono ?_); rintro e w9 ⟨rfl, hb9⟩; have HCL9 := Aside0.mk (Kd.C_below HCL5.out (below_mid bel hb9)); obtain ⟨hc9, hf9⟩ := bcell hb9; have hz9 : w.heap.size < w9.heap.size := lts hb9.size; have HB9 : Below w.heap.size w w9 := below_mid bel hb9; clear hb9) | (go_at_call 10; (with_reducible refine (right_c ⟨A0, A1, A2, A3, A4, c0, c1, c2, c3, c4⟩ m Y cy y _ (HM.out.below bel) HQ.out (Kd.C_below HY.out bel) hyc HLY.out HR1.out).mono ?_); rintro e w11 ⟨rfl, hb11⟩; have HCL11 := Aside0.mk (Kd.C_below HCL9.out (below_mid bel hb11)); obtain ⟨hc11, hf11⟩ := bcell hb11; have hz11 : w.heap.size < w11.heap.size := lts hb11.size; have HB11 : Below w.heap.size w w11 := below_mid bel hb11; clear hb11) | (go_at_call 11; (with_reducible refine (over_v ⟨A0, A1, A2, A3, A4, c0, c1, c2, c3, c4⟩ m AL l Y cy y _ (HM.out.below bel) (Kd.C_below HCL11.out bel) (Kd.C_below HY.out bel) hyc HOY.out).mono ?_); rintro e w12 ⟨rfl, hb12⟩; obtain ⟨hc12, hf12⟩ := bcell hb12; have hz12 : w.heap.size < w12.heap.size := lts hb12.size; have HB12 : Below w.heap.size w w12 := below_mid bel hb12; clear hb12))
      go_ret
      exact ⟨rfl, HB12⟩
end Go.Proofs.Ytcfbhobpfnlkpaa.Flow
