/- The law FlowSteps, walked whole. -/
import Derived.Test.YtoiahldbahdaoaaFlowFY
import Derived.Test.YtoiahldbahdaoaaFlowAK
namespace Go.Proofs.Ytoiahldbahdaoaa.Flow
open Go.RowKit Go.Proofs.Ytoiahldbahdaoaa.QFlowSteps Go.Proofs.YtoiahldbahdaoaaW.PrintWords Go.Proofs.YtoiahldbahdaoaaW.PrintLast Go.Proofs.Ytoiahldbahdaoaa.Chain
set_option linter.unusedVariables false
set_option linter.unusedSimpArgs false
theorem law_sane_c_s {w : World} {a : IA} {m : Im} (hm : IC w a m) {q : Bool} (hq : saneB m = q) : Calls Try.prog 7 #[.agg #[.slice a.A0 m.c.length a.c0, .slice a.A1 m.s.length a.c1, .slice a.A2 m.n.length a.c2, .slice a.A3 m.m.length a.c3, .slice a.A4 m.e.length a.c4, .int .i64 m.sk, .int .i64 m.hp]] w fun e w' => e = .returned (.bool q) ∧ Below w.heap.size w w' := by
  subst hq
  exact law_sane a m w hm
theorem stepV_len_s (m : Im) (f pc : Int) (st : List S38) : (stepV m f pc st).2.1.length ≤ 8 ∧ (stepV m f pc st).2.2.length ≤ 2 := by
  have hn := nexts_len (rd_T44 (rd_T41 m.m f).f3 pc) pc
  unfold stepV
  by_cases h : f < 0 ∨ (m.m.length : Int) ≤ f ∨ pc < 0 ∨ ((rd_T41 m.m f).f3.length : Int) ≤ pc
  · rw [if_pos h]; exact ⟨by decide, by decide⟩
  rw [if_neg h]
  unfold stepI
  split
  · exact ⟨by decide, by decide⟩
  split
  · unfold dupV
    split
    · exact ⟨by decide, by decide⟩
    · refine ⟨?_, hn⟩
      rw [List.length_append, List.length_drop]
      omega
  · unfold typesV
    split
    · exact ⟨by decide, by decide⟩
    · split
      · refine ⟨?_, hn⟩
        rw [List.length_append, List.length_take]
        omega
      · exact ⟨by decide, by decide⟩
theorem step_w_s {w : World} {a : IA} {m : Im} (hm : IC w a m) (hs : SaneP m) (f pc : Int) {As : Option Addr} {cs : Nat} {st : List S38} (hst : Kd.C k38 w As st.length st) (hsc : st.length ≤ cs) (hsl : st.length ≤ 1000) {e : Int} {r : List S38} {nx : List Int} (hv : stepV m f pc st = (e, r, nx)) :
    Calls Try.prog 9 #[.agg #[.slice a.A0 m.c.length a.c0, .slice a.A1 m.s.length a.c1, .slice a.A2 m.n.length a.c2, .slice a.A3 m.m.length a.c3, .slice a.A4 m.e.length a.c4, .int .i64 m.sk, .int .i64 m.hp], .int .i64 f, .int .i64 pc, .slice As st.length cs] w fun e' w' => ∃ A c B k, e' = .returned (.tuple #[.slice A r.length c, .slice B nx.length k, .int .i64 e]) ∧ r.length ≤ c ∧ Kd.C k38 w' A r.length r ∧ nx.length ≤ k ∧ Kd.C (Kd.int .i64) w' B nx.length nx ∧ Below w.heap.size w w' := by
  refine (step_calls a m f pc As cs st w hm hs hst hsc hsl).mono ?_
  rintro e' w' ⟨va, vn, rfl, h1, h2, hb⟩
  rw [hv] at h1 h2 ⊢
  obtain ⟨A, c, rfl, k1, k2⟩ := h1.form
  obtain ⟨B, k, rfl, k3, k4⟩ := h2.form
  exact ⟨A, c, B, k, rfl, k1, k2, k3, k4, hb⟩
theorem ints_w_s {w : World} {A A' : Option Addr} {c c' : Nat} {l l' : List Int} (h : Kd.C (Kd.int .i64) w A l.length l) (hc : l.length ≤ c) (h' : Kd.C (Kd.int .i64) w A' l'.length l') (hc' : l'.length ≤ c') (hn : l.length ≤ 1000) {p : Bool} (hp : decide (l = l') = p) : Calls Try.prog 12 #[.slice A l.length c, .slice A' l'.length c'] w fun e w' => e = .returned (.bool p) ∧ Below w.heap.size w w' := by
  subst hp
  refine (plimsollref01_Ints.calls (l.length + 1) A c l A' c' l' _ w h hc h' hc' (ints_eq l l' (by omega) _ (Nat.le_refl _))).mono ?_
  rintro e w' ⟨h1, h2⟩
  exact ⟨h1, by first | exact h2 | exact h2.below⟩
theorem rstep_w {w : World} {a : IA} {m : Im} (hm : IC w a m) (hs : SaneP m) (f pc : Int) {As : Option Addr} {cs : Nat} {st : List S38} (hst : Kd.C k38 w As st.length st) (hsc : st.length ≤ cs) (hsl : st.length ≤ 1000) {e : Int} {r : List S38} {nx : List Int} (hv : stepV m f pc st = (e, r, nx)) :
    Calls Try.prog 10 #[.agg #[.slice a.A0 m.c.length a.c0, .slice a.A1 m.s.length a.c1, .slice a.A2 m.n.length a.c2, .slice a.A3 m.m.length a.c3, .slice a.A4 m.e.length a.c4, .int .i64 m.sk, .int .i64 m.hp], .int .i64 f, .int .i64 pc, .slice As st.length cs] w fun e' w' => ∃ A c B k, e' = .returned (.tuple #[.slice A r.length c, .slice B nx.length k, .int .i64 e]) ∧ r.length ≤ c ∧ Kd.C k38 w' A r.length r ∧ nx.length ≤ k ∧ Kd.C (Kd.int .i64) w' B nx.length nx ∧ Below w.heap.size w w' := by
  refine (rstep_calls a m f pc As cs st w hm hs hst hsc hsl).mono ?_
  rintro e' w' ⟨va, vn, rfl, h1, h2, hb⟩
  rw [hv] at h1 h2 ⊢
  obtain ⟨A, c, rfl, k1, k2⟩ := h1.form
  obtain ⟨B, k, rfl, k3, k4⟩ := h2.form
  exact ⟨A, c, B, k, rfl, k1, k2, k3, k4, hb⟩
set_option maxHeartbeats 16000000 in
set_option maxRecDepth 100000 in
theorem steps_law (a : IA) (m : Im) (f pc : Int) (A6 : Option Addr) (c6 : Nat) (sb : List S38) (w : World) (hm : IC w a m) (hsb : Kd.C k38 w A6 sb.length sb) (hcb : sb.length ≤ c6) :
    Calls Try.prog 3 #[.agg #[.slice a.A0 m.c.length a.c0, .slice a.A1 m.s.length a.c1, .slice a.A2 m.n.length a.c2, .slice a.A3 m.m.length a.c3, .slice a.A4 m.e.length a.c4, .int .i64 m.sk, .int .i64 m.hp], .int .i64 f, .int .i64 pc, .slice A6 sb.length c6] w fun e w' => e = .returned (.bool true) ∧ Below w.heap.size w w' := by
  have HM := Aside0.mk hm
  have HB := Aside0.mk hsb
  clear hm hsb
  obtain ⟨q, hq⟩ : ∃ q, saneB m = q := ⟨_, rfl⟩
  have HQ := Aside0.mk hq
  clear hq
  cases q with
  | false =>
    go_enter Try.func3, Try.ntmps3
    go_wp2_with (first | (go_at_call 7; (refine (law_sane_c_s (HM.out.below bel) HQ.out).mono ?_); rintro e w1 ⟨rfl, hb1⟩; obtain ⟨hc1, hf1⟩ := bcell hb1; have hz1 : w.heap.size < w1.heap.size := lts hb1.size; have HB1 : Below w.heap.size w w1 := below_mid bel hb1; clear hb1) | (go_at_call 8; (refine (awake_c _).mono ?_); rintro e w9 ⟨rfl, hb9⟩; have HB9 : Below w.heap.size w w9 := below_mid bel hb9; clear hb9))
    go_ret
    exact ⟨rfl, HB9⟩
  | true =>
  have HSN := Aside0.mk (saneP HQ.out)
  by_cases h5 : 50 < sb.length
  · have d5 : decide (50 < (sb.length : Int)) = true := decide_eq_true (by omega)
    go_enter Try.func3, Try.ntmps3
    go_wp2_with (first | (go_at_call 7; (refine (law_sane_c_s (HM.out.below bel) HQ.out).mono ?_); rintro e w1 ⟨rfl, hb1⟩; obtain ⟨hc1, hf1⟩ := bcell hb1; have hz1 : w.heap.size < w1.heap.size := lts hb1.size; have HB1 : Below w.heap.size w w1 := below_mid bel hb1; clear hb1) | (go_at_call 8; (refine (awake_c _).mono ?_); rintro e w9 ⟨rfl, hb9⟩; have HB9 : Below w.heap.size w w9 := below_mid bel hb9; clear hb9))
    go_ret
    exact ⟨rfl, HB9⟩
  have d5 : decide (50 < (sb.length : Int)) = false := decide_eq_false (by omega)
  have hlb : sb.length ≤ 50 := by omega
  clear h5
  obtain ⟨⟨e1, x, n1⟩, hs1⟩ : ∃ r, stepV m f pc sb = r := ⟨_, rfl⟩
  have HS1 := Aside0.mk hs1
  have hln := stepV_len_s m f pc sb
  rw [hs1] at hln
  dsimp only at hln
  obtain ⟨hx8, hn2⟩ := hln
  clear hs1
  have de : (e1 == e1) = true := beq_self_eq_true _
  go_enter Try.func3, Try.ntmps3
  go_wp2_with (first | (go_at_call 7; (refine (law_sane_c_s (HM.out.below bel) HQ.out).mono ?_); rintro e w1 ⟨rfl, hb1⟩; obtain ⟨hc1, hf1⟩ := bcell hb1; have hz1 : w.heap.size < w1.heap.size := lts hb1.size; have HB1 : Below w.heap.size w w1 := below_mid bel hb1; clear hb1) | (go_at_call 9; (with_reducible refine (step_w_s (a := a) (HM.out.below bel) HSN.out f pc (Kd.C_below HB.out bel) hcb (by omega) HS1.out).mono ?_); rintro e w2 ⟨Ax, cx, Bx, kx, rfl, hcx, hCx, hkx, hNx, hb2⟩; obtain ⟨hc2, hf2⟩ := bcell hb2; have hz2 : w.heap.size < w2.heap.size := lts hb2.size; have HCX := Aside0.mk hCx; have HNX := Aside0.mk hNx; clear hCx hNx; have HB2 : Below w.heap.size w w2 := below_mid bel hb2; clear hb2) | (go_at_call 10; (with_reducible refine (rstep_w (a := a) (HM.out.below bel) HSN.out f pc (Kd.C_below HB.out bel) hcb (by omega) HS1.out).mono ?_); rintro e w3 ⟨Ay, cy, By, ky, rfl, hcy, hCy, hky, hNy, hb3⟩; have HCX3 := Aside0.mk (Kd.C_below HCX.out hb3); have HNX3 := Aside0.mk (Kd.C_below HNX.out hb3); have HCY := Aside0.mk hCy; have HNY := Aside0.mk hNy; clear hCy hNy; have HB3 : Below w.heap.size w w3 := below_mid HB2 hb3; clear hb3) | (go_at_call 8; (refine (awake_c _).mono ?_); rintro e w4 ⟨rfl, hb4⟩; have HCX4 := Aside0.mk (Kd.C_below HCX3.out hb4); have HNX4 := Aside0.mk (Kd.C_below HNX3.out hb4); have HCY4 := Aside0.mk (Kd.C_below HCY.out hb4); have HNY4 := Aside0.mk (Kd.C_below HNY.out hb4); have HB4 : Below w.heap.size w w4 := below_mid HB3 hb4; clear hb4) | (go_at_call 11; (refine (types_calls HCX4.out hcx HCY4.out hcy (by omega) (q := true) (decide_eq_true rfl)).mono ?_); rintro e w5 ⟨rfl, hb5⟩; have HNX5 := Aside0.mk (Kd.C_below HNX4.out hb5); have HNY5 := Aside0.mk (Kd.C_below HNY4.out hb5); have HB5 : Below w.heap.size w w5 := below_mid HB4 hb5; clear hb5) | (go_at_call 12; (refine (ints_w_s HNX5.out hkx HNY5.out hky (by omega) (p := true) (decide_eq_true rfl)).mono ?_); rintro e w6 ⟨rfl, hb6⟩; have HB6 : Below w.heap.size w w6 := below_mid HB5 hb6; clear hb6))
  go_ret
  exact ⟨rfl, HB6⟩
end Go.Proofs.Ytoiahldbahdaoaa.Flow
