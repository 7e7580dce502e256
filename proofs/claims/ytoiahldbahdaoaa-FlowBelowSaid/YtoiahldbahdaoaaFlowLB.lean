/- The law FlowBelow, walked whole. -/
import Derived.Test.YtoiahldbahdaoaaFlowLF
namespace Go.Proofs.Ytoiahldbahdaoaa.Flow
open Go.RowKit Go.Proofs.Ytoiahldbahdaoaa.QFlowSteps Go.Proofs.YtoiahldbahdaoaaW.PrintWords Go.Proofs.YtoiahldbahdaoaaW.PrintLast Go.Proofs.Ytoiahldbahdaoaa.Chain
set_option linter.unusedVariables false
set_option linter.unusedSimpArgs false
/-- What lies below the operands that are taken stays: the step of a sane image. -/
theorem stepV_below {m : Im} (hq : saneB m = true) {f pc : Int} (h0 : 0 ≤ f) (h1 : f < (m.m.length : Int)) (h2 : 0 ≤ pc) (h3 : pc < ((rd_T41 m.m f).f3.length : Int)) {l s : List S38} (hl : l.length + s.length ≤ 5) (he : (stepV m f pc s).1 = 0) :
    stepV m f pc (l ++ s) = (0, l ++ (stepV m f pc s).2.1, (stepV m f pc s).2.2) := by
  have hx := (saneP hq).metP (rdM_mem h0 h1)
  have hi := rdI_mem h2 h3
  have hb := hx.ib _ hi
  rw [stepV_in h0 h1 h2 h3] at he
  rw [stepV_in h0 h1 h2 h3, stepV_in h0 h1 h2 h3]
  exact stepI_below (of_len (saneP hq) hb.1 hb.2.2.1 (hx.nm _ hi)).2 hl he
theorem stepV_dup {m : Im} {f pc : Int} (h0 : 0 ≤ f) (h1 : f < (m.m.length : Int)) (h2 : 0 ≤ pc) (h3 : pc < ((rd_T41 m.m f).f3.length : Int)) {s : List S38} (h6 : (rd_T44 (rd_T41 m.m f).f3 pc).f0 = 6) (he : (stepV m f pc s).1 = 0) : s.length ≠ 0 := by
  rw [stepV_in h0 h1 h2 h3] at he
  unfold stepI at he
  split at he
  · cases he
  · first | rw [if_pos h6] at he | skip
    unfold dupV at he
    intro hs
    rw [if_pos (.inl hs)] at he
    cases he
set_option maxHeartbeats 16000000 in
set_option maxRecDepth 100000 in
theorem below_law (a : IA) (m : Im) (f pc : Int) (A5 A6 : Option Addr) (c5 c6 : Nat) (lo sb : List S38) (w : World) (hm : IC w a m) (hsa : Kd.C k38 w A5 lo.length lo) (hca : lo.length ≤ c5) (hsb : Kd.C k38 w A6 sb.length sb) (hcb : sb.length ≤ c6) (hf : 0 ≤ f ∧ f ≤ 255) (hp : 0 ≤ pc ∧ pc ≤ 255) (hlo : lo.length ≤ 140737488355328) (hlb : sb.length ≤ 140737488355328) :
    Calls Try.prog 5 #[.agg #[.slice a.A0 m.c.length a.c0, .slice a.A1 m.s.length a.c1, .slice a.A2 m.n.length a.c2, .slice a.A3 m.m.length a.c3, .slice a.A4 m.e.length a.c4, .int .i64 m.sk, .int .i64 m.hp], .int .u8 f, .int .u8 pc, .slice A5 lo.length c5, .slice A6 sb.length c6] w fun e w' => e = .returned (.bool true) ∧ Below w.heap.size w w' := by
  obtain ⟨A0, A1, A2, A3, A4, c0, c1, c2, c3, c4⟩ := a
  have HM := Aside0.mk hm
  have HA := Aside0.mk hsa
  have HB := Aside0.mk hsb
  have hmax := Kd.C_max hm.h3
  clear hm hsa hsb
  obtain ⟨q, hq⟩ : ∃ q, saneB m = q := ⟨_, rfl⟩
  have HQ := Aside0.mk hq
  clear hq
  cases q with
  | false =>
    go_enter Try.func5, Try.ntmps5
    go_wp2_with (first | (go_at_call 7; (refine (law_sane_c (HM.out.below bel) HQ.out).mono ?_); rintro e w1 ⟨rfl, hb1⟩; obtain ⟨hc1, hf1⟩ := bcell hb1; have hz1 : w.heap.size < w1.heap.size := lts hb1.size; have HB1 : Below w.heap.size w w1 := below_mid bel hb1; clear hb1) | (go_at_call 8; (refine (awake_c _).mono ?_); rintro e w9 ⟨rfl, hb9⟩; have HB9 : Below w.heap.size w w9 := below_mid bel hb9; clear hb9))
    go_ret
    exact ⟨rfl, HB9⟩
  | true =>
  have HSN := Aside0.mk (saneP HQ.out)
  have m12 := (saneP HQ.out).fits.m12
  have c8 := (saneP HQ.out).fits.c8
  by_cases hz : m.m.length = 0
  · have dz : ((m.m.length : Int) == 0) = true := by rw [hz]; rfl
    clear hz
    go_enter Try.func5, Try.ntmps5
    go_wp2_with (first | (go_at_call 7; (refine (law_sane_c (HM.out.below bel) HQ.out).mono ?_); rintro e w1 ⟨rfl, hb1⟩; obtain ⟨hc1, hf1⟩ := bcell hb1; have hz1 : w.heap.size < w1.heap.size := lts hb1.size; have HB1 : Below w.heap.size w w1 := below_mid bel hb1; clear hb1) | (go_at_call 8; (refine (awake_c _).mono ?_); rintro e w9 ⟨rfl, hb9⟩; have HB9 : Below w.heap.size w w9 := below_mid bel hb9; clear hb9))
    go_ret
    exact ⟨rfl, HB9⟩
  have dz : ((m.m.length : Int) == 0) = false := beq_eq_false_iff_ne.2 (by omega)
  by_cases h5 : 5 < lo.length + sb.length
  · have d5 : decide (5 < (lo.length : Int) + (sb.length : Int)) = true := decide_eq_true (by omega)
    clear h5
    go_enter Try.func5, Try.ntmps5
    go_wp2_with (first | (go_at_call 7; (refine (law_sane_c (HM.out.below bel) HQ.out).mono ?_); rintro e w1 ⟨rfl, hb1⟩; obtain ⟨hc1, hf1⟩ := bcell hb1; have hz1 : w.heap.size < w1.heap.size := lts hb1.size; have HB1 : Below w.heap.size w w1 := below_mid bel hb1; clear hb1) | (go_at_call 8; (refine (awake_c _).mono ?_); rintro e w9 ⟨rfl, hb9⟩; have HB9 : Below w.heap.size w w9 := below_mid bel hb9; clear hb9))
    go_ret
    exact ⟨rfl, HB9⟩
  have d5 : decide (5 < (lo.length : Int) + (sb.length : Int)) = false := decide_eq_false (by omega)
  clear hlo hlb
  have hlo : lo.length ≤ 5 := by omega
  have hlb : sb.length ≤ 5 := by omega
  have hlb' : lo.length + sb.length ≤ 5 := by omega
  clear h5
  have hf0 := hf.1
  have hf1 := hf.2
  have hp0 := hp.1
  have hp1 := hp.2
  have hml : 0 < (m.m.length : Int) := by omega
  have hg0 : 0 ≤ f % (m.m.length : Int) := Int.emod_nonneg _ (by omega)
  have hg1 : f % (m.m.length : Int) < (m.m.length : Int) := Int.emod_lt_of_pos _ hml
  obtain ⟨g, hg⟩ : ∃ g, f % (m.m.length : Int) = g := ⟨_, rfl⟩
  rw [hg] at hg0 hg1
  obtain ⟨ae, F0, g0', F1, g1', F4, g4', F7, g7', hA3, y0, y1, y2, y3, y4, y5, y6, y7, z0, z1, z2, z3, z4, z5, z6, z7⟩ := at_T41 HM.out.h3 g hg0 hg1
  subst hA3
  clear y0 y1 y2 y3 y5 y6 y7 z0 z1 z2 z3 z6 z7
  have hmp := HSN.out.metP (rdM_mem hg0 hg1)
  have hx0 := hmp.c0
  have hx64 := hmp.c64
  clear hmp
  obtain ⟨X, hX⟩ : ∃ X, (rd_T41 m.m g).f3 = X := ⟨_, rfl⟩
  rw [hX] at y4 hx0 hx64 z4 z5
  have HXX := Aside0.mk hX
  clear hX
  have hxl : 0 < (X.length : Int) := by omega
  have dx : ((X.length : Int) == 0) = false := beq_eq_false_iff_ne.2 (by omega)
  have hq0 : 0 ≤ pc % (X.length : Int) := Int.emod_nonneg _ (by omega)
  have hq1 : pc % (X.length : Int) < (X.length : Int) := Int.emod_lt_of_pos _ hxl
  obtain ⟨p, hpq⟩ : ∃ p, pc % (X.length : Int) = p := ⟨_, rfl⟩
  rw [hpq] at hq0 hq1
  obtain ⟨ai, hF4, x0, x1, x2⟩ := at_T44 z5 p hq0 hq1
  subst hF4
  clear z4 z5 x1 x2
  obtain ⟨op, hop⟩ : ∃ op, (rd_T44 X p).f0 = op := ⟨_, rfl⟩
  rw [hop] at x0
  have hal := World.block_lt_of_cell? w _ y4
  have hal1 : (ae.add (g.toNat * 8)).block < w.heap.size + 1 := Nat.lt_succ_of_lt hal
  have hai := World.block_lt_of_cell? w _ x0
  have hai1 : (ai.add (p.toNat * 3)).block < w.heap.size + 1 := Nat.lt_succ_of_lt hai
  obtain ⟨⟨e1, x, n1⟩, hs1⟩ : ∃ r, stepV m g p sb = r := ⟨_, rfl⟩
  have HS1 := Aside0.mk hs1
  have hln := stepV_len m g p sb
  rw [hs1] at hln
  dsimp only at hln
  obtain ⟨hx8, hn2⟩ := hln
  by_cases hE : e1 = 0
  case neg =>
    have dE : (e1 != 0) = true := bne_iff_ne.2 hE
    clear hs1 hop
    go_enter Try.func5, Try.ntmps5
    go_wp2_with (first | (go_at_call 7; (refine (law_sane_c (HM.out.below bel) HQ.out).mono ?_); rintro e w1 ⟨rfl, hb1⟩; obtain ⟨hc1, hf1⟩ := bcell hb1; have hz1 : w.heap.size < w1.heap.size := lts hb1.size; have hy1 : (ae.add (g.toNat * 8)).block < w1.heap.size := lts hb1.size; have hu1 : (ai.add (p.toNat * 3)).block < w1.heap.size := lts hb1.size; have HB1 : Below w.heap.size w w1 := below_mid bel hb1; clear hb1) | (go_at_call 9; (with_reducible refine (step_w (a := ⟨A0, A1, A2, some ae, A4, c0, c1, c2, c3, c4⟩) (HM.out.below bel) HSN.out g p (Kd.C_below HB.out bel) hcb (by omega) HS1.out).mono ?_); rintro e w2 ⟨Ax, cx, Bx, kx, rfl, hcx, hCx, hkx, hNx, hb2⟩; obtain ⟨hc2, hf2⟩ := bcell hb2; have hz2 : w.heap.size < w2.heap.size := lts hb2.size; have hy2 : (ae.add (g.toNat * 8)).block < w2.heap.size := lts hb2.size; have hu2 : (ai.add (p.toNat * 3)).block < w2.heap.size := lts hb2.size; have HCX := Aside0.mk hCx; have HNX := Aside0.mk hNx; clear hCx hNx; have HB2 : Below w.heap.size w w2 := below_mid bel hb2; have x0_2 := keepc HB2 x0; clear hb2) | (go_at_call 8; (refine (awake_c _).mono ?_); rintro e w9 ⟨rfl, hb9⟩; have HB9 : Below w.heap.size w w9 := below_mid bel hb9; clear hb9))
    go_ret
    exact ⟨rfl, HB9⟩
  subst hE
  have hbel := stepV_below HQ.out hg0 hg1 hq0 (by rw [HXX.out]; exact hq1) hlb' (by rw [HS1.out])
  rw [HS1.out] at hbel
  dsimp only at hbel
  obtain ⟨al, hal_⟩ : ∃ al, ([] ++ lo) ++ sb = al := ⟨_, rfl⟩
  obtain ⟨lx, hlx_⟩ : ∃ lx, ([] ++ lo) ++ x = lx := ⟨_, rfl⟩
  have HS2 := Aside0.mk (show stepV m g p al = (0, lx, n1) from by rw [← hal_, ← hlx_]; exact hbel)
  have hal8 : al.length ≤ 5 := by rw [← hal_]; simp only [List.length_append, List.length_nil]; omega
  have hlx8 : lx.length ≤ 13 := by rw [← hlx_]; simp only [List.length_append, List.length_nil]; omega
  have HAL := Aside0.mk hal_
  have HLX := Aside0.mk hlx_
  have HOP := Aside0.mk hop
  clear hal_ hlx_ hbel hs1
  by_cases h6 : op = 6
  · have hs0 : sb.length ≠ 0 := stepV_dup hg0 hg1 hq0 (by rw [HXX.out]; exact hq1) (by rw [HXX.out, hop]; exact h6) (by rw [HS1.out])
    have d6 : (op == 6) = true := beq_iff_eq.2 h6
    have dsl : ((sb.length : Int) == 0) = false := beq_eq_false_iff_ne.2 (by omega)
    clear hop h6
    go_enter Try.func5, Try.ntmps5
    go_wp2_with (first | (go_at_call 7; (refine (law_sane_c (HM.out.below bel) HQ.out).mono ?_); rintro e w1 ⟨rfl, hb1⟩; obtain ⟨hc1, hf1⟩ := bcell hb1; have hz1 : w.heap.size < w1.heap.size := lts hb1.size; have hy1 : (ae.add (g.toNat * 8)).block < w1.heap.size := lts hb1.size; have hu1 : (ai.add (p.toNat * 3)).block < w1.heap.size := lts hb1.size; have HB1 : Below w.heap.size w w1 := below_mid bel hb1; clear hb1) | (go_at_call 9; (with_reducible refine (step_w (a := ⟨A0, A1, A2, some ae, A4, c0, c1, c2, c3, c4⟩) (HM.out.below bel) HSN.out g p (Kd.C_below HB.out bel) hcb (by omega) HS1.out).mono ?_); rintro e w2 ⟨Ax, cx, Bx, kx, rfl, hcx, hCx, hkx, hNx, hb2⟩; obtain ⟨hc2, hf2⟩ := bcell hb2; have hz2 : w.heap.size < w2.heap.size := lts hb2.size; have hy2 : (ae.add (g.toNat * 8)).block < w2.heap.size := lts hb2.size; have hu2 : (ai.add (p.toNat * 3)).block < w2.heap.size := lts hb2.size; have HCX := Aside0.mk hCx; have HNX := Aside0.mk hNx; clear hCx hNx; have HB2 : Below w.heap.size w w2 := below_mid bel hb2; have x0_2 := keepc HB2 x0; clear hb2) | ((with_reducible refine gate_dst (N := 84) rfl ?_); (try (refine gate_guard (by rfl) ?_; dsimp only)); refine Kd.R_lit k38 _ 38 ?hg (N := 84) ?hd (xs := ([] : List S38)) (inner := []) (ok := fun _ => True) (okp := fun _ => True) ?hr ?hp (fun _ hk => hk) trivial (Below.refl _ _) (Nat.le_refl _) (by simp) ?_; (case hd => rfl); (case hg => rfl); (case hr => first | (go_simp; done) | (go_simp; rfl)); (case hp => exact (Reps.none _ _)); intro v3 w3 ho hb3 hg_ hn_; clear hg_ hn_; have HO3 := Aside0.mk ho; clear ho; have HK3 := Aside0.mk hb3; have HB3 : Below w.heap.size w w3 := below_mid bel hb3; clear hb3) | ((with_reducible refine gate_builtin (b := .append) (xs := #[.tmp 84, .tmp 85]) rfl ?_); (try (refine gate_guard (by rfl) ?_; dsimp only)); at_builtin; refine Kd.R_append_rows k38 (w0 := w2) w2.heap.size rfl (.tmp 84) (.tmp 85) 23 38 (.agg #[(.int .i64 0), (.int .i64 0)]) 16 rfl Try.underlying23 info38 rfl (by decide) (by omega) v3 [] lo _ _ _ (fun _ => True) (fun _ => False) rfl rfl HO3.out (Kd.C_below HA.out HB3) (fun _ _ h => h) (fun _ h => h.elim) (fun _ _ => trivial) HK3.out HK3.out.size (by simp only [List.length_append, List.length_nil]; omega) ?_; intro v4 w4 ho hb4 hg_ hn_; clear hg_ hn_; have HO4 := Aside0.mk ho; clear ho; have HK4 := Aside0.mk hb4; have HB4 : Below w.heap.size w w4 := below_mid HB2 hb4; clear hb4) | ((with_reducible refine gate_builtin (b := .append) (xs := #[.tmp 86, .tmp 87]) rfl ?_); (try (refine gate_guard (by rfl) ?_; dsimp only)); at_builtin; refine Kd.R_append_rows k38 (w0 := w2) w2.heap.size rfl (.tmp 86) (.tmp 87) 23 38 (.agg #[(.int .i64 0), (.int .i64 0)]) 16 rfl Try.underlying23 info38 rfl (by decide) (by omega) v4 ([] ++ lo) sb _ _ _ (fun _ => True) (fun _ => False) rfl rfl HO4.out (Kd.C_below HB.out HB4) (fun _ _ h => h) (fun _ h => h.elim) (fun _ _ => trivial) HK4.out HK4.out.size (by simp only [List.length_append, List.length_nil]; omega) ?_; intro v5 w5 ho hb5 hg_ hn_; clear hg_ hn_; rw [HAL.out] at ho; obtain ⟨Aw, cw, rfl⟩ := Kd.R_slice ho; have hr_ := Kd.R_reads' ho; clear ho; have hcw := hr_.2.1; have HCW := Aside0.mk hr_.2.2; clear hr_; obtain ⟨hc5, hf5⟩ := bcell hb5; have hz5 : w.heap.size < w5.heap.size := lts hb5.size; have hy5 : (ae.add (g.toNat * 8)).block < w5.heap.size := lts hb5.size; have hu5 : (ai.add (p.toNat * 3)).block < w5.heap.size := lts hb5.size; have HCX5 := Aside0.mk (Kd.C_below HCX.out hb5); have HNX5 := Aside0.mk (Kd.C_below HNX.out hb5); have HB5 : Below w.heap.size w w5 := below_mid HB2 hb5; clear hb5) | (go_at_call 9; (with_reducible refine (step_w (a := ⟨A0, A1, A2, some ae, A4, c0, c1, c2, c3, c4⟩) (HM.out.below HB5) HSN.out g p HCW.out hcw (by omega) HS2.out).mono ?_); rintro e w6 ⟨Ay, cy, By, ky, rfl, hcy, hCy, hky, hNy, hb6⟩; have HCX6 := Aside0.mk (Kd.C_below HCX5.out hb6); have HNX6 := Aside0.mk (Kd.C_below HNX5.out hb6); have HCY := Aside0.mk hCy; have HNY := Aside0.mk hNy; clear hCy hNy; have HB6 : Below w.heap.size w w6 := below_mid HB5 hb6; clear hb6) | (go_at_call 8; (refine (awake_c _).mono ?_); rintro e w7 ⟨rfl, hb7⟩; have HCX7 := Aside0.mk (Kd.C_below HCX6.out hb7); have HNX7 := Aside0.mk (Kd.C_below HNX6.out hb7); have HCY7 := Aside0.mk (Kd.C_below HCY.out hb7); have HNY7 := Aside0.mk (Kd.C_below HNY.out hb7); have HB7 : Below w.heap.size w w7 := below_mid HB6 hb7; clear hb7) | (go_at_call 12; (refine (ints_w HNX7.out hkx HNY7.out hky (by omega) (p := true) (decide_eq_true rfl)).mono ?_); rintro e w8 ⟨rfl, hb8⟩; have HCX8 := Aside0.mk (Kd.C_below HCX7.out hb8); have HCY8 := Aside0.mk (Kd.C_below HCY7.out hb8); have HB8 : Below w.heap.size w w8 := below_mid HB7 hb8; clear hb8) | ((with_reducible refine gate_dst (N := 110) rfl ?_); (try (refine gate_guard (by rfl) ?_; dsimp only)); refine Kd.R_lit k38 _ 38 ?hg (N := 110) ?hd (xs := ([] : List S38)) (inner := []) (ok := fun _ => True) (okp := fun _ => True) ?hr ?hp (fun _ hk => hk) trivial (Below.refl _ _) (Nat.le_refl _) (by simp) ?_; (case hd => rfl); (case hg => rfl); (case hr => first | (go_simp; done) | (go_simp; rfl)); (case hp => exact (Reps.none _ _)); intro v9 w9 ho hb9 hg_ hn_; clear hg_ hn_; have HO9 := Aside0.mk ho; clear ho; have HK9 := Aside0.mk hb9; have HB9 : Below w.heap.size w w9 := below_mid HB8 hb9; clear hb9) | ((with_reducible refine gate_builtin (b := .append) (xs := #[.tmp 110, .tmp 111]) rfl ?_); (try (refine gate_guard (by rfl) ?_; dsimp only)); at_builtin; refine Kd.R_append_rows k38 (w0 := w8) w8.heap.size rfl (.tmp 110) (.tmp 111) 23 38 (.agg #[(.int .i64 0), (.int .i64 0)]) 16 rfl Try.underlying23 info38 rfl (by decide) (by omega) v9 [] lo _ _ _ (fun _ => True) (fun _ => False) rfl rfl HO9.out (Kd.C_below HA.out HB9) (fun _ _ h => h) (fun _ h => h.elim) (fun _ _ => trivial) HK9.out HK9.out.size (by simp only [List.length_append, List.length_nil]; omega) ?_; intro v10 w10 ho hb10 hg_ hn_; clear hg_ hn_; have HO10 := Aside0.mk ho; clear ho; have HK10 := Aside0.mk hb10; have HB10 : Below w.heap.size w w10 := below_mid HB8 hb10; clear hb10) | ((with_reducible refine gate_builtin (b := .append) (xs := #[.tmp 112, .tmp 113]) rfl ?_); (try (refine gate_guard (by rfl) ?_; dsimp only)); at_builtin; refine Kd.R_append_rows k38 (w0 := w8) w8.heap.size rfl (.tmp 112) (.tmp 113) 23 38 (.agg #[(.int .i64 0), (.int .i64 0)]) 16 rfl Try.underlying23 info38 rfl (by decide) (by omega) v10 ([] ++ lo) x _ _ _ (fun _ => True) (fun _ => False) rfl rfl HO10.out (Kd.C_below HCX8.out HK10.out) (fun _ _ h => h) (fun _ h => h.elim) (fun _ _ => trivial) HK10.out HK10.out.size (by simp only [List.length_append, List.length_nil]; omega) ?_; intro v11 w11 ho hb11 hg_ hn_; clear hg_ hn_; rw [HLX.out] at ho; obtain ⟨Az, cz, rfl⟩ := Kd.R_slice ho; have hr_ := Kd.R_reads' ho; clear ho; have hcz := hr_.2.1; have HCZ := Aside0.mk hr_.2.2; clear hr_; have HCY11 := Aside0.mk (Kd.C_below HCY8.out hb11); have HB11 : Below w.heap.size w w11 := below_mid HB8 hb11; clear hb11) | (go_at_call 11; (refine (types_calls HCY11.out hcy HCZ.out hcz (by omega) (q := true) (decide_eq_true rfl)).mono ?_); rintro e w13 ⟨rfl, hb13⟩; have HB13 : Below w.heap.size w w13 := below_mid HB11 hb13; clear hb13))
    go_ret
    exact ⟨rfl, HB13⟩
  · have d6 : (op == 6) = false := beq_eq_false_iff_ne.2 h6
    clear hop h6
    go_enter Try.func5, Try.ntmps5
    go_wp2_with (first | (go_at_call 7; (refine (law_sane_c (HM.out.below bel) HQ.out).mono ?_); rintro e w1 ⟨rfl, hb1⟩; obtain ⟨hc1, hf1⟩ := bcell hb1; have hz1 : w.heap.size < w1.heap.size := lts hb1.size; have hy1 : (ae.add (g.toNat * 8)).block < w1.heap.size := lts hb1.size; have hu1 : (ai.add (p.toNat * 3)).block < w1.heap.size := lts hb1.size; have HB1 : Below w.heap.size w w1 := below_mid bel hb1; clear hb1) | (go_at_call 9; (with_reducible refine (step_w (a := ⟨A0, A1, A2, some ae, A4, c0, c1, c2, c3, c4⟩) (HM.out.below bel) HSN.out g p (Kd.C_below HB.out bel) hcb (by omega) HS1.out).mono ?_); rintro e w2 ⟨Ax, cx, Bx, kx, rfl, hcx, hCx, hkx, hNx, hb2⟩; obtain ⟨hc2, hf2⟩ := bcell hb2; have hz2 : w.heap.size < w2.heap.size := lts hb2.size; have hy2 : (ae.add (g.toNat * 8)).block < w2.heap.size := lts hb2.size; have hu2 : (ai.add (p.toNat * 3)).block < w2.heap.size := lts hb2.size; have HCX := Aside0.mk hCx; have HNX := Aside0.mk hNx; clear hCx hNx; have HB2 : Below w.heap.size w w2 := below_mid bel hb2; have x0_2 := keepc HB2 x0; clear hb2) | ((with_reducible refine gate_dst (N := 84) rfl ?_); (try (refine gate_guard (by rfl) ?_; dsimp only)); refine Kd.R_lit k38 _ 38 ?hg (N := 84) ?hd (xs := ([] : List S38)) (inner := []) (ok := fun _ => True) (okp := fun _ => True) ?hr ?hp (fun _ hk => hk) trivial (Below.refl _ _) (Nat.le_refl _) (by simp) ?_; (case hd => rfl); (case hg => rfl); (case hr => first | (go_simp; done) | (go_simp; rfl)); (case hp => exact (Reps.none _ _)); intro v3 w3 ho hb3 hg_ hn_; clear hg_ hn_; have HO3 := Aside0.mk ho; clear ho; have HK3 := Aside0.mk hb3; have HB3 : Below w.heap.size w w3 := below_mid bel hb3; clear hb3) | ((with_reducible refine gate_builtin (b := .append) (xs := #[.tmp 84, .tmp 85]) rfl ?_); (try (refine gate_guard (by rfl) ?_; dsimp only)); at_builtin; refine Kd.R_append_rows k38 (w0 := w2) w2.heap.size rfl (.tmp 84) (.tmp 85) 23 38 (.agg #[(.int .i64 0), (.int .i64 0)]) 16 rfl Try.underlying23 info38 rfl (by decide) (by omega) v3 [] lo _ _ _ (fun _ => True) (fun _ => False) rfl rfl HO3.out (Kd.C_below HA.out HB3) (fun _ _ h => h) (fun _ h => h.elim) (fun _ _ => trivial) HK3.out HK3.out.size (by simp only [List.length_append, List.length_nil]; omega) ?_; intro v4 w4 ho hb4 hg_ hn_; clear hg_ hn_; have HO4 := Aside0.mk ho; clear ho; have HK4 := Aside0.mk hb4; have HB4 : Below w.heap.size w w4 := below_mid HB2 hb4; clear hb4) | ((with_reducible refine gate_builtin (b := .append) (xs := #[.tmp 86, .tmp 87]) rfl ?_); (try (refine gate_guard (by rfl) ?_; dsimp only)); at_builtin; refine Kd.R_append_rows k38 (w0 := w2) w2.heap.size rfl (.tmp 86) (.tmp 87) 23 38 (.agg #[(.int .i64 0), (.int .i64 0)]) 16 rfl Try.underlying23 info38 rfl (by decide) (by omega) v4 ([] ++ lo) sb _ _ _ (fun _ => True) (fun _ => False) rfl rfl HO4.out (Kd.C_below HB.out HB4) (fun _ _ h => h) (fun _ h => h.elim) (fun _ _ => trivial) HK4.out HK4.out.size (by simp only [List.length_append, List.length_nil]; omega) ?_; intro v5 w5 ho hb5 hg_ hn_; clear hg_ hn_; rw [HAL.out] at ho; obtain ⟨Aw, cw, rfl⟩ := Kd.R_slice ho; have hr_ := Kd.R_reads' ho; clear ho; have hcw := hr_.2.1; have HCW := Aside0.mk hr_.2.2; clear hr_; obtain ⟨hc5, hf5⟩ := bcell hb5; have hz5 : w.heap.size < w5.heap.size := lts hb5.size; have hy5 : (ae.add (g.toNat * 8)).block < w5.heap.size := lts hb5.size; have hu5 : (ai.add (p.toNat * 3)).block < w5.heap.size := lts hb5.size; have HCX5 := Aside0.mk (Kd.C_below HCX.out hb5); have HNX5 := Aside0.mk (Kd.C_below HNX.out hb5); have HB5 : Below w.heap.size w w5 := below_mid HB2 hb5; clear hb5) | (go_at_call 9; (with_reducible refine (step_w (a := ⟨A0, A1, A2, some ae, A4, c0, c1, c2, c3, c4⟩) (HM.out.below HB5) HSN.out g p HCW.out hcw (by omega) HS2.out).mono ?_); rintro e w6 ⟨Ay, cy, By, ky, rfl, hcy, hCy, hky, hNy, hb6⟩; have HCX6 := Aside0.mk (Kd.C_below HCX5.out hb6); have HNX6 := Aside0.mk (Kd.C_below HNX5.out hb6); have HCY := Aside0.mk hCy; have HNY := Aside0.mk hNy; clear hCy hNy; have HB6 : Below w.heap.size w w6 := below_mid HB5 hb6; clear hb6) | (go_at_call 8; (refine (awake_c _).mono ?_); rintro e w7 ⟨rfl, hb7⟩; have HCX7 := Aside0.mk (Kd.C_below HCX6.out hb7); have HNX7 := Aside0.mk (Kd.C_below HNX6.out hb7); have HCY7 := Aside0.mk (Kd.C_below HCY.out hb7); have HNY7 := Aside0.mk (Kd.C_below HNY.out hb7); have HB7 : Below w.heap.size w w7 := below_mid HB6 hb7; clear hb7) | (go_at_call 12; (refine (ints_w HNX7.out hkx HNY7.out hky (by omega) (p := true) (decide_eq_true rfl)).mono ?_); rintro e w8 ⟨rfl, hb8⟩; have HCX8 := Aside0.mk (Kd.C_below HCX7.out hb8); have HCY8 := Aside0.mk (Kd.C_below HCY7.out hb8); have HB8 : Below w.heap.size w w8 := below_mid HB7 hb8; clear hb8) | ((with_reducible refine gate_dst (N := 110) rfl ?_); (try (refine gate_guard (by rfl) ?_; dsimp only)); refine Kd.R_lit k38 _ 38 ?hg (N := 110) ?hd (xs := ([] : List S38)) (inner := []) (ok := fun _ => True) (okp := fun _ => True) ?hr ?hp (fun _ hk => hk) trivial (Below.refl _ _) (Nat.le_refl _) (by simp) ?_; (case hd => rfl); (case hg => rfl); (case hr => first | (go_simp; done) | (go_simp; rfl)); (case hp => exact (Reps.none _ _)); intro v9 w9 ho hb9 hg_ hn_; clear hg_ hn_; have HO9 := Aside0.mk ho; clear ho; have HK9 := Aside0.mk hb9; have HB9 : Below w.heap.size w w9 := below_mid HB8 hb9; clear hb9) | ((with_reducible refine gate_builtin (b := .append) (xs := #[.tmp 110, .tmp 111]) rfl ?_); (try (refine gate_guard (by rfl) ?_; dsimp only)); at_builtin; refine Kd.R_append_rows k38 (w0 := w8) w8.heap.size rfl (.tmp 110) (.tmp 111) 23 38 (.agg #[(.int .i64 0), (.int .i64 0)]) 16 rfl Try.underlying23 info38 rfl (by decide) (by omega) v9 [] lo _ _ _ (fun _ => True) (fun _ => False) rfl rfl HO9.out (Kd.C_below HA.out HB9) (fun _ _ h => h) (fun _ h => h.elim) (fun _ _ => trivial) HK9.out HK9.out.size (by simp only [List.length_append, List.length_nil]; omega) ?_; intro v10 w10 ho hb10 hg_ hn_; clear hg_ hn_; have HO10 := Aside0.mk ho; clear ho; have HK10 := Aside0.mk hb10; have HB10 : Below w.heap.size w w10 := below_mid HB8 hb10; clear hb10) | ((with_reducible refine gate_builtin (b := .append) (xs := #[.tmp 112, .tmp 113]) rfl ?_); (try (refine gate_guard (by rfl) ?_; dsimp only)); at_builtin; refine Kd.R_append_rows k38 (w0 := w8) w8.heap.size rfl (.tmp 112) (.tmp 113) 23 38 (.agg #[(.int .i64 0), (.int .i64 0)]) 16 rfl Try.underlying23 info38 rfl (by decide) (by omega) v10 ([] ++ lo) x _ _ _ (fun _ => True) (fun _ => False) rfl rfl HO10.out (Kd.C_below HCX8.out HK10.out) (fun _ _ h => h) (fun _ h => h.elim) (fun _ _ => trivial) HK10.out HK10.out.size (by simp only [List.length_append, List.length_nil]; omega) ?_; intro v11 w11 ho hb11 hg_ hn_; clear hg_ hn_; rw [HLX.out] at ho; obtain ⟨Az, cz, rfl⟩ := Kd.R_slice ho; have hr_ := Kd.R_reads' ho; clear ho; have hcz := hr_.2.1; have HCZ := Aside0.mk hr_.2.2; clear hr_; have HCY11 := Aside0.mk (Kd.C_below HCY8.out hb11); have HB11 : Below w.heap.size w w11 := below_mid HB8 hb11; clear hb11) | (go_at_call 11; (refine (types_calls HCY11.out hcy HCZ.out hcz (by omega) (q := true) (decide_eq_true rfl)).mono ?_); rintro e w13 ⟨rfl, hb13⟩; have HB13 : Below w.heap.size w w13 := below_mid HB11 hb13; clear hb13))
    go_ret
    exact ⟨rfl, HB13⟩
end Go.Proofs.Ytoiahldbahdaoaa.Flow
