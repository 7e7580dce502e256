/- The walk of flow.Step. -/
import Derived.Test.YtcfbhobpfnlkpaaJudgeFS
namespace Go.Proofs.Ytcfbhobpfnlkpaa.Flow
open Go.RowKit Go.Proofs.Ytcfbhobpfnlkpaa.QJudgeFound Go.Proofs.YtcfbhobpfnlkpaaW.PrintWords Go.Proofs.YtcfbhobpfnlkpaaW.PrintLast Go.Proofs.Ytcfbhobpfnlkpaa.Chain
set_option linter.unusedVariables false
set_option linter.unusedSimpArgs false
theorem cut_C {w : World} {A : Option Addr} {c : Nat} {l : List S39} (hl : Kd.C k39 w A l.length l) (hc : l.length ≤ c) {n : Nat} (hn : n ≤ l.length) (h1 : n ≠ c) : Kd.C k39 w (A.map fun x => x.add (n * 2)) (l.drop n).length (l.drop n) := by
  have h := Kd.C_drop hl hn hc
  rw [if_neg (fun h => h1 h.symm)] at h
  exact h
set_option maxHeartbeats 16000000 in
set_option maxRecDepth 100000 in
theorem step_calls (a : IA) (m : Im) (f pc : Int) (As : Option Addr) (cs : Nat) (st : List S39) (w : World) (hm : IC w a m) (hs : SaneP m) (hst : Kd.C k39 w As st.length st) (hsc : st.length ≤ cs) (hsl : st.length ≤ 100000) :
    Calls Try.prog 29 #[.agg #[.slice a.A0 m.c.length a.c0, .slice a.A1 m.s.length a.c1, .slice a.A2 m.n.length a.c2, .slice a.A3 m.m.length a.c3, .slice a.A4 m.e.length a.c4, .int .i64 m.sk, .int .i64 m.hp], .int .i64 f, .int .i64 pc, .slice As st.length cs] w fun e w' => ∃ va vn, e = .returned (.tuple #[va, vn, .int .i64 (stepV m f pc st).1]) ∧ RowT w' w.heap.size va (stepV m f pc st).2.1 ∧ RowI w' w.heap.size vn (stepV m f pc st).2.2 ∧ Below w.heap.size w w' := by
  obtain ⟨A0, A1, A2, A3, A4, c0, c1, c2, c3, c4⟩ := a
  by_cases hf0 : f < 0
  · have e : stepV m f pc st = (1, [], []) := if_pos (.inl hf0)
    rw [e]
    clear e
    go_enter Try.func29, Try.ntmps29
    go_wp2_with fail
    refine bodyPost_ret (results_tmp3 rfl _ _ _) rfl ?_
    exact ⟨_, _, rfl, RowT.nil _ _, RowI.nil _ _, bel⟩
  by_cases hf1 : (m.m.length : Int) ≤ f
  · have e : stepV m f pc st = (1, [], []) := if_pos (.inr (.inl hf1))
    rw [e]
    clear e
    go_enter Try.func29, Try.ntmps29
    go_wp2_with fail
    refine bodyPost_ret (results_tmp3 rfl _ _ _) rfl ?_
    exact ⟨_, _, rfl, RowT.nil _ _, RowI.nil _ _, bel⟩
  by_cases hp0 : pc < 0
  · have e : stepV m f pc st = (1, [], []) := if_pos (.inr (.inr (.inl hp0)))
    rw [e]
    clear e
    go_enter Try.func29, Try.ntmps29
    go_wp2_with fail
    refine bodyPost_ret (results_tmp3 rfl _ _ _) rfl ?_
    exact ⟨_, _, rfl, RowT.nil _ _, RowI.nil _ _, bel⟩
  have g0 : 0 ≤ f := by omega
  have g1 : f < (m.m.length : Int) := by omega
  obtain ⟨ae, F0, g0', F1, g1', F4, g4', F7, g7', hA3, y0, y1, y2, y3, y4, y5, y6, y7, z0, z1, z2, z3, z4, z5, z6, z7⟩ := at_T52 (show Kd.C k52 w A3 m.m.length m.m from hm.h3) f g0 g1
  subst hA3
  clear y0 y1 y2 y3 y5 y6 y7 z0 z1 z2 z3 z6 z7
  have HPM := Aside0.mk (hs.metP (rdM_mem (l := m.m) (i := f) g0 g1))
  have HM := Aside0.mk hm
  have HS := Aside0.mk hs
  have HT := Aside0.mk hst
  clear hm hs hst
  have ql := World.block_lt_of_cell? w _ y4
  have ql1 : (ae.add (f.toNat * 8)).block < w.heap.size + 1 := Nat.lt_succ_of_lt ql
  by_cases hp1 : ((rd_T52 m.m f).f3.length : Int) ≤ pc
  · have e : stepV m f pc st = (1, [], []) := if_pos (.inr (.inr (.inr hp1)))
    rw [e]
    clear e
    go_enter Try.func29, Try.ntmps29
    go_wp2_with fail
    refine bodyPost_ret (results_tmp3 rfl _ _ _) rfl ?_
    exact ⟨_, _, rfl, RowT.nil _ _, RowI.nil _ _, bel⟩
  obtain ⟨ai, hF4, i0, i1, i2⟩ := at_T49 z5 pc (by omega) (by omega)
  subst hF4
  clear z5 z4
  have hib := HPM.out.ib _ (rdI_mem (l := (rd_T52 m.m f).f3) (i := pc) (by omega) (by omega))
  have HNM := Aside0.mk (HPM.out.nm _ (rdI_mem (l := (rd_T52 m.m f).f3) (i := pc) (by omega) (by omega)))
  have hcl := HPM.out.c64
  clear HPM
  have e : stepV m f pc st = stepI m (rd_T52 m.m f) (rd_T49 (rd_T52 m.m f).f3 pc) pc st := if_neg (by omega)
  rw [e]
  clear e
  obtain ⟨X, hX⟩ : ∃ X, (rd_T52 m.m f).f3 = X := ⟨_, rfl⟩
  obtain ⟨⟨op, A, B⟩, hI⟩ : ∃ i, rd_T49 X pc = i := ⟨_, rfl⟩
  unfold stepI
  rw [hX] at y4 hp1 hcl HNM i0 i1 i2 hib ⊢
  rw [hI] at i0 i1 i2 hib HNM ⊢
  dsimp only at i0 i1 i2 hib HNM ⊢
  obtain ⟨b0, b1, b2, b3, b4, b5⟩ := hib
  have p0 : 0 ≤ pc := by omega
  have p1 : pc < (X.length : Int) := by omega
  clear hf0 hf1 hp0 hp1 hX hI
  have qi := World.block_lt_of_cell? w _ i0
  have qi1 : (ai.add (pc.toNat * 3)).block < w.heap.size + 1 := Nat.lt_succ_of_lt qi
  have hnl := nexts_len ⟨op, A, B⟩ pc
  obtain ⟨cn, hcn⟩ : ∃ b, decide ((X.length : Int) ∈ nextsV ⟨op, A, B⟩ pc) = b := ⟨_, rfl⟩
  cases cn with
  | true =>
    rw [if_pos (of_decide_eq_true hcn)]
    go_enter Try.func29, Try.ntmps29
    go_wp2_with (first | (go_at_call 47; (refine (nexts_c _ _ A B pc p0 (by omega)).mono ?_); rintro e w1 ⟨vn, rfl, hn, hb1⟩; obtain ⟨An, kn, rfl, hkn, hCn⟩ := hn.form; have HN1 := Aside0.mk hn; have HCn := Aside0.mk hCn; clear hn hCn; obtain ⟨hc1, hf1⟩ := bcell hb1; have hy1_0 : (ae.add (f.toNat * 8)).block < w1.heap.size := (lts hb1.size); have hz1_0 : w.heap.size < w1.heap.size := (lts hb1.size); have hz1_1 : w.heap.size + 1 < w1.heap.size := (lts hb1.size); have HB1 : Below w.heap.size w w1 := below_mid bel hb1; have y4_1 := keepc HB1 y4; have HC1 := Aside0.mk hb1; clear hb1) | (go_at_call 48; (refine (contains_c HCn.out hkn (by omega) _ hcn).mono ?_); rintro e w2 ⟨rfl, hb2⟩; obtain ⟨hc2, hf2⟩ := bcell hb2; have hy2_0 : (ae.add (f.toNat * 8)).block < w2.heap.size := (lts hb2.size); have hz2_0 : w.heap.size < w2.heap.size := (lts hb2.size); have hz2_1 : w.heap.size + 1 < w2.heap.size := (lts hb2.size); have HB2 : Below w.heap.size w w2 := below_mid bel hb2; have y4_2 := keepc HB2 y4; have HC2 := Aside0.mk hb2; clear hb2))
    refine bodyPost_ret (results_tmp3 rfl _ _ _) rfl ?_
    exact ⟨_, _, rfl, RowT.nil _ _, RowI.nil _ _, HB2⟩
  | false =>
    rw [if_neg (of_decide_eq_false hcn)]
    by_cases h6 : op = 6
    · subst h6
      rw [if_pos rfl]
      unfold dupV
      by_cases hd : st.length = 0
      · have d0 : ((st.length : Int) == 0) = true := by rw [hd]; rfl
        rw [if_pos (.inl hd)]
        go_enter Try.func29, Try.ntmps29
        go_wp2_with (first | (go_at_call 47; (refine (nexts_c _ _ A B pc p0 (by omega)).mono ?_); rintro e w1 ⟨vn, rfl, hn, hb1⟩; obtain ⟨An, kn, rfl, hkn, hCn⟩ := hn.form; have HN1 := Aside0.mk hn; have HCn := Aside0.mk hCn; clear hn hCn; obtain ⟨hc1, hf1⟩ := bcell hb1; have hy1_0 : (ae.add (f.toNat * 8)).block < w1.heap.size := (lts hb1.size); have hz1_0 : w.heap.size < w1.heap.size := (lts hb1.size); have hz1_1 : w.heap.size + 1 < w1.heap.size := (lts hb1.size); have HB1 : Below w.heap.size w w1 := below_mid bel hb1; have y4_1 := keepc HB1 y4; have HC1 := Aside0.mk hb1; clear hb1) | (go_at_call 48; (refine (contains_c HCn.out hkn (by omega) _ hcn).mono ?_); rintro e w2 ⟨rfl, hb2⟩; obtain ⟨hc2, hf2⟩ := bcell hb2; have hy2_0 : (ae.add (f.toNat * 8)).block < w2.heap.size := (lts hb2.size); have hz2_0 : w.heap.size < w2.heap.size := (lts hb2.size); have hz2_1 : w.heap.size + 1 < w2.heap.size := (lts hb2.size); have HB2 : Below w.heap.size w w2 := below_mid bel hb2; have y4_2 := keepc HB2 y4; have HC2 := Aside0.mk hb2; clear hb2))
        refine bodyPost_ret (results_tmp3 rfl _ _ _) rfl ?_
        exact ⟨_, _, rfl, RowT.nil _ _, RowI.nil _ _, HB2⟩
      have d0 : ((st.length : Int) == 0) = false := beq_eq_false_iff_ne.2 (by omega)
      by_cases h8 : 8 ≤ st.length
      · have d8 : decide (8 ≤ (st.length : Int)) = true := decide_eq_true (by omega)
        rw [if_pos (.inr h8)]
        go_enter Try.func29, Try.ntmps29
        go_wp2_with (first | (go_at_call 47; (refine (nexts_c _ _ A B pc p0 (by omega)).mono ?_); rintro e w1 ⟨vn, rfl, hn, hb1⟩; obtain ⟨An, kn, rfl, hkn, hCn⟩ := hn.form; have HN1 := Aside0.mk hn; have HCn := Aside0.mk hCn; clear hn hCn; obtain ⟨hc1, hf1⟩ := bcell hb1; have hy1_0 : (ae.add (f.toNat * 8)).block < w1.heap.size := (lts hb1.size); have hz1_0 : w.heap.size < w1.heap.size := (lts hb1.size); have hz1_1 : w.heap.size + 1 < w1.heap.size := (lts hb1.size); have HB1 : Below w.heap.size w w1 := below_mid bel hb1; have y4_1 := keepc HB1 y4; have HC1 := Aside0.mk hb1; clear hb1) | (go_at_call 48; (refine (contains_c HCn.out hkn (by omega) _ hcn).mono ?_); rintro e w2 ⟨rfl, hb2⟩; obtain ⟨hc2, hf2⟩ := bcell hb2; have hy2_0 : (ae.add (f.toNat * 8)).block < w2.heap.size := (lts hb2.size); have hz2_0 : w.heap.size < w2.heap.size := (lts hb2.size); have hz2_1 : w.heap.size + 1 < w2.heap.size := (lts hb2.size); have HB2 : Below w.heap.size w w2 := below_mid bel hb2; have y4_2 := keepc HB2 y4; have HC2 := Aside0.mk hb2; clear hb2))
        refine bodyPost_ret (results_tmp3 rfl _ _ _) rfl ?_
        exact ⟨_, _, rfl, RowT.nil _ _, RowI.nil _ _, HB2⟩
      have d8 : decide (8 ≤ (st.length : Int)) = false := decide_eq_false (by omega)
      rw [if_neg (by omega)]
      have HCD := Aside0.mk (cut_C HT.out hsc (n := st.length - 1) (by omega) (by omega))
      go_enter Try.func29, Try.ntmps29
      go_wp2_with (first | (go_at_call 47; (refine (nexts_c _ _ A B pc p0 (by omega)).mono ?_); rintro e w1 ⟨vn, rfl, hn, hb1⟩; obtain ⟨An, kn, rfl, hkn, hCn⟩ := hn.form; have HN1 := Aside0.mk hn; have HCn := Aside0.mk hCn; clear hn hCn; obtain ⟨hc1, hf1⟩ := bcell hb1; have hy1_0 : (ae.add (f.toNat * 8)).block < w1.heap.size := (lts hb1.size); have hz1_0 : w.heap.size < w1.heap.size := (lts hb1.size); have hz1_1 : w.heap.size + 1 < w1.heap.size := (lts hb1.size); have HB1 : Below w.heap.size w w1 := below_mid bel hb1; have y4_1 := keepc HB1 y4; have HC1 := Aside0.mk hb1; clear hb1) | (go_at_call 48; (refine (contains_c HCn.out hkn (by omega) _ hcn).mono ?_); rintro e w2 ⟨rfl, hb2⟩; obtain ⟨hc2, hf2⟩ := bcell hb2; have hy2_0 : (ae.add (f.toNat * 8)).block < w2.heap.size := (lts hb2.size); have hz2_0 : w.heap.size < w2.heap.size := (lts hb2.size); have hz2_1 : w.heap.size + 1 < w2.heap.size := (lts hb2.size); have HB2 : Below w.heap.size w w2 := below_mid bel hb2; have y4_2 := keepc HB2 y4; have HC2 := Aside0.mk hb2; clear hb2) | (go_at_call 49; (refine (concat2_c (x := st) (y := st.drop (st.length - 1)) (A1 := As) (c1 := cs) (c2 := cs - (st.length - 1)) (by rw [List.length_drop]; exact heap_alloc_new w2 _) (Kd.C_below HT.out bel) hsc (Kd.C_below HCD.out bel) (by rw [List.length_drop]; omega) (by omega) (by rw [List.length_drop]; omega)).mono ?_); rintro e w4 ⟨va, rfl, hra, hb4⟩; obtain ⟨hc4, hf4⟩ := bcell hb4; have hy4_0 : (ae.add (f.toNat * 8)).block < w4.heap.size := (lts hb4.size); have hz4_0 : w.heap.size < w4.heap.size := (lts hb4.size); have hz4_1 : w.heap.size + 1 < w4.heap.size := (lts hb4.size); have HB4 : Below w.heap.size w w4 := below_mid bel hb4; have y4_4 := keepc HB4 y4; have HC4 := Aside0.mk hb4; clear hb4))
      refine bodyPost_ret (results_tmp3 rfl _ _ _) rfl ?_
      exact ⟨_, _, rfl, hra.lower (by simp; omega), (((HN1.out.below HC2.out).alloc _).below HC4.out).lower (by simp; omega), HB4⟩
    · rw [if_neg h6]
      have d6 : (op == 6) = false := by simpa using h6
      unfold typesV
      have hlen := of_len (m := m) HS.out (x := rd_T52 m.m f) b0 b2 HNM.out
      obtain ⟨⟨I, O⟩, hio⟩ : ∃ io, ofV m (rd_T52 m.m f) op A B = io := ⟨_, rfl⟩
      rw [hio] at hlen ⊢
      dsimp only at hlen ⊢
      have HIO := Aside0.mk hio
      clear hio
      by_cases hlt : st.length < I.length
      · rw [if_pos (.inl hlt)]
        go_enter Try.func29, Try.ntmps29
        go_wp2_with (first | (go_at_call 47; (refine (nexts_c _ _ A B pc p0 (by omega)).mono ?_); rintro e w1 ⟨vn, rfl, hn, hb1⟩; obtain ⟨An, kn, rfl, hkn, hCn⟩ := hn.form; have HN1 := Aside0.mk hn; have HCn := Aside0.mk hCn; clear hn hCn; obtain ⟨hc1, hf1⟩ := bcell hb1; have hy1_0 : (ae.add (f.toNat * 8)).block < w1.heap.size := (lts hb1.size); have hz1_0 : w.heap.size < w1.heap.size := (lts hb1.size); have hz1_1 : w.heap.size + 1 < w1.heap.size := (lts hb1.size); have HB1 : Below w.heap.size w w1 := below_mid bel hb1; have y4_1 := keepc HB1 y4; have HC1 := Aside0.mk hb1; clear hb1) | (go_at_call 48; (refine (contains_c HCn.out hkn (by omega) _ hcn).mono ?_); rintro e w2 ⟨rfl, hb2⟩; obtain ⟨hc2, hf2⟩ := bcell hb2; have hy2_0 : (ae.add (f.toNat * 8)).block < w2.heap.size := (lts hb2.size); have hz2_0 : w.heap.size < w2.heap.size := (lts hb2.size); have hz2_1 : w.heap.size + 1 < w2.heap.size := (lts hb2.size); have HB2 : Below w.heap.size w w2 := below_mid bel hb2; have y4_2 := keepc HB2 y4; have HC2 := Aside0.mk hb2; clear hb2) | (go_at_call 50; (refine (of_calls _ m f op A B _ (HM.out.below bel) HS.out g0 g1 b0 (by omega) b2 (by omega) HNM.out).mono ?_); rintro e w3 ⟨vi, vo, rfl, hi, ho, hb3⟩; rw [HIO.out] at hi ho; dsimp only at hi ho; obtain ⟨Ai, ci, rfl, hci, hCi⟩ := hi.form; obtain ⟨Ao, co, rfl, hco, hCo⟩ := ho.form; have HCi := Aside0.mk hCi; have HCo := Aside0.mk hCo; clear hi ho hCi hCo; obtain ⟨hc3, hf3⟩ := bcell hb3; have hy3_0 : (ae.add (f.toNat * 8)).block < w3.heap.size := (lts hb3.size); have hz3_0 : w.heap.size < w3.heap.size := (lts hb3.size); have hz3_1 : w.heap.size + 1 < w3.heap.size := (lts hb3.size); have HB3 : Below w.heap.size w w3 := below_mid bel hb3; have y4_3 := keepc HB3 y4; have HC3 := Aside0.mk hb3; clear hb3))
        refine bodyPost_ret (results_tmp3 rfl _ _ _) rfl ?_
        exact ⟨_, _, rfl, RowT.nil _ _, RowI.nil _ _, bel⟩
      by_cases hmx : 8 < st.length - I.length + O.length
      · rw [if_pos (.inr hmx)]
        go_enter Try.func29, Try.ntmps29
        go_wp2_with (first | (go_at_call 47; (refine (nexts_c _ _ A B pc p0 (by omega)).mono ?_); rintro e w1 ⟨vn, rfl, hn, hb1⟩; obtain ⟨An, kn, rfl, hkn, hCn⟩ := hn.form; have HN1 := Aside0.mk hn; have HCn := Aside0.mk hCn; clear hn hCn; obtain ⟨hc1, hf1⟩ := bcell hb1; have hy1_0 : (ae.add (f.toNat * 8)).block < w1.heap.size := (lts hb1.size); have hz1_0 : w.heap.size < w1.heap.size := (lts hb1.size); have hz1_1 : w.heap.size + 1 < w1.heap.size := (lts hb1.size); have HB1 : Below w.heap.size w w1 := below_mid bel hb1; have y4_1 := keepc HB1 y4; have HC1 := Aside0.mk hb1; clear hb1) | (go_at_call 48; (refine (contains_c HCn.out hkn (by omega) _ hcn).mono ?_); rintro e w2 ⟨rfl, hb2⟩; obtain ⟨hc2, hf2⟩ := bcell hb2; have hy2_0 : (ae.add (f.toNat * 8)).block < w2.heap.size := (lts hb2.size); have hz2_0 : w.heap.size < w2.heap.size := (lts hb2.size); have hz2_1 : w.heap.size + 1 < w2.heap.size := (lts hb2.size); have HB2 : Below w.heap.size w w2 := below_mid bel hb2; have y4_2 := keepc HB2 y4; have HC2 := Aside0.mk hb2; clear hb2) | (go_at_call 50; (refine (of_calls _ m f op A B _ (HM.out.below bel) HS.out g0 g1 b0 (by omega) b2 (by omega) HNM.out).mono ?_); rintro e w3 ⟨vi, vo, rfl, hi, ho, hb3⟩; rw [HIO.out] at hi ho; dsimp only at hi ho; obtain ⟨Ai, ci, rfl, hci, hCi⟩ := hi.form; obtain ⟨Ao, co, rfl, hco, hCo⟩ := ho.form; have HCi := Aside0.mk hCi; have HCo := Aside0.mk hCo; clear hi ho hCi hCo; obtain ⟨hc3, hf3⟩ := bcell hb3; have hy3_0 : (ae.add (f.toNat * 8)).block < w3.heap.size := (lts hb3.size); have hz3_0 : w.heap.size < w3.heap.size := (lts hb3.size); have hz3_1 : w.heap.size + 1 < w3.heap.size := (lts hb3.size); have HB3 : Below w.heap.size w w3 := below_mid bel hb3; have y4_3 := keepc HB3 y4; have HC3 := Aside0.mk hb3; clear hb3))
        refine bodyPost_ret (results_tmp3 rfl _ _ _) rfl ?_
        exact ⟨_, _, rfl, RowT.nil _ _, RowI.nil _ _, bel⟩
      rw [if_neg (by omega)]
      obtain ⟨L, hL⟩ : ∃ L : Nat, (L : Int) = (st.length : Int) - (I.length : Int) := ⟨st.length - I.length, by omega⟩
      have hL' : st.length - I.length = L := by omega
      rw [hL']
      obtain ⟨R, hR⟩ : ∃ R, (if fitAll m.c op (st.drop L) I = true then ((0 : Int), st.take L ++ O, nextsV ⟨op, A, B⟩ pc) else (4, [], [])) = R := ⟨_, rfl⟩
      rw [hR]
      have HRR := Aside0.mk hR
      clear hR
      go_enter Try.func29, Try.ntmps29
      go_wp2_with (first | (go_at_call 47; (refine (nexts_c _ _ A B pc p0 (by omega)).mono ?_); rintro e w1 ⟨vn, rfl, hn, hb1⟩; obtain ⟨An, kn, rfl, hkn, hCn⟩ := hn.form; have HN1 := Aside0.mk hn; have HCn := Aside0.mk hCn; clear hn hCn; obtain ⟨hc1, hf1⟩ := bcell hb1; have hy1_0 : (ae.add (f.toNat * 8)).block < w1.heap.size := (lts hb1.size); have hz1_0 : w.heap.size < w1.heap.size := (lts hb1.size); have hz1_1 : w.heap.size + 1 < w1.heap.size := (lts hb1.size); have HB1 : Below w.heap.size w w1 := below_mid bel hb1; have y4_1 := keepc HB1 y4; have HC1 := Aside0.mk hb1; clear hb1) | (go_at_call 48; (refine (contains_c HCn.out hkn (by omega) _ hcn).mono ?_); rintro e w2 ⟨rfl, hb2⟩; obtain ⟨hc2, hf2⟩ := bcell hb2; have hy2_0 : (ae.add (f.toNat * 8)).block < w2.heap.size := (lts hb2.size); have hz2_0 : w.heap.size < w2.heap.size := (lts hb2.size); have hz2_1 : w.heap.size + 1 < w2.heap.size := (lts hb2.size); have HB2 : Below w.heap.size w w2 := below_mid bel hb2; have y4_2 := keepc HB2 y4; have HC2 := Aside0.mk hb2; clear hb2) | (go_at_call 50; (refine (of_calls _ m f op A B _ (HM.out.below bel) HS.out g0 g1 b0 (by omega) b2 (by omega) HNM.out).mono ?_); rintro e w3 ⟨vi, vo, rfl, hi, ho, hb3⟩; rw [HIO.out] at hi ho; dsimp only at hi ho; obtain ⟨Ai, ci, rfl, hci, hCi⟩ := hi.form; obtain ⟨Ao, co, rfl, hco, hCo⟩ := ho.form; have HCi := Aside0.mk hCi; have HCo := Aside0.mk hCo; clear hi ho hCi hCo; obtain ⟨hc3, hf3⟩ := bcell hb3; have hy3_0 : (ae.add (f.toNat * 8)).block < w3.heap.size := (lts hb3.size); have hz3_0 : w.heap.size < w3.heap.size := (lts hb3.size); have hz3_1 : w.heap.size + 1 < w3.heap.size := (lts hb3.size); have HB3 : Below w.heap.size w w3 := below_mid bel hb3; have y4_3 := keepc HB3 y4; have HC3 := Aside0.mk hb3; clear hb3))
      rw [← hL]
      refine see (F := fun w0_ => Below w.heap.size w w0_ ∧ w0_.heap[w.heap.size]? = some (.cells #[.slice A0 m.c.length c0, .slice A1 m.s.length c1, .slice A2 m.n.length c2, .slice (some ae) m.m.length c3, .slice A4 m.e.length c4, .int .i64 m.sk, .int .i64 m.hp] 28 (0, 0)) ∧ w0_.heap[w.heap.size + 1]? = some (.cells #[.int .i64 op, .int .i64 A, .int .i64 B] 49 (0, 0)) ∧ w0_.heap[w3.heap.size]? = some (.cells #[.slice Ai I.length ci, .slice Ao O.length co] 92 (0, 0)) ∧ RowI w0_ w.heap.size (.slice An (nextsV ⟨op, A, B⟩ pc).length kn) (nextsV ⟨op, A, B⟩ pc) ∧ Kd.C k39 w0_ Ai I.length I ∧ Kd.C k39 w0_ Ao O.length O) _ ⟨bel, (blk_alloc (blk_below (blk_below (blk_below (blk2 w _ _).1 HC1.out) HC2.out) HC3.out) _), (blk_alloc (blk_below (blk_below (blk_below (blk2 w _ _).2 HC1.out) HC2.out) HC3.out) _), heap_alloc_new w3 _, ((((HN1.out.below HC2.out).below HC3.out).alloc _).lower (B' := w.heap.size) (by simp; omega)), (Kd.C_alloc HCi.out _), (Kd.C_alloc HCo.out _)⟩ ?_
      rintro w0 ⟨hb0, hx0, hx1, hx2, hnx, hci0, hco0⟩
      have HB0 := Aside0.mk hb0
      have HX0 := Aside0.mk hx0
      have HX1 := Aside0.mk hx1
      have HX2 := Aside0.mk hx2
      have HNX := Aside0.mk hnx
      have HI0 := Aside0.mk hci0
      have HO0 := Aside0.mk hco0
      clear hb0 hx0 hx1 hx2 hnx hci0 hco0 HCi HCo HN1 HCn hc1 hf1 hc2 hf2 hc3 hf3 HC1 HC2 HC3 HB1 HB2 HB3 y4_1 y4_2 y4_3 hy1_0 hy2_0 hy3_0 hz1_0 hz1_1 hz2_0 hz2_1 hz3_0 hz3_1 i0 i1 i2 y4 hcn d6
      have hLI1 : L + I.length ≤ st.length := by omega
      have hLI2 : st.length ≤ L + I.length := by omega
      have hLO : L + O.length ≤ 8 := by omega
      clear hL hL' hlt hmx
      go_loopg [9, 104] (I.length + 1) (fun kq v9 v104 w' => ∃ k : Nat, v9 = .slice An (nextsV ⟨op, A, B⟩ pc).length kn ∧ v104 = .int .i64 (k : Int) ∧ Aside0 (k ≤ I.length) ∧ Aside0 (k + kq = I.length + 1) ∧ Aside0 (∀ j (h : j < I.length) (h' : L + j < st.length), j < k → fitsV m.c op st[L + j] I[j] = true) ∧ Aside0 (Below w0.heap.size w0 w'))
      case atStart => exact ⟨0, rfl, rfl, ⟨Nat.zero_le _⟩, ⟨by omega⟩, ⟨fun j _ _ hj => by omega⟩, ⟨Below.refl _ _⟩⟩
      case round =>
        obtain ⟨k, rfl, rfl, HK, HKQ, HP, HL⟩ := hrel
        have hlw : Below w0.heap.size w0 wr := HL.out
        have hbw : Below w.heap.size w wr := below_mid HB0.out HL.out
        have HXW := Aside0.mk (blk_below HX0.out HL.out)
        have HIW := Aside0.mk (blk_below HX1.out HL.out)
        have HEW := Aside0.mk (blk_below HX2.out HL.out)
        cases gk with
        | zero => exact absurd HK.out (by have := HKQ.out; omega)
        | succ k1 =>
          by_cases hk : k < I.length
          · obtain ⟨ad, hAi, q0, q1⟩ := at_T39 (Kd.C_below HI0.out HL.out) (k : Int) (by omega) (by omega)
            subst hAi
            simp only [Int.toNat_natCast] at q0 q1
            rw [tt hk] at q0 q1
            have hls : L + k < st.length := by omega
            obtain ⟨asd, hAs, s0, s1⟩ := at_T39 (Kd.C_below HT.out hbw) ((L : Int) + (k : Int)) (by omega) (by omega)
            subst hAs
            have hsn : ((L : Int) + (k : Int)).toNat = L + k := by omega
            rw [hsn, show (L : Int) + (k : Int) = ((L + k : Nat) : Int) by omega, tt hls] at s0 s1
            clear hsn
            obtain ⟨n, hn⟩ : ∃ n, n = L + k := ⟨_, rfl⟩
            have e4 : IntKind.i64.wrap ((L : Int) + (k : Int)) = (n : Int) := by rw [hn]; exact IntWalk.i64_in _ (by omega)
            simp only [← hn] at s0 s1 hls
            obtain ⟨p, hp⟩ : ∃ p, fitsV m.c op st[n] I[k] = p := ⟨_, rfl⟩
            have HPP := Aside0.mk hp
            clear hp
            obtain ⟨⟨h0, h1⟩, hh⟩ : ∃ x, st[n] = x := ⟨_, rfl⟩
            obtain ⟨⟨t0, t1⟩, ht⟩ : ∃ x, I[k] = x := ⟨_, rfl⟩
            rw [hh] at s0 s1
            rw [ht] at q0 q1
            dsimp only at s0 s1 q0 q1
            have HPQ := Aside0.mk (show fitsV m.c op ⟨h0, h1⟩ ⟨t0, t1⟩ = p from by rw [← hh, ← ht]; exact HPP.out)
            clear hh ht
            have HN := Aside0.mk hn
            clear hn
            go_wp2_with fail
            refine see (F := fun w0_ => Below wr.heap.size wr w0_ ∧ w0_.cell? ⟨w.heap.size, 0, none⟩ = some (.slice A0 m.c.length c0) ∧ w0_.cell? ⟨w.heap.size, 1, none⟩ = some (.slice A1 m.s.length c1) ∧ w0_.cell? ⟨w.heap.size, 2, none⟩ = some (.slice A2 m.n.length c2) ∧ w0_.cell? ⟨w.heap.size, 3, none⟩ = some (.slice (some ae) m.m.length c3) ∧ w0_.cell? ⟨w.heap.size, 4, none⟩ = some (.slice A4 m.e.length c4) ∧ w0_.cell? ⟨w.heap.size, 5, none⟩ = some (.int .i64 m.sk) ∧ w0_.cell? ⟨w.heap.size, 6, none⟩ = some (.int .i64 m.hp) ∧ w0_.cell? ⟨w.heap.size + 1, 0, none⟩ = some (.int .i64 op) ∧ w0_.cell? (asd.add (n * 2)) = some (.int .i64 h0) ∧ w0_.cell? ⟨(asd.add (n * 2)).block, (asd.add (n * 2)).off + 1, none⟩ = some (.int .i64 h1) ∧ w0_.cell? ⟨wr.heap.size, 0, none⟩ = some (.int .i64 t0) ∧ w0_.cell? ⟨wr.heap.size, 1, none⟩ = some (.int .i64 t1)) _ ⟨bel, (blk_cell (blk_alloc HXW.out _) 0).trans rfl, (blk_cell (blk_alloc HXW.out _) 1).trans rfl, (blk_cell (blk_alloc HXW.out _) 2).trans rfl, (blk_cell (blk_alloc HXW.out _) 3).trans rfl, (blk_cell (blk_alloc HXW.out _) 4).trans rfl, (blk_cell (blk_alloc HXW.out _) 5).trans rfl, (blk_cell (blk_alloc HXW.out _) 6).trans rfl, (blk_cell (blk_alloc HIW.out _) 0).trans rfl, keepc (below_alloc (Below.refl _ _) _) s0, keepc (below_alloc (Below.refl _ _) _) s1, (blk_cell (heap_alloc_new wr _) 0).trans rfl, (blk_cell (heap_alloc_new wr _) 1).trans rfl⟩ ?_
            rintro w4 ⟨hb4_, hq1_, hq2_, hq3_, hq4_, hq5_, hq6_, hq7_, hq8_, hq9_, hq10_, hq11_, hq12_⟩
            replace hb4_ := Aside0.mk hb4_
            replace hq1_ := Aside0.mk hq1_
            replace hq2_ := Aside0.mk hq2_
            replace hq3_ := Aside0.mk hq3_
            replace hq4_ := Aside0.mk hq4_
            replace hq5_ := Aside0.mk hq5_
            replace hq6_ := Aside0.mk hq6_
            replace hq7_ := Aside0.mk hq7_
            replace hq8_ := Aside0.mk hq8_
            replace hq9_ := Aside0.mk hq9_
            replace hq10_ := Aside0.mk hq10_
            replace hq11_ := Aside0.mk hq11_
            replace hq12_ := Aside0.mk hq12_
            have e1 : (n : Int) < (st.length : Int) := by omega
            have hbz : Below w.heap.size w w4 := below_mid hbw hb4_.out
            have HBZ := Aside0.mk hbz
            cases p with
            | true =>
              have KP := Aside0.mk (show ∀ w', Below w4.heap.size w4 w' → (w'.cell? ⟨w.heap.size, 0, none⟩ = some (.slice A0 m.c.length c0) ∧ w'.cell? ⟨w.heap.size, 1, none⟩ = some (.slice A1 m.s.length c1) ∧ w'.cell? ⟨w.heap.size, 2, none⟩ = some (.slice A2 m.n.length c2) ∧ w'.cell? ⟨w.heap.size, 3, none⟩ = some (.slice (some ae) m.m.length c3) ∧ w'.cell? ⟨w.heap.size, 4, none⟩ = some (.slice A4 m.e.length c4) ∧ w'.cell? ⟨w.heap.size, 5, none⟩ = some (.int .i64 m.sk) ∧ w'.cell? ⟨w.heap.size, 6, none⟩ = some (.int .i64 m.hp) ∧ w'.cell? ⟨w.heap.size + 1, 0, none⟩ = some (.int .i64 op) ∧ w'.cell? (asd.add (n * 2)) = some (.int .i64 h0) ∧ w'.cell? ⟨(asd.add (n * 2)).block, (asd.add (n * 2)).off + 1, none⟩ = some (.int .i64 h1) ∧ w'.cell? ⟨wr.heap.size, 0, none⟩ = some (.int .i64 t0) ∧ w'.cell? ⟨wr.heap.size, 1, none⟩ = some (.int .i64 t1)) from fun w' h => ⟨keepc h hq1_.out, keepc h hq2_.out, keepc h hq3_.out, keepc h hq4_.out, keepc h hq5_.out, keepc h hq6_.out, keepc h hq7_.out, keepc h hq8_.out, keepc h hq9_.out, keepc h hq10_.out, keepc h hq11_.out, keepc h hq12_.out⟩)
              go_region_held3 (fun w' => w'.cell? ⟨w.heap.size, 0, none⟩ = some (.slice A0 m.c.length c0) ∧ w'.cell? ⟨w.heap.size, 1, none⟩ = some (.slice A1 m.s.length c1) ∧ w'.cell? ⟨w.heap.size, 2, none⟩ = some (.slice A2 m.n.length c2) ∧ w'.cell? ⟨w.heap.size, 3, none⟩ = some (.slice (some ae) m.m.length c3) ∧ w'.cell? ⟨w.heap.size, 4, none⟩ = some (.slice A4 m.e.length c4) ∧ w'.cell? ⟨w.heap.size, 5, none⟩ = some (.int .i64 m.sk) ∧ w'.cell? ⟨w.heap.size, 6, none⟩ = some (.int .i64 m.hp) ∧ w'.cell? ⟨w.heap.size + 1, 0, none⟩ = some (.int .i64 op) ∧ w'.cell? (asd.add (n * 2)) = some (.int .i64 h0) ∧ w'.cell? ⟨(asd.add (n * 2)).block, (asd.add (n * 2)).off + 1, none⟩ = some (.int .i64 h1) ∧ w'.cell? ⟨wr.heap.size, 0, none⟩ = some (.int .i64 t0) ∧ w'.cell? ⟨wr.heap.size, 1, none⟩ = some (.int .i64 t1)) (((try dsimp only); first | exact KP.out _ (by assumption) | exact KP.out _ (Below.drew (Below.refl _ _)) | exact KP.out _ (below_alloc (by assumption) _) | exact KP.out _ (below_alloc (Below.refl _ _) _) | exact KP.out _ (below_alloc (below_alloc (Below.refl _ _) _) _) | exact KP.out _ (below_drew (below_alloc (Below.refl _ _) _)) | exact KP.out _ (below_drew (below_alloc (below_alloc (Below.refl _ _) _) _)) | exact KP.out _ (below_drew (below_alloc (by assumption) _)))) (first | ((try go_simp); go_at_call 51; (refine (fits1_c (m := m) (HM.out.below (below_mid (below_mid hbw hb4_.out) (by first | exact Below.drew (Below.refl _ _) | assumption))) op ⟨h0, h1⟩ ⟨t0, t1⟩ HPQ.out).mono ?_); rintro e w5 ⟨rfl, hb5⟩; have HB5 : Below w4.heap.size w4 w5 := below_step (by first | exact Below.drew (Below.refl _ _) | assumption) hb5; clear hb5))
              go_wp2_with fail
              go_roundg k1
              case measure => have := HKQ.out; omega
              case rel =>
                refine ⟨k + 1, rfl, by go_num, ⟨by omega⟩, ⟨by have := HKQ.out; omega⟩, ⟨fun j h h' hj => ?_⟩, ⟨below_step (below_step HL.out hb4_.out) (by first | exact HB5 | assumption)⟩⟩
                rcases Nat.lt_or_ge j k with h9 | h9
                · exact HP.out j h h' h9
                · obtain rfl : j = k := by omega
                  have := HPP.out
                  simp only [HN.out] at this
                  exact this
            | false =>
              have HFF := Aside0.mk (show fitAll m.c op (st.drop L) I = false from by
                cases hfa : fitAll m.c op (st.drop L) I with
                | false => rfl
                | true =>
                  have h9 := (fitAll_iff (by rw [List.length_drop]; omega)).1 hfa k (by rw [List.length_drop]; omega) hk
                  rw [List.getElem_drop] at h9
                  have := HPP.out
                  simp only [HN.out] at this
                  rw [this] at h9
                  cases h9)
              have HRE := Aside0.mk (show R = (4, [], []) from by rw [← HRR.out, HFF.out]; rfl)
              have KP := Aside0.mk (show ∀ w', Below w4.heap.size w4 w' → (w'.cell? ⟨w.heap.size, 0, none⟩ = some (.slice A0 m.c.length c0) ∧ w'.cell? ⟨w.heap.size, 1, none⟩ = some (.slice A1 m.s.length c1) ∧ w'.cell? ⟨w.heap.size, 2, none⟩ = some (.slice A2 m.n.length c2) ∧ w'.cell? ⟨w.heap.size, 3, none⟩ = some (.slice (some ae) m.m.length c3) ∧ w'.cell? ⟨w.heap.size, 4, none⟩ = some (.slice A4 m.e.length c4) ∧ w'.cell? ⟨w.heap.size, 5, none⟩ = some (.int .i64 m.sk) ∧ w'.cell? ⟨w.heap.size, 6, none⟩ = some (.int .i64 m.hp) ∧ w'.cell? ⟨w.heap.size + 1, 0, none⟩ = some (.int .i64 op) ∧ w'.cell? (asd.add (n * 2)) = some (.int .i64 h0) ∧ w'.cell? ⟨(asd.add (n * 2)).block, (asd.add (n * 2)).off + 1, none⟩ = some (.int .i64 h1) ∧ w'.cell? ⟨wr.heap.size, 0, none⟩ = some (.int .i64 t0) ∧ w'.cell? ⟨wr.heap.size, 1, none⟩ = some (.int .i64 t1)) from fun w' h => ⟨keepc h hq1_.out, keepc h hq2_.out, keepc h hq3_.out, keepc h hq4_.out, keepc h hq5_.out, keepc h hq6_.out, keepc h hq7_.out, keepc h hq8_.out, keepc h hq9_.out, keepc h hq10_.out, keepc h hq11_.out, keepc h hq12_.out⟩)
              go_region_held3 (fun w' => w'.cell? ⟨w.heap.size, 0, none⟩ = some (.slice A0 m.c.length c0) ∧ w'.cell? ⟨w.heap.size, 1, none⟩ = some (.slice A1 m.s.length c1) ∧ w'.cell? ⟨w.heap.size, 2, none⟩ = some (.slice A2 m.n.length c2) ∧ w'.cell? ⟨w.heap.size, 3, none⟩ = some (.slice (some ae) m.m.length c3) ∧ w'.cell? ⟨w.heap.size, 4, none⟩ = some (.slice A4 m.e.length c4) ∧ w'.cell? ⟨w.heap.size, 5, none⟩ = some (.int .i64 m.sk) ∧ w'.cell? ⟨w.heap.size, 6, none⟩ = some (.int .i64 m.hp) ∧ w'.cell? ⟨w.heap.size + 1, 0, none⟩ = some (.int .i64 op) ∧ w'.cell? (asd.add (n * 2)) = some (.int .i64 h0) ∧ w'.cell? ⟨(asd.add (n * 2)).block, (asd.add (n * 2)).off + 1, none⟩ = some (.int .i64 h1) ∧ w'.cell? ⟨wr.heap.size, 0, none⟩ = some (.int .i64 t0) ∧ w'.cell? ⟨wr.heap.size, 1, none⟩ = some (.int .i64 t1)) (((try dsimp only); first | exact KP.out _ (by assumption) | exact KP.out _ (Below.drew (Below.refl _ _)) | exact KP.out _ (below_alloc (by assumption) _) | exact KP.out _ (below_alloc (Below.refl _ _) _) | exact KP.out _ (below_alloc (below_alloc (Below.refl _ _) _) _) | exact KP.out _ (below_drew (below_alloc (Below.refl _ _) _)) | exact KP.out _ (below_drew (below_alloc (below_alloc (Below.refl _ _) _) _)) | exact KP.out _ (below_drew (below_alloc (by assumption) _)))) (first | ((try go_simp); go_at_call 51; (refine (fits1_c (m := m) (HM.out.below (below_mid (below_mid hbw hb4_.out) (by first | exact Below.drew (Below.refl _ _) | assumption))) op ⟨h0, h1⟩ ⟨t0, t1⟩ HPQ.out).mono ?_); rintro e w5 ⟨rfl, hb5⟩; have HB5 : Below w4.heap.size w4 w5 := below_step (by first | exact Below.drew (Below.refl _ _) | assumption) hb5; clear hb5))
              go_wp2_with fail
              rw [HRE.out]
              refine bodyPost_ret (results_tmp3 rfl _ _ _) rfl ?_
              exact ⟨_, _, rfl, RowT.nil _ _, RowI.nil _ _, below_step HBZ.out (by first | exact HB5 | assumption)⟩
          · have hke : k = I.length := by have := HK.out; omega
            subst hke
            have HRE := Aside0.mk (show R = (0, st.take L ++ O, nextsV ⟨op, A, B⟩ pc) from by
              rw [← HRR.out, if_pos ((fitAll_iff (by rw [List.length_drop]; omega)).2 (fun j h h' => by
                rw [List.getElem_drop]
                exact HP.out j h' (by omega) h'))])
            clear HP hk
            go_wp2_with fail
            refine see (F := fun w0_ => Below wr.heap.size wr w0_ ∧ w0_.cell? ⟨w3.heap.size, 1, none⟩ = some (.slice Ao O.length co)) _ ⟨bel, (blk_cell HEW.out 1).trans rfl⟩ ?_
            rintro w6 ⟨hb6_, hq1_⟩
            replace hb6_ := Aside0.mk hb6_
            replace hq1_ := Aside0.mk hq1_
            have hL1 : L ≤ st.length := by omega
            have hL2 : L ≤ cs := by omega
            have hL3 : (L : Int) ≤ (cs : Int) := by omega
            have HTL := Aside0.mk (take_C HT.out hL1)
            have KP := Aside0.mk (show ∀ w', Below w6.heap.size w6 w' → (w'.cell? ⟨w3.heap.size, 1, none⟩ = some (.slice Ao O.length co)) from fun w' h => keepc h hq1_.out)
            go_region_held3 (fun w' => w'.cell? ⟨w3.heap.size, 1, none⟩ = some (.slice Ao O.length co)) (((try dsimp only); first | exact KP.out _ (by assumption) | exact KP.out _ (Below.drew (Below.refl _ _)) | exact KP.out _ (below_alloc (by assumption) _) | exact KP.out _ (below_alloc (Below.refl _ _) _) | exact KP.out _ (below_alloc (below_alloc (Below.refl _ _) _) _) | exact KP.out _ (below_drew (below_alloc (Below.refl _ _) _)) | exact KP.out _ (below_drew (below_alloc (below_alloc (Below.refl _ _) _) _)) | exact KP.out _ (below_drew (below_alloc (by assumption) _)))) (first | ((try go_simp); go_at_call 49; (refine (concat2_c' (x := st.take L) (y := O) (heap_alloc_at _ _ _ rfl) (by rw [List.length_take]; omega) rfl (Kd.C_below HTL.out (below_mid (below_mid hbw hb6_.out) (by first | exact Below.refl _ _ | exact Below.drew (Below.refl _ _) | assumption | exact below_alloc (Below.drew (Below.refl _ _)) _ | exact below_alloc (by assumption) _))) hL2 (Kd.C_below HO0.out (below_step (below_step HL.out hb6_.out) (by first | exact Below.refl _ _ | exact Below.drew (Below.refl _ _) | assumption | exact below_alloc (Below.drew (Below.refl _ _)) _ | exact below_alloc (by assumption) _))) hco (by omega) (by omega)).mono ?_); rintro e w7 ⟨va, rfl, hra, hb7⟩; have HB7 : Below w6.heap.size w6 w7 := below_step (by first | exact Below.refl _ _ | exact Below.drew (Below.refl _ _) | assumption | exact below_alloc (Below.drew (Below.refl _ _)) _ | exact below_alloc (by assumption) _) hb7; have HRA := Aside0.mk hra; clear hra hb7))
            go_wp2_with fail
            rw [HRE.out]
            refine bodyPost_ret (results_tmp3 rfl _ _ _) rfl ?_
            have hz6 := (below_mid hbw hb6_.out).size
            exact ⟨_, _, rfl, HRA.out.lower (by (try simp); omega), ((HNX.out.below HL.out).below hb6_.out).below HB7, below_step (below_mid hbw hb6_.out) HB7⟩
end Go.Proofs.Ytcfbhobpfnlkpaa.Flow
