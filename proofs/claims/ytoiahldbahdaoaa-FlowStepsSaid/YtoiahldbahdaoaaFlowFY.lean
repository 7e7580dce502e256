/- The walk of the reference's step. -/
import Derived.Test.YtoiahldbahdaoaaFlowFX
import Derived.Test.YtoiahldbahdaoaaFlowFZ
namespace Go.Proofs.Ytoiahldbahdaoaa.Flow
open Go.RowKit Go.Proofs.Ytoiahldbahdaoaa.QFlowSteps Go.Proofs.YtoiahldbahdaoaaW.PrintWords Go.Proofs.YtoiahldbahdaoaaW.PrintLast Go.Proofs.Ytoiahldbahdaoaa.Chain
set_option linter.unusedVariables false
set_option linter.unusedSimpArgs false
section
variable {m : Im} {x : S41} {i : S44} {pc : Int} {st I O : List S38}
theorem stepI_next (h : (x.f3.length : Int) ∈ nextsV i pc) : stepI m x i pc st = (4, [], []) := if_pos h
theorem stepI_dup (h : ¬ (x.f3.length : Int) ∈ nextsV i pc) (h6 : i.f0 = 6) : stepI m x i pc st = dupV st (nextsV i pc) := (if_neg h).trans (if_pos h6)
theorem stepI_not (h : ¬ (x.f3.length : Int) ∈ nextsV i pc) (h6 : i.f0 ≠ 6) (hio : ofV m x i.f0 i.f1 i.f2 = (I, O)) : stepI m x i pc st = typesV m i.f0 (I, O) st (nextsV i pc) := by
  rw [← hio]
  exact (if_neg h).trans (if_neg h6)
theorem typesV_bad {op : Int} {nx : List Int} (h : st.length < I.length ∨ 8 < st.length - I.length + O.length) : typesV m op (I, O) st nx = (4, [], []) := if_pos h
theorem typesV_unfit {op : Int} {nx : List Int} (h : fitAll m.c op (st.drop (st.length - I.length)) I = false) : typesV m op (I, O) st nx = (4, [], []) := by
  unfold typesV
  split
  · rfl
  · dsimp only
    rw [h]
    rfl
theorem typesV_ok {op : Int} {nx : List Int} (h0 : ¬ (st.length < I.length ∨ 8 < st.length - I.length + O.length)) (h : fitAll m.c op (st.drop (st.length - I.length)) I = true) : typesV m op (I, O) st nx = (0, st.take (st.length - I.length) ++ O, nx) := by
  unfold typesV
  dsimp only
  rw [if_neg h0, if_pos h]
theorem dupV_bad {nx : List Int} (h : st.length = 0 ∨ 8 ≤ st.length) : dupV st nx = (4, [], []) := if_pos h
theorem dupV_ok {nx : List Int} {L : Nat} {t : S38} (h : st.length < 8) (hL : L + 1 = st.length) (ht : rd_T38 st (L : Int) = t) : dupV st nx = (0, st.take L ++ [t, t], nx) := by
  have h1 : L < st.length := by omega
  rw [tt h1] at ht
  have h2 : st.drop L = [t] := by
    rw [List.drop_eq_getElem_cons h1, List.drop_eq_nil_of_le (by omega), ht]
  have h3 : st.length - 1 = L := by omega
  unfold dupV
  rw [if_neg (by omega), h3, h2]
  have h4 : st ++ [t] = st.take L ++ [t, t] := by
    conv => lhs; rw [← List.take_append_drop L st, h2]
    rw [List.append_assoc]
    rfl
  rw [h4]
theorem fitAll_any {cs : List S80} {op : Int} : ∀ a : List S38, fitAll cs op a [⟨0, 0⟩] = true
  | [] => rfl
  | x :: a => by
    unfold fitAll
    rw [Bool.and_eq_true]
    exact ⟨rfl, by cases a <;> rfl⟩
theorem one_repsT (w : World) (base : Nat) (ok : Nat → Prop) (t : S38) : Reps (k38.M w base ok) 2 [t] [.int .i64 t.f0, .int .i64 t.f1] :=
  (Reps.none (k38.M w base ok) 2).snoc (p := t) (c := [.int .i64 t.f0, .int .i64 t.f1]) (k38_mkM w base ok t) rfl
theorem two_repsT (w : World) (base : Nat) (ok : Nat → Prop) (t : S38) : Reps (k38.M w base ok) 2 [t, t] [.int .i64 t.f0, .int .i64 t.f1, .int .i64 t.f0, .int .i64 t.f1] :=
  (one_repsT w base ok t).snoc (p := t) (c := [.int .i64 t.f0, .int .i64 t.f1]) (k38_mkM w base ok t) rfl
end
set_option maxHeartbeats 16000000 in
set_option maxRecDepth 100000 in
theorem rstep_calls (a : IA) (m : Im) (f pc : Int) (As : Option Addr) (cs : Nat) (st : List S38) (w : World) (hm : IC w a m) (hs : SaneP m) (hst : Kd.C k38 w As st.length st) (hsc : st.length ≤ cs) (hsl : st.length ≤ 1000) :
    Calls Try.prog 10 #[.agg #[.slice a.A0 m.c.length a.c0, .slice a.A1 m.s.length a.c1, .slice a.A2 m.n.length a.c2, .slice a.A3 m.m.length a.c3, .slice a.A4 m.e.length a.c4, .int .i64 m.sk, .int .i64 m.hp], .int .i64 f, .int .i64 pc, .slice As st.length cs] w fun e w' => ∃ va vn, e = .returned (.tuple #[va, vn, .int .i64 (stepV m f pc st).1]) ∧ RowT w' 0 va (stepV m f pc st).2.1 ∧ RowI w' 0 vn (stepV m f pc st).2.2 ∧ Below w.heap.size w w' := by
  obtain ⟨A0, A1, A2, A3, A4, c0, c1, c2, c3, c4⟩ := a
  by_cases hf0 : f < 0
  · have e : stepV m f pc st = (1, [], []) := if_pos (.inl hf0)
    rw [e]
    clear e
    go_enter Try.func10, Try.ntmps10
    go_wp2_with fail
    refine bodyPost_ret (results_tmp3 rfl _ _ _) rfl ?_
    exact ⟨_, _, rfl, RowT.nil _ _, RowI.nil _ _, bel⟩
  by_cases hf1 : (m.m.length : Int) ≤ f
  · have e : stepV m f pc st = (1, [], []) := if_pos (.inr (.inl hf1))
    rw [e]
    clear e
    go_enter Try.func10, Try.ntmps10
    go_wp2_with fail
    refine bodyPost_ret (results_tmp3 rfl _ _ _) rfl ?_
    exact ⟨_, _, rfl, RowT.nil _ _, RowI.nil _ _, bel⟩
  by_cases hp0 : pc < 0
  · have e : stepV m f pc st = (1, [], []) := if_pos (.inr (.inr (.inl hp0)))
    rw [e]
    clear e
    go_enter Try.func10, Try.ntmps10
    go_wp2_with fail
    refine bodyPost_ret (results_tmp3 rfl _ _ _) rfl ?_
    exact ⟨_, _, rfl, RowT.nil _ _, RowI.nil _ _, bel⟩
  have g0 : 0 ≤ f := by omega
  have g1 : f < (m.m.length : Int) := by omega
  obtain ⟨ae, F0, g0', F1, g1', F4, g4', F7, g7', hA3, y0, y1, y2, y3, y4, y5, y6, y7, z0, z1, z2, z3, z4, z5, z6, z7⟩ := at_T41 (show Kd.C k41 w A3 m.m.length m.m from hm.h3) f g0 g1
  subst hA3
  clear y0 y1 y2 y3 y5 y6 y7 z0 z1 z2 z3 z6 z7
  have HPM := Aside0.mk (hs.metP (rdM_mem (l := m.m) (i := f) g0 g1))
  have HM := Aside0.mk hm
  have HS := Aside0.mk hs
  have HT := Aside0.mk hst
  clear hm hs hst
  have ql := World.block_lt_of_cell? w _ y4
  have ql1 : (ae.add (f.toNat * 8)).block < w.heap.size + 1 := Nat.lt_succ_of_lt ql
  by_cases hp1 : ((rd_T41 m.m f).f3.length : Int) ≤ pc
  · have e : stepV m f pc st = (1, [], []) := if_pos (.inr (.inr (.inr hp1)))
    rw [e]
    clear e
    go_enter Try.func10, Try.ntmps10
    go_wp2_with fail
    refine bodyPost_ret (results_tmp3 rfl _ _ _) rfl ?_
    exact ⟨_, _, rfl, RowT.nil _ _, RowI.nil _ _, bel⟩
  obtain ⟨ai, hF4, i0, i1, i2⟩ := at_T44 z5 pc (by omega) (by omega)
  subst hF4
  clear z5 z4
  have hib := HPM.out.ib _ (rdI_mem (l := (rd_T41 m.m f).f3) (i := pc) (by omega) (by omega))
  have HNM := Aside0.mk (HPM.out.nm _ (rdI_mem (l := (rd_T41 m.m f).f3) (i := pc) (by omega) (by omega)))
  have hcl := HPM.out.c64
  clear HPM
  have e : stepV m f pc st = stepI m (rd_T41 m.m f) (rd_T44 (rd_T41 m.m f).f3 pc) pc st := if_neg (by omega)
  rw [e]
  clear e
  obtain ⟨X, hX⟩ : ∃ X, (rd_T41 m.m f).f3 = X := ⟨_, rfl⟩
  obtain ⟨⟨op, A, B⟩, hI⟩ : ∃ i, rd_T44 X pc = i := ⟨_, rfl⟩
  obtain ⟨R, hR⟩ : ∃ R, stepI m (rd_T41 m.m f) (rd_T44 (rd_T41 m.m f).f3 pc) pc st = R := ⟨_, rfl⟩
  rw [hR]
  rw [hX] at y4 hp1 hcl i0 i1 i2 hib
  have HNM2 := HNM.out
  rw [hX] at hR
  have HXX := Aside0.mk hX
  rw [hX] at HNM2
  rw [hI] at i0 i1 i2 hib HNM2 hR
  dsimp only at i0 i1 i2 hib HNM2
  clear HNM
  have HNM := Aside0.mk HNM2
  clear HNM2
  have HRR := Aside0.mk hR
  clear hR
  obtain ⟨b0, b1, b2, b3, b4, b5⟩ := hib
  have p0 : 0 ≤ pc := by omega
  have p1 : pc < (X.length : Int) := by omega
  clear hf0 hf1 hp0 hp1 hX hI
  have qi := World.block_lt_of_cell? w _ i0
  have qi1 : (ai.add (pc.toNat * 3)).block < w.heap.size + 1 := Nat.lt_succ_of_lt qi
  by_cases h18 : op = 18
  · subst h18
    have hnx0 : nextsV ⟨18, A, B⟩ pc = [A] := by simp [nextsV]
    obtain ⟨nx, hnx⟩ : ∃ nx : List Int, [A] = nx := ⟨_, rfl⟩
    have hnx1 : nextsV ⟨18, A, B⟩ pc = nx := by rw [hnx0, ← hnx]
    have HNV := Aside0.mk hnx1
    have HNX := Aside0.mk hnx
    have hA1 : A < (X.length : Int) := by have h := HNM.out; rw [← HXX.out]; simpa [namedB] using h
    have hn0 : rd nx 0 = A := by rw [← hnx]; rfl
    have hnl : nx.length = 1 := by rw [← hnx]; rfl
    have hmem : ((rd_T41 m.m f).f3.length : Int) ∈ nextsV ⟨18, A, B⟩ pc ↔ (X.length : Int) ≤ A := by rw [HXX.out, hnx0]; simp only [List.mem_cons, List.not_mem_nil, or_false]; omega
    have dn : decide (0 < (nx.length : Int)) = true := decide_eq_true (by omega)
    clear hnx hnx0 hnx1
    have HY := Aside0.mk y4
    go_enter Try.func10, Try.ntmps10
    go_upto_region 4 with fail
    refine see (F := fun w0_ => Below w.heap.size w w0_ ∧ w0_.heap[w.heap.size]? = some (.cells #[.slice A0 m.c.length c0, .slice A1 m.s.length c1, .slice A2 m.n.length c2, .slice (some ae) m.m.length c3, .slice A4 m.e.length c4, .int .i64 m.sk, .int .i64 m.hp] 28 (0, 0)) ∧ w0_.heap[w.heap.size + 1]? = some (.cells #[.int .i64 18, .int .i64 A, .int .i64 B] 44 (0, 0))) _ ⟨bel, (blk2 w _ _).1, (blk2 w _ _).2⟩ ?_
    rintro w0 ⟨hb0_, HX0, HI0⟩
    replace hb0_ := Aside0.mk hb0_
    replace HX0 := Aside0.mk HX0
    replace HI0 := Aside0.mk HI0
    have HB_0 := Below.refl w0.heap.size w0
    have j0_0 := (blk_cell HI0.out 0).trans rfl
    have j1_0 := (blk_cell HI0.out 1).trans rfl
    go_wp2_with (first | ((with_reducible refine gate_dst (N := 55) rfl ?_); (try (refine gate_guard (by rfl) ?_; dsimp only)); refine Kd.R_lit (Kd.int .i64) (w0 := w0) w0.heap.size 3 ?hg (N := 55) ?hd (xs := ([pc + 1] : List Int)) (inner := [.int .i64 (pc + 1)]) (ok := fun _ => True) (okp := fun _ => True) ?hr ?hp (fun _ hk => hk) trivial (Below.refl _ _) (Nat.le_refl _) (by simp) ?_; (case hd => rfl); (case hg => rfl); (case hr => first | (go_simp; done) | (go_simp; rfl)); (case hp => exact (Reps.one (show Kd.M (Kd.int .i64) _ _ _ (pc + 1) [.int .i64 (pc + 1)] from rfl) (Reps.none _ _))); intro v3 w3 ho hb3 hg_ hn_; clear hg_ hn_; skip; obtain ⟨An3, kn3, rfl⟩ := Kd.R_slice ho; have HN3 := Aside0.mk ho; clear ho; have j0_3 := keepc hb3 j0_0; have j1_3 := keepc hb3 j1_0; have HB_3 : Below w0.heap.size w0 w3 := below_step HB_0 hb3; clear hb3) | ((with_reducible refine gate_dst (N := 61) rfl ?_); (try (refine gate_guard (by rfl) ?_; dsimp only)); refine Kd.R_lit (Kd.int .i64) (w0 := w3) w3.heap.size 3 ?hg (N := 61) ?hd (xs := ([A] : List Int)) (inner := [.int .i64 (A)]) (ok := fun _ => True) (okp := fun _ => True) ?hr ?hp (fun _ hk => hk) trivial (Below.refl _ _) (Nat.le_refl _) (by simp) ?_; (case hd => rfl); (case hg => rfl); (case hr => first | (go_simp; done) | (go_simp; rfl)); (case hp => exact (Reps.one (show Kd.M (Kd.int .i64) _ _ _ (A) [.int .i64 (A)] from rfl) (Reps.none _ _))); intro v4 w4 ho hb4 hg_ hn_; clear hg_ hn_; rw [HNX.out] at ho; obtain ⟨An4, kn4, rfl⟩ := Kd.R_slice ho; have HN4 := Aside0.mk ho; clear ho; have j0_4 := keepc hb4 j0_3; have j1_4 := keepc hb4 j1_3; have HB_4 : Below w0.heap.size w0 w4 := below_step HB_3 hb4; clear hb4))
    refine see (F := fun w0_ => Below w.heap.size w w0_ ∧ w0_.heap[w.heap.size]? = some (.cells #[.slice A0 m.c.length c0, .slice A1 m.s.length c1, .slice A2 m.n.length c2, .slice (some ae) m.m.length c3, .slice A4 m.e.length c4, .int .i64 m.sk, .int .i64 m.hp] 28 (0, 0)) ∧ w0_.heap[w.heap.size + 1]? = some (.cells #[.int .i64 18, .int .i64 A, .int .i64 B] 44 (0, 0)) ∧ RowI w0_ 0 (.slice An4 nx.length kn4) nx) _ ⟨below_mid hb0_.out HB_4, blk_below HX0.out HB_4, blk_below HI0.out HB_4, ((RowI.ofR HN4.out).lower (Nat.zero_le _))⟩ ?_
    rintro w6 ⟨hb6_, HX6, HI6, HN6⟩
    replace hb6_ := Aside0.mk hb6_
    replace HX6 := Aside0.mk HX6
    replace HI6 := Aside0.mk HI6
    replace HN6 := Aside0.mk HN6
    clear HB_0 j0_0 j1_0 HB_3 j0_3 j1_3 HB_4 j0_4 j1_4
    obtain ⟨A_, c_, e_, hkn, hCn⟩ := HN6.out.form
    injection e_ with e1_ e2_ e3_
    subst e1_ e3_
    clear e2_
    obtain ⟨an, hAn, q0⟩ := Kd.at_int hCn 0 (by decide) (by omega)
    subst hAn
    rw [hn0] at q0
    have HCn := Aside0.mk hCn
    clear hCn
    replace q0 : w6.cell? an = some (.int .i64 (A)) := by simpa [Addr.add] using q0
    have hy6 := keepc hb6_.out HY.out
    have hnl1 : 0 < (nx.length : Int) := by omega
    refine see (F := fun w0_ => Below w6.heap.size w6 w0_ ∧ w0_.cell? ⟨w.heap.size, 3, none⟩ = some (.slice (some ae) m.m.length c3) ∧ w0_.cell? ⟨(ae.add (f.toNat * 8)).block, (ae.add (f.toNat * 8)).off + 4, none⟩ = some (.slice (some ai) X.length g4') ∧ w0_.cell? an = some (.int .i64 (A))) _ ⟨bel, (blk_cell HX6.out 3).trans rfl, hy6, q0⟩ ?_
    rintro w7 ⟨hb7_, hq1_, hq2_, hq3_⟩
    replace hb7_ := Aside0.mk hb7_
    replace hq1_ := Aside0.mk hq1_
    replace hq2_ := Aside0.mk hq2_
    replace hq3_ := Aside0.mk hq3_
    obtain ⟨cn, hcn⟩ : ∃ b, decide ((X.length : Int) ≤ A) = b := ⟨_, rfl⟩
    cases cn with
    | true =>
      have KP := Aside0.mk (show ∀ w', Below w7.heap.size w7 w' → (w'.cell? ⟨w.heap.size, 3, none⟩ = some (.slice (some ae) m.m.length c3) ∧ w'.cell? ⟨(ae.add (f.toNat * 8)).block, (ae.add (f.toNat * 8)).off + 4, none⟩ = some (.slice (some ai) X.length g4') ∧ w'.cell? an = some (.int .i64 (A))) from fun w' h => ⟨keepc h hq1_.out, keepc h hq2_.out, keepc h hq3_.out⟩)
      go_region_held3 (fun w' => w'.cell? ⟨w.heap.size, 3, none⟩ = some (.slice (some ae) m.m.length c3) ∧ w'.cell? ⟨(ae.add (f.toNat * 8)).block, (ae.add (f.toNat * 8)).off + 4, none⟩ = some (.slice (some ai) X.length g4') ∧ w'.cell? an = some (.int .i64 (A))) (((try dsimp only); first | exact KP.out _ (by assumption) | exact KP.out _ (Below.drew (Below.refl _ _)) | exact KP.out _ (below_alloc (by assumption) _) | exact KP.out _ (below_alloc (Below.refl _ _) _) | exact KP.out _ (below_alloc (below_alloc (Below.refl _ _) _) _) | exact KP.out _ (below_drew (below_alloc (Below.refl _ _) _)) | exact KP.out _ (below_drew (below_alloc (below_alloc (Below.refl _ _) _) _)) | exact KP.out _ (below_drew (below_alloc (by assumption) _)))) (first | fail)
      go_wp2_with fail
      have HRE := Aside0.mk (show R = (4, [], []) from by rw [← HRR.out]; exact stepI_next (hmem.2 (of_decide_eq_true hcn)))
      refine bodyPost_ret (results_tmp3 rfl _ _ _) rfl ?_
      rw [HRE.out]
      exact ⟨_, _, rfl, RowT.nil _ _, RowI.nil _ _, below_step (below_mid hb6_.out hb7_.out) bel⟩
    | false =>
      have hnm : ¬ ((rd_T41 m.m f).f3.length : Int) ∈ nextsV ⟨18, A, B⟩ pc := fun h => absurd (hmem.1 h) (of_decide_eq_false hcn)
      have KP := Aside0.mk (show ∀ w', Below w7.heap.size w7 w' → (w'.cell? ⟨w.heap.size, 3, none⟩ = some (.slice (some ae) m.m.length c3) ∧ w'.cell? ⟨(ae.add (f.toNat * 8)).block, (ae.add (f.toNat * 8)).off + 4, none⟩ = some (.slice (some ai) X.length g4') ∧ w'.cell? an = some (.int .i64 (A))) from fun w' h => ⟨keepc h hq1_.out, keepc h hq2_.out, keepc h hq3_.out⟩)
      go_region_held3 (fun w' => w'.cell? ⟨w.heap.size, 3, none⟩ = some (.slice (some ae) m.m.length c3) ∧ w'.cell? ⟨(ae.add (f.toNat * 8)).block, (ae.add (f.toNat * 8)).off + 4, none⟩ = some (.slice (some ai) X.length g4') ∧ w'.cell? an = some (.int .i64 (A))) (((try dsimp only); first | exact KP.out _ (by assumption) | exact KP.out _ (Below.drew (Below.refl _ _)) | exact KP.out _ (below_alloc (by assumption) _) | exact KP.out _ (below_alloc (Below.refl _ _) _) | exact KP.out _ (below_alloc (below_alloc (Below.refl _ _) _) _) | exact KP.out _ (below_drew (below_alloc (Below.refl _ _) _)) | exact KP.out _ (below_drew (below_alloc (below_alloc (Below.refl _ _) _) _)) | exact KP.out _ (below_drew (below_alloc (by assumption) _)))) (first | fail)
      clear hmem
      have HX7 := Aside0.mk (blk_below HX6.out hb7_.out)
      have HI7 := Aside0.mk (blk_below HI6.out hb7_.out)
      have m0_7 := (blk_cell HX7.out 0).trans rfl
      have m1_7 := (blk_cell HX7.out 1).trans rfl
      have m2_7 := (blk_cell HX7.out 2).trans rfl
      have m3_7 := (blk_cell HX7.out 3).trans rfl
      have m4_7 := (blk_cell HX7.out 4).trans rfl
      have m5_7 := (blk_cell HX7.out 5).trans rfl
      have m6_7 := (blk_cell HX7.out 6).trans rfl
      have n0_7 := (blk_cell HI7.out 0).trans rfl
      have n1_7 := (blk_cell HI7.out 1).trans rfl
      have n2_7 := (blk_cell HI7.out 2).trans rfl
      have hlen := of_len (m := m) HS.out (x := rd_T41 m.m f) b0 b2 HNM.out
      obtain ⟨⟨I, O⟩, hio⟩ : ∃ io, ofV m (rd_T41 m.m f) 18 A B = io := ⟨_, rfl⟩
      rw [hio] at hlen
      dsimp only at hlen
      have HIO := Aside0.mk hio
      clear hio
      obtain ⟨hI8, hO1⟩ := hlen
      have HNN := Aside0.mk (stepI_not (st := st) (pc := pc) (i := ⟨18, A, B⟩) hnm (show (18 : Int) ≠ 6 by decide) HIO.out)
      by_cases hlt : st.length < I.length
      · go_wp2_with (first | (go_at_call 14; (with_reducible refine (rule_calls ⟨A0, A1, A2, some ae, A4, c0, c1, c2, c3, c4⟩ m f 18 A B _ (HM.out.below (below_mid (below_mid hb6_.out hb7_.out) bel)) HS.out g0 g1 b0 b1 b2 b3 HNM.out).mono ?_); rintro e w8 ⟨va, vo, rfl, hi, ho, hb8⟩; rw [HIO.out] at hi ho; dsimp only at hi ho; obtain ⟨Ai, ci, rfl, hci, hCi⟩ := hi.form; obtain ⟨Ao, co, rfl, hco, hCo⟩ := ho.form; have HCi := Aside0.mk hCi; have HCo := Aside0.mk hCo; clear hi ho hCi hCo; have HB8 : Below w7.heap.size w7 w8 := below_step bel hb8; have n0_8 := keepc HB8 n0_7; clear hb8))
        have HRE := Aside0.mk (show R = (4, [], []) from by rw [← HRR.out]; exact HNN.out.trans (typesV_bad (.inl hlt)))
        refine bodyPost_ret (results_tmp3 rfl _ _ _) rfl ?_
        rw [HRE.out]
        exact ⟨_, _, rfl, RowT.nil _ _, RowI.nil _ _, (below_mid (below_mid hb6_.out hb7_.out) (by first | exact HB8 | exact bel))⟩
      by_cases hmx : 8 < st.length - I.length + O.length
      · go_wp2_with (first | (go_at_call 14; (with_reducible refine (rule_calls ⟨A0, A1, A2, some ae, A4, c0, c1, c2, c3, c4⟩ m f 18 A B _ (HM.out.below (below_mid (below_mid hb6_.out hb7_.out) bel)) HS.out g0 g1 b0 b1 b2 b3 HNM.out).mono ?_); rintro e w8 ⟨va, vo, rfl, hi, ho, hb8⟩; rw [HIO.out] at hi ho; dsimp only at hi ho; obtain ⟨Ai, ci, rfl, hci, hCi⟩ := hi.form; obtain ⟨Ao, co, rfl, hco, hCo⟩ := ho.form; have HCi := Aside0.mk hCi; have HCo := Aside0.mk hCo; clear hi ho hCi hCo; have HB8 : Below w7.heap.size w7 w8 := below_step bel hb8; have n0_8 := keepc HB8 n0_7; clear hb8))
        have HRE := Aside0.mk (show R = (4, [], []) from by rw [← HRR.out]; exact HNN.out.trans (typesV_bad (.inr hmx)))
        refine bodyPost_ret (results_tmp3 rfl _ _ _) rfl ?_
        rw [HRE.out]
        exact ⟨_, _, rfl, RowT.nil _ _, RowI.nil _ _, (below_mid (below_mid hb6_.out hb7_.out) (by first | exact HB8 | exact bel))⟩
      obtain ⟨L, hL⟩ : ∃ L : Nat, (L : Int) = (st.length : Int) - (I.length : Int) := ⟨st.length - I.length, by omega⟩
      have hL' : st.length - I.length = L := by omega
      have HOK := Aside0.mk (show fitAll m.c 18 (st.drop L) I = true → R = (0, st.take L ++ O, nx) from fun h => by rw [← HRR.out, HNN.out, ← HNV.out, ← hL']; rw [← hL'] at h; exact typesV_ok (by omega) h)
      have HUN := Aside0.mk (show fitAll m.c 18 (st.drop L) I = false → R = (4, [], []) from fun h => by rw [← HRR.out, HNN.out]; rw [← hL'] at h; exact typesV_unfit h)
      go_wp2_with (first | (go_at_call 14; (with_reducible refine (rule_calls ⟨A0, A1, A2, some ae, A4, c0, c1, c2, c3, c4⟩ m f 18 A B _ (HM.out.below (below_mid (below_mid hb6_.out hb7_.out) bel)) HS.out g0 g1 b0 b1 b2 b3 HNM.out).mono ?_); rintro e w8 ⟨va, vo, rfl, hi, ho, hb8⟩; rw [HIO.out] at hi ho; dsimp only at hi ho; obtain ⟨Ai, ci, rfl, hci, hCi⟩ := hi.form; obtain ⟨Ao, co, rfl, hco, hCo⟩ := ho.form; have HCi := Aside0.mk hCi; have HCo := Aside0.mk hCo; clear hi ho hCi hCo; have HB8 : Below w7.heap.size w7 w8 := below_step bel hb8; have n0_8 := keepc HB8 n0_7; clear hb8))
      rw [← hL]
      have hb9_ := Aside0.mk (below_mid (below_mid hb6_.out hb7_.out) HB8)
      have HN9 := Aside0.mk (HN6.out.below (below_step hb7_.out HB8))
      have HX9 := Aside0.mk (blk_below HX7.out HB8)
      have HI9 := Aside0.mk (blk_below HI7.out HB8)
      have hL1_ : L ≤ st.length := by omega
      have hL2 : L ≤ cs := by omega
      have hL3 : (L : Int) ≤ (cs : Int) := by omega
      have HTL := Aside0.mk (take_C HT.out hL1_)
      have hLI1 : L + I.length ≤ st.length := by omega
      have hLI2 : st.length ≤ L + I.length := by omega
      have hLO : L + O.length ≤ 10 := by omega
      try clear hL
      try clear hL'
      try clear hL1
      refine rloop 18 A B m w.heap.size (w.heap.size + 1) A0 A1 (some ae) A2 A4 c0 c1 c2 c3 c4 _ _ _ _ st I L _ _ _ _ _ HX9.out HI9.out (Kd.C_below HT.out hb9_.out) HCi.out (Kd.C_below HM.out.h0 hb9_.out) HM.out.n0 HS.out.fits.c8 hsl hLI1 hLI2 hI8 (fun w' hb hf => by rw [HUN.out hf]; exact ⟨_, _, rfl, RowT.nil _ _, RowI.nil _ _, below_mid hb9_.out hb⟩) ?_ _ _ _ _ _ _ _ _ _ _ _ _ _ _ _ _ _ _ _ _ _ _ _ _ _ _ _ _ _ _ _ _ _ _ _ _ _ _ _ _ _ _ _ _ _ _ _ _ _ _ _ _ _ _ _ _ _ _ _ _ _ _ _ _ _ _ _ _ _ _ _ _ _ _ _ _ _ _ _ _ _ _ _ _ _ _ _ _ _ _ _ _ _ _ _ _ _ _ _ _ _ _ _ _ _ _ _ _ _ _ _ _ _ _ _ _ _ _ _ _ _ _ _ _ _ _ _ _ _ _ _ _ _ _ _ _ _ _ _ _ _ _ _ _ _ _ _ _ _ _ _ _ _ _ _ _ _ _ _ _ _ _ _ _ _ _ _ _ _ _ _ _ _ _ _ _ _ _ _ _ _ _ _ _ _ _ _ _
      intros
      rename_i wr hwr hfit
      have HRE := Aside0.mk (HOK.out hfit)
      have HBR := Aside0.mk hwr
      have hbw := below_mid hb9_.out hwr
      clear hfit hwr
      go_wp2_with (first | ((with_reducible refine gate_dst (N := 188) rfl ?_); (try (refine gate_guard (by rfl) ?_; dsimp only)); refine Kd.R_lit k38 (w0 := wr) wr.heap.size 38 ?hg (N := 188) ?hd (xs := ([] : List S38)) (inner := []) (ok := fun _ => True) (okp := fun _ => True) ?hr ?hp (fun _ hk => hk) trivial (Below.refl _ _) (Nat.le_refl _) (by simp) ?_; (case hd => rfl); (case hg => rfl); (case hr => first | (go_simp; done) | (go_simp; rfl)); (case hp => exact (Reps.none _ _)); intro v13 w13 ho hb13 hg_ hn_; clear hg_ hn_; have HO13 := Aside0.mk ho; clear ho; have HB13 := hb13; clear hb13) | ((with_reducible refine gate_builtin (b := .append) (xs := #[.tmp 188, .tmp 191]) rfl ?_); (try (refine gate_guard (by rfl) ?_; dsimp only)); at_builtin; refine Kd.R_append_rows k38 (w0 := wr) wr.heap.size rfl (.tmp 188) (.tmp 191) 23 38 (.agg #[(.int .i64 0), (.int .i64 0)]) 16 rfl Try.underlying23 info38 rfl (by decide) (by omega) v13 [] (st.take L) _ _ _ (fun _ => True) (fun _ => False) rfl rfl HO13.out (Kd.C_below HTL.out (below_mid hbw HB13)) (fun _ _ h => h) (fun _ h => h.elim) (fun _ _ => trivial) HB13 HB13.size (by simp only [List.length_append, List.length_nil, List.length_take]; omega) ?_; intro v14 w14 ho hb14 hg_ hn_; clear hg_ hn_; have HO14 := Aside0.mk ho; clear ho; have HB14 := hb14; clear hb14) | ((with_reducible refine gate_builtin (b := .append) (xs := #[.tmp 192, .tmp 193]) rfl ?_); (try (refine gate_guard (by rfl) ?_; dsimp only)); at_builtin; refine Kd.R_append_rows k38 (w0 := wr) wr.heap.size rfl (.tmp 192) (.tmp 193) 23 38 (.agg #[(.int .i64 0), (.int .i64 0)]) 16 rfl Try.underlying23 info38 rfl (by decide) (by omega) v14 ([] ++ st.take L) O _ _ _ (fun _ => True) (fun _ => False) rfl rfl HO14.out (Kd.C_below HCo.out (below_step HBR.out HB14)) (fun _ _ h => h) (fun _ h => h.elim) (fun _ _ => trivial) HB14 HB14.size (by simp only [List.length_append, List.length_nil, List.length_take]; omega) ?_; intro v15 w15 ho hb15 hg_ hn_; clear hg_ hn_; have HO15 := Aside0.mk ho; clear ho; have HB15 := hb15; clear hb15))
      refine bodyPost_ret (results_tmp3 rfl _ _ _) rfl ?_
      rw [HRE.out]
      exact ⟨_, _, rfl, (RowT.ofR HO15.out).lower (Nat.zero_le _), by have h9 := (HN9.out.below HBR.out).below HB15; (try rw [hnl] at h9); exact h9, below_mid hbw HB15⟩
  have d18 : (op == 18) = false := beq_eq_false_iff_ne.2 h18
  by_cases h19 : op = 19
  · subst h19
    have hnx0 : nextsV ⟨19, A, B⟩ pc = [pc + 1, A] := by simp [nextsV]
    obtain ⟨nx, hnx⟩ : ∃ nx : List Int, [pc + 1] ++ [A] = nx := ⟨_, rfl⟩
    have hnx1 : nextsV ⟨19, A, B⟩ pc = nx := by rw [hnx0, ← hnx]; rfl
    have HNV := Aside0.mk hnx1
    have HNX := Aside0.mk hnx
    have hA1 : A < (X.length : Int) := by have h := HNM.out; rw [← HXX.out]; simpa [namedB] using h
    have hn0 : rd nx 0 = pc + 1 := by rw [← hnx]; rfl
    have hnl : nx.length = 2 := by rw [← hnx]; rfl
    have hmem : ((rd_T41 m.m f).f3.length : Int) ∈ nextsV ⟨19, A, B⟩ pc ↔ (X.length : Int) ≤ pc + 1 := by rw [HXX.out, hnx0]; simp only [List.mem_cons, List.not_mem_nil, or_false]; omega
    have dn : decide (0 < (nx.length : Int)) = true := decide_eq_true (by omega)
    clear hnx hnx0 hnx1
    have HY := Aside0.mk y4
    go_enter Try.func10, Try.ntmps10
    go_upto_region 4 with fail
    refine see (F := fun w0_ => Below w.heap.size w w0_ ∧ w0_.heap[w.heap.size]? = some (.cells #[.slice A0 m.c.length c0, .slice A1 m.s.length c1, .slice A2 m.n.length c2, .slice (some ae) m.m.length c3, .slice A4 m.e.length c4, .int .i64 m.sk, .int .i64 m.hp] 28 (0, 0)) ∧ w0_.heap[w.heap.size + 1]? = some (.cells #[.int .i64 19, .int .i64 A, .int .i64 B] 44 (0, 0))) _ ⟨bel, (blk2 w _ _).1, (blk2 w _ _).2⟩ ?_
    rintro w0 ⟨hb0_, HX0, HI0⟩
    replace hb0_ := Aside0.mk hb0_
    replace HX0 := Aside0.mk HX0
    replace HI0 := Aside0.mk HI0
    have HB_0 := Below.refl w0.heap.size w0
    have j0_0 := (blk_cell HI0.out 0).trans rfl
    have j1_0 := (blk_cell HI0.out 1).trans rfl
    go_wp2_with (first | ((with_reducible refine gate_dst (N := 55) rfl ?_); (try (refine gate_guard (by rfl) ?_; dsimp only)); refine Kd.R_lit (Kd.int .i64) (w0 := w0) w0.heap.size 3 ?hg (N := 55) ?hd (xs := ([pc + 1] : List Int)) (inner := [.int .i64 (pc + 1)]) (ok := fun _ => True) (okp := fun _ => True) ?hr ?hp (fun _ hk => hk) trivial (Below.refl _ _) (Nat.le_refl _) (by simp) ?_; (case hd => rfl); (case hg => rfl); (case hr => first | (go_simp; done) | (go_simp; rfl)); (case hp => exact (Reps.one (show Kd.M (Kd.int .i64) _ _ _ (pc + 1) [.int .i64 (pc + 1)] from rfl) (Reps.none _ _))); intro v3 w3 ho hb3 hg_ hn_; clear hg_ hn_; skip; obtain ⟨An3, kn3, rfl⟩ := Kd.R_slice ho; have HN3 := Aside0.mk ho; clear ho; have j0_3 := keepc hb3 j0_0; have j1_3 := keepc hb3 j1_0; have HB_3 : Below w0.heap.size w0 w3 := below_step HB_0 hb3; clear hb3) | ((with_reducible refine gate_dst (N := 68) rfl ?_); (try (refine gate_guard (by rfl) ?_; dsimp only)); refine Kd.R_lit (Kd.int .i64) (w0 := w3) w3.heap.size 3 ?hg (N := 68) ?hd (xs := ([A] : List Int)) (inner := [.int .i64 (A)]) (ok := fun _ => True) (okp := fun _ => True) ?hr ?hp (fun _ hk => hk) trivial (Below.refl _ _) (Nat.le_refl _) (by simp) ?_; (case hd => rfl); (case hg => rfl); (case hr => first | (go_simp; done) | (go_simp; rfl)); (case hp => exact (Reps.one (show Kd.M (Kd.int .i64) _ _ _ (A) [.int .i64 (A)] from rfl) (Reps.none _ _))); intro v4 w4 ho hb4 hg_ hn_; clear hg_ hn_; skip; obtain ⟨An4, kn4, rfl⟩ := Kd.R_slice ho; have HN4 := Aside0.mk ho; clear ho; have j0_4 := keepc hb4 j0_3; have j1_4 := keepc hb4 j1_3; have HB_4 : Below w0.heap.size w0 w4 := below_step HB_3 hb4; have HB4s := Aside0.mk hb4; clear hb4) | ((with_reducible refine gate_builtin (b := .append) (xs := #[.tmp 65, .tmp 68]) rfl ?_); (try (refine gate_guard (by rfl) ?_; dsimp only)); at_builtin; refine Kd.R_append_rows (Kd.int .i64) (w0 := w0) w0.heap.size rfl (.tmp 65) (.tmp 68) 26 3 (.int .i64 0) 8 rfl Try.underlying26 info3 rfl (by decide) (by omega) _ [pc + 1] [A] _ _ _ (fun _ => True) (fun _ => False) rfl rfl (Kd.R_below HN3.out HB4s.out) (Kd.R_reads' HN4.out).2.2 (fun _ _ h => h) (fun _ h => h.elim) (fun _ _ => trivial) HB_4 HB_4.size (by simp) ?_; intro v5 w5 ho hb5 hg_ hn_; clear hg_ hn_; rw [HNX.out] at ho; obtain ⟨An5, kn5, rfl⟩ := Kd.R_slice ho; have HN5 := Aside0.mk ho; clear ho; have j0_5 := keepc hb5 j0_0; have j1_5 := keepc hb5 j1_0; have HB_5 := hb5; clear hb5))
    refine see (F := fun w0_ => Below w.heap.size w w0_ ∧ w0_.heap[w.heap.size]? = some (.cells #[.slice A0 m.c.length c0, .slice A1 m.s.length c1, .slice A2 m.n.length c2, .slice (some ae) m.m.length c3, .slice A4 m.e.length c4, .int .i64 m.sk, .int .i64 m.hp] 28 (0, 0)) ∧ w0_.heap[w.heap.size + 1]? = some (.cells #[.int .i64 19, .int .i64 A, .int .i64 B] 44 (0, 0)) ∧ RowI w0_ 0 (.slice An5 nx.length kn5) nx) _ ⟨below_mid hb0_.out HB_5, blk_below HX0.out HB_5, blk_below HI0.out HB_5, ((RowI.ofR HN5.out).lower (Nat.zero_le _))⟩ ?_
    rintro w6 ⟨hb6_, HX6, HI6, HN6⟩
    replace hb6_ := Aside0.mk hb6_
    replace HX6 := Aside0.mk HX6
    replace HI6 := Aside0.mk HI6
    replace HN6 := Aside0.mk HN6
    clear HB_0 j0_0 j1_0 HB_3 j0_3 j1_3 HB_4 j0_4 j1_4 HB_5 j0_5 j1_5
    obtain ⟨A_, c_, e_, hkn, hCn⟩ := HN6.out.form
    injection e_ with e1_ e2_ e3_
    subst e1_ e3_
    clear e2_
    obtain ⟨an, hAn, q0⟩ := Kd.at_int hCn 0 (by decide) (by omega)
    subst hAn
    rw [hn0] at q0
    have HCn := Aside0.mk hCn
    clear hCn
    replace q0 : w6.cell? an = some (.int .i64 (pc + 1)) := by simpa [Addr.add] using q0
    have hy6 := keepc hb6_.out HY.out
    have hnl1 : 0 < (nx.length : Int) := by omega
    refine see (F := fun w0_ => Below w6.heap.size w6 w0_ ∧ w0_.cell? ⟨w.heap.size, 3, none⟩ = some (.slice (some ae) m.m.length c3) ∧ w0_.cell? ⟨(ae.add (f.toNat * 8)).block, (ae.add (f.toNat * 8)).off + 4, none⟩ = some (.slice (some ai) X.length g4') ∧ w0_.cell? an = some (.int .i64 (pc + 1))) _ ⟨bel, (blk_cell HX6.out 3).trans rfl, hy6, q0⟩ ?_
    rintro w7 ⟨hb7_, hq1_, hq2_, hq3_⟩
    replace hb7_ := Aside0.mk hb7_
    replace hq1_ := Aside0.mk hq1_
    replace hq2_ := Aside0.mk hq2_
    replace hq3_ := Aside0.mk hq3_
    obtain ⟨cn, hcn⟩ : ∃ b, decide ((X.length : Int) ≤ pc + 1) = b := ⟨_, rfl⟩
    cases cn with
    | true =>
      have KP := Aside0.mk (show ∀ w', Below w7.heap.size w7 w' → (w'.cell? ⟨w.heap.size, 3, none⟩ = some (.slice (some ae) m.m.length c3) ∧ w'.cell? ⟨(ae.add (f.toNat * 8)).block, (ae.add (f.toNat * 8)).off + 4, none⟩ = some (.slice (some ai) X.length g4') ∧ w'.cell? an = some (.int .i64 (pc + 1))) from fun w' h => ⟨keepc h hq1_.out, keepc h hq2_.out, keepc h hq3_.out⟩)
      go_region_held3 (fun w' => w'.cell? ⟨w.heap.size, 3, none⟩ = some (.slice (some ae) m.m.length c3) ∧ w'.cell? ⟨(ae.add (f.toNat * 8)).block, (ae.add (f.toNat * 8)).off + 4, none⟩ = some (.slice (some ai) X.length g4') ∧ w'.cell? an = some (.int .i64 (pc + 1))) (((try dsimp only); first | exact KP.out _ (by assumption) | exact KP.out _ (Below.drew (Below.refl _ _)) | exact KP.out _ (below_alloc (by assumption) _) | exact KP.out _ (below_alloc (Below.refl _ _) _) | exact KP.out _ (below_alloc (below_alloc (Below.refl _ _) _) _) | exact KP.out _ (below_drew (below_alloc (Below.refl _ _) _)) | exact KP.out _ (below_drew (below_alloc (below_alloc (Below.refl _ _) _) _)) | exact KP.out _ (below_drew (below_alloc (by assumption) _)))) (first | fail)
      go_wp2_with fail
      have HRE := Aside0.mk (show R = (4, [], []) from by rw [← HRR.out]; exact stepI_next (hmem.2 (of_decide_eq_true hcn)))
      refine bodyPost_ret (results_tmp3 rfl _ _ _) rfl ?_
      rw [HRE.out]
      exact ⟨_, _, rfl, RowT.nil _ _, RowI.nil _ _, below_step (below_mid hb6_.out hb7_.out) bel⟩
    | false =>
      have hnm : ¬ ((rd_T41 m.m f).f3.length : Int) ∈ nextsV ⟨19, A, B⟩ pc := fun h => absurd (hmem.1 h) (of_decide_eq_false hcn)
      have KP := Aside0.mk (show ∀ w', Below w7.heap.size w7 w' → (w'.cell? ⟨w.heap.size, 3, none⟩ = some (.slice (some ae) m.m.length c3) ∧ w'.cell? ⟨(ae.add (f.toNat * 8)).block, (ae.add (f.toNat * 8)).off + 4, none⟩ = some (.slice (some ai) X.length g4') ∧ w'.cell? an = some (.int .i64 (pc + 1))) from fun w' h => ⟨keepc h hq1_.out, keepc h hq2_.out, keepc h hq3_.out⟩)
      go_region_held3 (fun w' => w'.cell? ⟨w.heap.size, 3, none⟩ = some (.slice (some ae) m.m.length c3) ∧ w'.cell? ⟨(ae.add (f.toNat * 8)).block, (ae.add (f.toNat * 8)).off + 4, none⟩ = some (.slice (some ai) X.length g4') ∧ w'.cell? an = some (.int .i64 (pc + 1))) (((try dsimp only); first | exact KP.out _ (by assumption) | exact KP.out _ (Below.drew (Below.refl _ _)) | exact KP.out _ (below_alloc (by assumption) _) | exact KP.out _ (below_alloc (Below.refl _ _) _) | exact KP.out _ (below_alloc (below_alloc (Below.refl _ _) _) _) | exact KP.out _ (below_drew (below_alloc (Below.refl _ _) _)) | exact KP.out _ (below_drew (below_alloc (below_alloc (Below.refl _ _) _) _)) | exact KP.out _ (below_drew (below_alloc (by assumption) _)))) (first | fail)
      clear hmem
      have HX7 := Aside0.mk (blk_below HX6.out hb7_.out)
      have HI7 := Aside0.mk (blk_below HI6.out hb7_.out)
      have m0_7 := (blk_cell HX7.out 0).trans rfl
      have m1_7 := (blk_cell HX7.out 1).trans rfl
      have m2_7 := (blk_cell HX7.out 2).trans rfl
      have m3_7 := (blk_cell HX7.out 3).trans rfl
      have m4_7 := (blk_cell HX7.out 4).trans rfl
      have m5_7 := (blk_cell HX7.out 5).trans rfl
      have m6_7 := (blk_cell HX7.out 6).trans rfl
      have n0_7 := (blk_cell HI7.out 0).trans rfl
      have n1_7 := (blk_cell HI7.out 1).trans rfl
      have n2_7 := (blk_cell HI7.out 2).trans rfl
      have hlen := of_len (m := m) HS.out (x := rd_T41 m.m f) b0 b2 HNM.out
      obtain ⟨⟨I, O⟩, hio⟩ : ∃ io, ofV m (rd_T41 m.m f) 19 A B = io := ⟨_, rfl⟩
      rw [hio] at hlen
      dsimp only at hlen
      have HIO := Aside0.mk hio
      clear hio
      obtain ⟨hI8, hO1⟩ := hlen
      have HNN := Aside0.mk (stepI_not (st := st) (pc := pc) (i := ⟨19, A, B⟩) hnm (show (19 : Int) ≠ 6 by decide) HIO.out)
      by_cases hlt : st.length < I.length
      · go_wp2_with (first | (go_at_call 14; (with_reducible refine (rule_calls ⟨A0, A1, A2, some ae, A4, c0, c1, c2, c3, c4⟩ m f 19 A B _ (HM.out.below (below_mid (below_mid hb6_.out hb7_.out) bel)) HS.out g0 g1 b0 b1 b2 b3 HNM.out).mono ?_); rintro e w8 ⟨va, vo, rfl, hi, ho, hb8⟩; rw [HIO.out] at hi ho; dsimp only at hi ho; obtain ⟨Ai, ci, rfl, hci, hCi⟩ := hi.form; obtain ⟨Ao, co, rfl, hco, hCo⟩ := ho.form; have HCi := Aside0.mk hCi; have HCo := Aside0.mk hCo; clear hi ho hCi hCo; have HB8 : Below w7.heap.size w7 w8 := below_step bel hb8; have n0_8 := keepc HB8 n0_7; clear hb8))
        have HRE := Aside0.mk (show R = (4, [], []) from by rw [← HRR.out]; exact HNN.out.trans (typesV_bad (.inl hlt)))
        refine bodyPost_ret (results_tmp3 rfl _ _ _) rfl ?_
        rw [HRE.out]
        exact ⟨_, _, rfl, RowT.nil _ _, RowI.nil _ _, (below_mid (below_mid hb6_.out hb7_.out) (by first | exact HB8 | exact bel))⟩
      by_cases hmx : 8 < st.length - I.length + O.length
      · go_wp2_with (first | (go_at_call 14; (with_reducible refine (rule_calls ⟨A0, A1, A2, some ae, A4, c0, c1, c2, c3, c4⟩ m f 19 A B _ (HM.out.below (below_mid (below_mid hb6_.out hb7_.out) bel)) HS.out g0 g1 b0 b1 b2 b3 HNM.out).mono ?_); rintro e w8 ⟨va, vo, rfl, hi, ho, hb8⟩; rw [HIO.out] at hi ho; dsimp only at hi ho; obtain ⟨Ai, ci, rfl, hci, hCi⟩ := hi.form; obtain ⟨Ao, co, rfl, hco, hCo⟩ := ho.form; have HCi := Aside0.mk hCi; have HCo := Aside0.mk hCo; clear hi ho hCi hCo; have HB8 : Below w7.heap.size w7 w8 := below_step bel hb8; have n0_8 := keepc HB8 n0_7; clear hb8))
        have HRE := Aside0.mk (show R = (4, [], []) from by rw [← HRR.out]; exact HNN.out.trans (typesV_bad (.inr hmx)))
        refine bodyPost_ret (results_tmp3 rfl _ _ _) rfl ?_
        rw [HRE.out]
        exact ⟨_, _, rfl, RowT.nil _ _, RowI.nil _ _, (below_mid (below_mid hb6_.out hb7_.out) (by first | exact HB8 | exact bel))⟩
      obtain ⟨L, hL⟩ : ∃ L : Nat, (L : Int) = (st.length : Int) - (I.length : Int) := ⟨st.length - I.length, by omega⟩
      have hL' : st.length - I.length = L := by omega
      have HOK := Aside0.mk (show fitAll m.c 19 (st.drop L) I = true → R = (0, st.take L ++ O, nx) from fun h => by rw [← HRR.out, HNN.out, ← HNV.out, ← hL']; rw [← hL'] at h; exact typesV_ok (by omega) h)
      have HUN := Aside0.mk (show fitAll m.c 19 (st.drop L) I = false → R = (4, [], []) from fun h => by rw [← HRR.out, HNN.out]; rw [← hL'] at h; exact typesV_unfit h)
      go_wp2_with (first | (go_at_call 14; (with_reducible refine (rule_calls ⟨A0, A1, A2, some ae, A4, c0, c1, c2, c3, c4⟩ m f 19 A B _ (HM.out.below (below_mid (below_mid hb6_.out hb7_.out) bel)) HS.out g0 g1 b0 b1 b2 b3 HNM.out).mono ?_); rintro e w8 ⟨va, vo, rfl, hi, ho, hb8⟩; rw [HIO.out] at hi ho; dsimp only at hi ho; obtain ⟨Ai, ci, rfl, hci, hCi⟩ := hi.form; obtain ⟨Ao, co, rfl, hco, hCo⟩ := ho.form; have HCi := Aside0.mk hCi; have HCo := Aside0.mk hCo; clear hi ho hCi hCo; have HB8 : Below w7.heap.size w7 w8 := below_step bel hb8; have n0_8 := keepc HB8 n0_7; clear hb8))
      rw [← hL]
      have hb9_ := Aside0.mk (below_mid (below_mid hb6_.out hb7_.out) HB8)
      have HN9 := Aside0.mk (HN6.out.below (below_step hb7_.out HB8))
      have HX9 := Aside0.mk (blk_below HX7.out HB8)
      have HI9 := Aside0.mk (blk_below HI7.out HB8)
      have hL1_ : L ≤ st.length := by omega
      have hL2 : L ≤ cs := by omega
      have hL3 : (L : Int) ≤ (cs : Int) := by omega
      have HTL := Aside0.mk (take_C HT.out hL1_)
      have hLI1 : L + I.length ≤ st.length := by omega
      have hLI2 : st.length ≤ L + I.length := by omega
      have hLO : L + O.length ≤ 10 := by omega
      try clear hL
      try clear hL'
      try clear hL1
      refine rloop 19 A B m w.heap.size (w.heap.size + 1) A0 A1 (some ae) A2 A4 c0 c1 c2 c3 c4 _ _ _ _ st I L _ _ _ _ _ HX9.out HI9.out (Kd.C_below HT.out hb9_.out) HCi.out (Kd.C_below HM.out.h0 hb9_.out) HM.out.n0 HS.out.fits.c8 hsl hLI1 hLI2 hI8 (fun w' hb hf => by rw [HUN.out hf]; exact ⟨_, _, rfl, RowT.nil _ _, RowI.nil _ _, below_mid hb9_.out hb⟩) ?_ _ _ _ _ _ _ _ _ _ _ _ _ _ _ _ _ _ _ _ _ _ _ _ _ _ _ _ _ _ _ _ _ _ _ _ _ _ _ _ _ _ _ _ _ _ _ _ _ _ _ _ _ _ _ _ _ _ _ _ _ _ _ _ _ _ _ _ _ _ _ _ _ _ _ _ _ _ _ _ _ _ _ _ _ _ _ _ _ _ _ _ _ _ _ _ _ _ _ _ _ _ _ _ _ _ _ _ _ _ _ _ _ _ _ _ _ _ _ _ _ _ _ _ _ _ _ _ _ _ _ _ _ _ _ _ _ _ _ _ _ _ _ _ _ _ _ _ _ _ _ _ _ _ _ _ _ _ _ _ _ _ _ _ _ _ _ _ _ _ _ _ _ _ _ _ _ _ _ _ _ _ _ _ _ _ _ _ _
      intros
      rename_i wr hwr hfit
      have HRE := Aside0.mk (HOK.out hfit)
      have HBR := Aside0.mk hwr
      have hbw := below_mid hb9_.out hwr
      clear hfit hwr
      go_wp2_with (first | ((with_reducible refine gate_dst (N := 188) rfl ?_); (try (refine gate_guard (by rfl) ?_; dsimp only)); refine Kd.R_lit k38 (w0 := wr) wr.heap.size 38 ?hg (N := 188) ?hd (xs := ([] : List S38)) (inner := []) (ok := fun _ => True) (okp := fun _ => True) ?hr ?hp (fun _ hk => hk) trivial (Below.refl _ _) (Nat.le_refl _) (by simp) ?_; (case hd => rfl); (case hg => rfl); (case hr => first | (go_simp; done) | (go_simp; rfl)); (case hp => exact (Reps.none _ _)); intro v13 w13 ho hb13 hg_ hn_; clear hg_ hn_; have HO13 := Aside0.mk ho; clear ho; have HB13 := hb13; clear hb13) | ((with_reducible refine gate_builtin (b := .append) (xs := #[.tmp 188, .tmp 191]) rfl ?_); (try (refine gate_guard (by rfl) ?_; dsimp only)); at_builtin; refine Kd.R_append_rows k38 (w0 := wr) wr.heap.size rfl (.tmp 188) (.tmp 191) 23 38 (.agg #[(.int .i64 0), (.int .i64 0)]) 16 rfl Try.underlying23 info38 rfl (by decide) (by omega) v13 [] (st.take L) _ _ _ (fun _ => True) (fun _ => False) rfl rfl HO13.out (Kd.C_below HTL.out (below_mid hbw HB13)) (fun _ _ h => h) (fun _ h => h.elim) (fun _ _ => trivial) HB13 HB13.size (by simp only [List.length_append, List.length_nil, List.length_take]; omega) ?_; intro v14 w14 ho hb14 hg_ hn_; clear hg_ hn_; have HO14 := Aside0.mk ho; clear ho; have HB14 := hb14; clear hb14) | ((with_reducible refine gate_builtin (b := .append) (xs := #[.tmp 192, .tmp 193]) rfl ?_); (try (refine gate_guard (by rfl) ?_; dsimp only)); at_builtin; refine Kd.R_append_rows k38 (w0 := wr) wr.heap.size rfl (.tmp 192) (.tmp 193) 23 38 (.agg #[(.int .i64 0), (.int .i64 0)]) 16 rfl Try.underlying23 info38 rfl (by decide) (by omega) v14 ([] ++ st.take L) O _ _ _ (fun _ => True) (fun _ => False) rfl rfl HO14.out (Kd.C_below HCo.out (below_step HBR.out HB14)) (fun _ _ h => h) (fun _ h => h.elim) (fun _ _ => trivial) HB14 HB14.size (by simp only [List.length_append, List.length_nil, List.length_take]; omega) ?_; intro v15 w15 ho hb15 hg_ hn_; clear hg_ hn_; have HO15 := Aside0.mk ho; clear ho; have HB15 := hb15; clear hb15))
      refine bodyPost_ret (results_tmp3 rfl _ _ _) rfl ?_
      rw [HRE.out]
      exact ⟨_, _, rfl, (RowT.ofR HO15.out).lower (Nat.zero_le _), by have h9 := (HN9.out.below HBR.out).below HB15; (try rw [hnl] at h9); exact h9, below_mid hbw HB15⟩
  have d19 : (op == 19) = false := beq_eq_false_iff_ne.2 h19
  by_cases h33 : op = 33
  · subst h33
    have hnx0 : nextsV ⟨33, A, B⟩ pc = [] := by simp [nextsV]
    obtain ⟨nx, hnx⟩ : ∃ nx : List Int, [] = nx := ⟨_, rfl⟩
    have hnx1 : nextsV ⟨33, A, B⟩ pc = nx := by rw [hnx0, ← hnx]
    have HNV := Aside0.mk hnx1
    have HNX := Aside0.mk hnx
    have hnm : ¬ ((rd_T41 m.m f).f3.length : Int) ∈ nextsV ⟨33, A, B⟩ pc := by rw [hnx0]; simp
    have hnl : nx.length = 0 := by rw [← hnx]; rfl
    have dn : decide (0 < (nx.length : Int)) = false := decide_eq_false (by omega)
    clear hnx hnx0 hnx1
    have HY := Aside0.mk y4
    go_enter Try.func10, Try.ntmps10
    go_upto_region 4 with fail
    refine see (F := fun w0_ => Below w.heap.size w w0_ ∧ w0_.heap[w.heap.size]? = some (.cells #[.slice A0 m.c.length c0, .slice A1 m.s.length c1, .slice A2 m.n.length c2, .slice (some ae) m.m.length c3, .slice A4 m.e.length c4, .int .i64 m.sk, .int .i64 m.hp] 28 (0, 0)) ∧ w0_.heap[w.heap.size + 1]? = some (.cells #[.int .i64 33, .int .i64 A, .int .i64 B] 44 (0, 0))) _ ⟨bel, (blk2 w _ _).1, (blk2 w _ _).2⟩ ?_
    rintro w0 ⟨hb0_, HX0, HI0⟩
    replace hb0_ := Aside0.mk hb0_
    replace HX0 := Aside0.mk HX0
    replace HI0 := Aside0.mk HI0
    have HB_0 := Below.refl w0.heap.size w0
    have j0_0 := (blk_cell HI0.out 0).trans rfl
    have j1_0 := (blk_cell HI0.out 1).trans rfl
    go_wp2_with (first | ((with_reducible refine gate_dst (N := 55) rfl ?_); (try (refine gate_guard (by rfl) ?_; dsimp only)); refine Kd.R_lit (Kd.int .i64) (w0 := w0) w0.heap.size 3 ?hg (N := 55) ?hd (xs := ([pc + 1] : List Int)) (inner := [.int .i64 (pc + 1)]) (ok := fun _ => True) (okp := fun _ => True) ?hr ?hp (fun _ hk => hk) trivial (Below.refl _ _) (Nat.le_refl _) (by simp) ?_; (case hd => rfl); (case hg => rfl); (case hr => first | (go_simp; done) | (go_simp; rfl)); (case hp => exact (Reps.one (show Kd.M (Kd.int .i64) _ _ _ (pc + 1) [.int .i64 (pc + 1)] from rfl) (Reps.none _ _))); intro v3 w3 ho hb3 hg_ hn_; clear hg_ hn_; skip; obtain ⟨An3, kn3, rfl⟩ := Kd.R_slice ho; have HN3 := Aside0.mk ho; clear ho; have j0_3 := keepc hb3 j0_0; have j1_3 := keepc hb3 j1_0; have HB_3 : Below w0.heap.size w0 w3 := below_step HB_0 hb3; clear hb3) | ((with_reducible refine gate_dst (N := 73) rfl ?_); (try (refine gate_guard (by rfl) ?_; dsimp only)); refine Kd.R_lit (Kd.int .i64) (w0 := w3) w3.heap.size 3 ?hg (N := 73) ?hd (xs := ([] : List Int)) (inner := []) (ok := fun _ => True) (okp := fun _ => True) ?hr ?hp (fun _ hk => hk) trivial (Below.refl _ _) (Nat.le_refl _) (by simp) ?_; (case hd => rfl); (case hg => rfl); (case hr => first | (go_simp; done) | (go_simp; rfl)); (case hp => exact (Reps.none _ _)); intro v4 w4 ho hb4 hg_ hn_; clear hg_ hn_; rw [HNX.out] at ho; obtain ⟨An4, kn4, rfl⟩ := Kd.R_slice ho; have HN4 := Aside0.mk ho; clear ho; have j0_4 := keepc hb4 j0_3; have j1_4 := keepc hb4 j1_3; have HB_4 : Below w0.heap.size w0 w4 := below_step HB_3 hb4; clear hb4))
    refine see (F := fun w0_ => Below w.heap.size w w0_ ∧ w0_.heap[w.heap.size]? = some (.cells #[.slice A0 m.c.length c0, .slice A1 m.s.length c1, .slice A2 m.n.length c2, .slice (some ae) m.m.length c3, .slice A4 m.e.length c4, .int .i64 m.sk, .int .i64 m.hp] 28 (0, 0)) ∧ w0_.heap[w.heap.size + 1]? = some (.cells #[.int .i64 33, .int .i64 A, .int .i64 B] 44 (0, 0)) ∧ RowI w0_ 0 (.slice An4 nx.length kn4) nx) _ ⟨below_mid hb0_.out HB_4, blk_below HX0.out HB_4, blk_below HI0.out HB_4, ((RowI.ofR HN4.out).lower (Nat.zero_le _))⟩ ?_
    rintro w6 ⟨hb6_, HX6, HI6, HN6⟩
    replace hb6_ := Aside0.mk hb6_
    replace HX6 := Aside0.mk HX6
    replace HI6 := Aside0.mk HI6
    replace HN6 := Aside0.mk HN6
    clear HB_0 j0_0 j1_0 HB_3 j0_3 j1_3 HB_4 j0_4 j1_4
    refine see (F := fun w0_ => Below w6.heap.size w6 w0_ ∧ w0_.cell? ⟨w.heap.size, 3, none⟩ = some (.slice (some ae) m.m.length c3)) _ ⟨bel, (blk_cell HX6.out 3).trans rfl⟩ ?_
    rintro w7 ⟨hb7_, hq1_⟩
    replace hb7_ := Aside0.mk hb7_
    replace hq1_ := Aside0.mk hq1_
    have KP := Aside0.mk (show ∀ w', Below w7.heap.size w7 w' → (w'.cell? ⟨w.heap.size, 3, none⟩ = some (.slice (some ae) m.m.length c3)) from fun w' h => keepc h hq1_.out)
    refine wp_region_noPanic ?_
    refine wp_region_held_drew (S := fun w' => w'.cell? ⟨w.heap.size, 3, none⟩ = some (.slice (some ae) m.m.length c3)) (by kernel_rfl) (by ((try dsimp only); first | exact KP.out _ (by assumption) | exact KP.out _ (Below.drew (Below.refl _ _)) | exact KP.out _ (below_alloc (by assumption) _) | exact KP.out _ (below_alloc (Below.refl _ _) _) | exact KP.out _ (below_alloc (below_alloc (Below.refl _ _) _) _) | exact KP.out _ (below_drew (below_alloc (Below.refl _ _) _)) | exact KP.out _ (below_drew (below_alloc (below_alloc (Below.refl _ _) _) _)) | exact KP.out _ (below_drew (below_alloc (by assumption) _)))) (fun hHeld => ?_)
    refine wpAnyH_take (i := 0) (oi := _) (v := ?v11) rfl (by kernel_rfl) (by kernel_rfl) (by kernel_rfl) (fun _ _ _ h => h) (Or.inl ⟨by rfl, ?hy11⟩) (by assumption) ?hr11
    case hy11 => (intro w hSw; (try dsimp only at hSw); (first | (go_simp; done) | (go_simp; with_reducible rfl)))
    (try simp only [Act.put, List.getElem_toArray, List.getElem_cons_zero, List.getElem_cons_succ, List.setIfInBounds_toArray, List.set_cons_zero, List.set_cons_succ])
    refine wpAnyH_take (i := 1) (oi := _) (v := ?v12) rfl (by kernel_rfl) (by kernel_rfl) (by kernel_rfl) (fun _ _ _ h => h) (Or.inl ⟨by rfl, ?hy12⟩) (by assumption) ?hr12
    case hy12 => (intro w hSw; (try dsimp only at hSw); (first | (go_simp; done) | (go_simp; with_reducible rfl)))
    (try simp only [Act.put, List.getElem_toArray, List.getElem_cons_zero, List.getElem_cons_succ, List.setIfInBounds_toArray, List.set_cons_zero, List.set_cons_succ])
    refine wpAnyH_take (i := 2) (oi := _) (v := ?v13) rfl (by kernel_rfl) (by kernel_rfl) (by kernel_rfl) (fun _ _ _ h => h) (Or.inl ⟨by rfl, ?hy13⟩) (by assumption) ?hr13
    case hy13 => (intro w hSw; (try dsimp only at hSw); (first | (go_simp; done) | (go_simp; with_reducible rfl)))
    (try simp only [Act.put, List.getElem_toArray, List.getElem_cons_zero, List.getElem_cons_succ, List.setIfInBounds_toArray, List.set_cons_zero, List.set_cons_succ])
    refine wpAnyH_take (i := 3) (oi := _) (v := ?v14) rfl (by kernel_rfl) (by kernel_rfl) (by kernel_rfl) (fun _ _ _ h => h) (Or.inl ⟨by rfl, ?hy14⟩) (by assumption) ?hr14
    case hy14 => (intro w hSw; (try dsimp only at hSw); (first | (go_simp; done) | (go_simp; with_reducible rfl)))
    (try simp only [Act.put, List.getElem_toArray, List.getElem_cons_zero, List.getElem_cons_succ, List.setIfInBounds_toArray, List.set_cons_zero, List.set_cons_succ])
    refine wpAnyH_take (i := 4) (oi := _) (v := undef) rfl (by kernel_rfl) (by kernel_rfl) (by kernel_rfl) (fun _ _ _ h => h) (Or.inr ⟨by rfl, rfl⟩) (by assumption) ?hr15
    (try simp only [Act.put, List.getElem_toArray, List.getElem_cons_zero, List.getElem_cons_succ, List.setIfInBounds_toArray, List.set_cons_zero, List.set_cons_succ])
    refine wpAnyH_take (i := 5) (oi := _) (v := undef) rfl (by kernel_rfl) (by kernel_rfl) (by kernel_rfl) (fun _ _ _ h => h) (Or.inr ⟨by rfl, rfl⟩) (by assumption) ?hr16
    (try simp only [Act.put, List.getElem_toArray, List.getElem_cons_zero, List.getElem_cons_succ, List.setIfInBounds_toArray, List.set_cons_zero, List.set_cons_succ])
    refine wpAnyH_take (i := 6) (oi := _) (v := undef) rfl (by kernel_rfl) (by kernel_rfl) (by kernel_rfl) (fun _ _ _ h => h) (Or.inr ⟨by rfl, rfl⟩) (by assumption) ?hr17
    (try simp only [Act.put, List.getElem_toArray, List.getElem_cons_zero, List.getElem_cons_succ, List.setIfInBounds_toArray, List.set_cons_zero, List.set_cons_succ])
    refine wpAnyH_take (i := 7) (oi := _) (v := undef) rfl (by kernel_rfl) (by kernel_rfl) (by kernel_rfl) (fun _ _ _ h => h) (Or.inr ⟨by rfl, rfl⟩) (by assumption) ?hr18
    (try simp only [Act.put, List.getElem_toArray, List.getElem_cons_zero, List.getElem_cons_succ, List.setIfInBounds_toArray, List.set_cons_zero, List.set_cons_succ])
    refine wpAnyH_take (i := 8) (oi := _) (v := undef) rfl (by kernel_rfl) (by kernel_rfl) (by kernel_rfl) (fun _ _ _ h => h) (Or.inr ⟨by rfl, rfl⟩) (by assumption) ?hr19
    (try simp only [Act.put, List.getElem_toArray, List.getElem_cons_zero, List.getElem_cons_succ, List.setIfInBounds_toArray, List.set_cons_zero, List.set_cons_succ])
    refine wpAnyH_take (i := 9) (oi := _) (v := undef) rfl (by kernel_rfl) (by kernel_rfl) (by kernel_rfl) (fun _ _ _ h => h) (Or.inr ⟨by rfl, rfl⟩) (by assumption) ?hr20
    (try simp only [Act.put, List.getElem_toArray, List.getElem_cons_zero, List.getElem_cons_succ, List.setIfInBounds_toArray, List.set_cons_zero, List.set_cons_succ])
    refine wpAnyH_take (i := 10) (oi := _) (v := undef) rfl (by kernel_rfl) (by kernel_rfl) (by kernel_rfl) (fun _ _ _ h => h) (Or.inr ⟨by rfl, rfl⟩) (by assumption) ?hr21
    (try simp only [Act.put, List.getElem_toArray, List.getElem_cons_zero, List.getElem_cons_succ, List.setIfInBounds_toArray, List.set_cons_zero, List.set_cons_succ])
    refine wpAnyH_take (i := 11) (oi := _) (v := undef) rfl (by kernel_rfl) (by kernel_rfl) (by kernel_rfl) (fun _ _ _ h => h) (Or.inr ⟨by rfl, rfl⟩) (by assumption) ?hr22
    (try simp only [Act.put, List.getElem_toArray, List.getElem_cons_zero, List.getElem_cons_succ, List.setIfInBounds_toArray, List.set_cons_zero, List.set_cons_succ])
    refine wpAnyH_take (i := 12) (oi := _) (v := undef) rfl (by kernel_rfl) (by kernel_rfl) (by kernel_rfl) (fun _ _ _ h => h) (Or.inr ⟨by rfl, rfl⟩) (by assumption) ?hr23
    (try simp only [Act.put, List.getElem_toArray, List.getElem_cons_zero, List.getElem_cons_succ, List.setIfInBounds_toArray, List.set_cons_zero, List.set_cons_succ])
    refine wpAnyH_take (i := 13) (oi := _) (v := undef) rfl (by kernel_rfl) (by kernel_rfl) (by kernel_rfl) (fun _ _ _ h => h) (Or.inr ⟨by rfl, rfl⟩) (by assumption) ?hr24
    (try simp only [Act.put, List.getElem_toArray, List.getElem_cons_zero, List.getElem_cons_succ, List.setIfInBounds_toArray, List.set_cons_zero, List.set_cons_succ])
    refine wpAnyH_take (i := 14) (oi := _) (v := undef) rfl (by kernel_rfl) (by kernel_rfl) (by kernel_rfl) (fun _ _ _ h => h) (Or.inr ⟨by rfl, rfl⟩) (by assumption) ?hr25
    (try simp only [Act.put, List.getElem_toArray, List.getElem_cons_zero, List.getElem_cons_succ, List.setIfInBounds_toArray, List.set_cons_zero, List.set_cons_succ])
    refine wpAnyH_take (i := 15) (oi := _) (v := ?v26) rfl (by kernel_rfl) (by kernel_rfl) (by kernel_rfl) (fun _ _ _ h => h) (Or.inl ⟨by rfl, ?hy26⟩) (by assumption) ?hr26
    case hy26 => (intro w hSw; (try dsimp only at hSw); (first | (go_simp; done) | (go_simp; with_reducible rfl)))
    (try simp only [Act.put, List.getElem_toArray, List.getElem_cons_zero, List.getElem_cons_succ, List.setIfInBounds_toArray, List.set_cons_zero, List.set_cons_succ])
    refine wpAnyH_done (by kernel_rfl) ?_ _
    refine NoPanic.normal ?_
    have HX7 := Aside0.mk (blk_below HX6.out hb7_.out)
    have HI7 := Aside0.mk (blk_below HI6.out hb7_.out)
    have m0_7 := (blk_cell HX7.out 0).trans rfl
    have m1_7 := (blk_cell HX7.out 1).trans rfl
    have m2_7 := (blk_cell HX7.out 2).trans rfl
    have m3_7 := (blk_cell HX7.out 3).trans rfl
    have m4_7 := (blk_cell HX7.out 4).trans rfl
    have m5_7 := (blk_cell HX7.out 5).trans rfl
    have m6_7 := (blk_cell HX7.out 6).trans rfl
    have n0_7 := (blk_cell HI7.out 0).trans rfl
    have n1_7 := (blk_cell HI7.out 1).trans rfl
    have n2_7 := (blk_cell HI7.out 2).trans rfl
    have hlen := of_len (m := m) HS.out (x := rd_T41 m.m f) b0 b2 HNM.out
    obtain ⟨⟨I, O⟩, hio⟩ : ∃ io, ofV m (rd_T41 m.m f) 33 A B = io := ⟨_, rfl⟩
    rw [hio] at hlen
    dsimp only at hlen
    have HIO := Aside0.mk hio
    clear hio
    obtain ⟨hI8, hO1⟩ := hlen
    have HNN := Aside0.mk (stepI_not (st := st) (pc := pc) (i := ⟨33, A, B⟩) hnm (show (33 : Int) ≠ 6 by decide) HIO.out)
    by_cases hlt : st.length < I.length
    · go_wp2_with (first | (go_at_call 14; (with_reducible refine (rule_calls ⟨A0, A1, A2, some ae, A4, c0, c1, c2, c3, c4⟩ m f 33 A B _ (HM.out.below (below_mid (below_mid hb6_.out hb7_.out) bel)) HS.out g0 g1 b0 b1 b2 b3 HNM.out).mono ?_); rintro e w8 ⟨va, vo, rfl, hi, ho, hb8⟩; rw [HIO.out] at hi ho; dsimp only at hi ho; obtain ⟨Ai, ci, rfl, hci, hCi⟩ := hi.form; obtain ⟨Ao, co, rfl, hco, hCo⟩ := ho.form; have HCi := Aside0.mk hCi; have HCo := Aside0.mk hCo; clear hi ho hCi hCo; have HB8 : Below w7.heap.size w7 w8 := below_step bel hb8; have n0_8 := keepc HB8 n0_7; clear hb8))
      have HRE := Aside0.mk (show R = (4, [], []) from by rw [← HRR.out]; exact HNN.out.trans (typesV_bad (.inl hlt)))
      refine bodyPost_ret (results_tmp3 rfl _ _ _) rfl ?_
      rw [HRE.out]
      exact ⟨_, _, rfl, RowT.nil _ _, RowI.nil _ _, (below_mid (below_mid hb6_.out hb7_.out) (by first | exact HB8 | exact bel))⟩
    by_cases hmx : 8 < st.length - I.length + O.length
    · go_wp2_with (first | (go_at_call 14; (with_reducible refine (rule_calls ⟨A0, A1, A2, some ae, A4, c0, c1, c2, c3, c4⟩ m f 33 A B _ (HM.out.below (below_mid (below_mid hb6_.out hb7_.out) bel)) HS.out g0 g1 b0 b1 b2 b3 HNM.out).mono ?_); rintro e w8 ⟨va, vo, rfl, hi, ho, hb8⟩; rw [HIO.out] at hi ho; dsimp only at hi ho; obtain ⟨Ai, ci, rfl, hci, hCi⟩ := hi.form; obtain ⟨Ao, co, rfl, hco, hCo⟩ := ho.form; have HCi := Aside0.mk hCi; have HCo := Aside0.mk hCo; clear hi ho hCi hCo; have HB8 : Below w7.heap.size w7 w8 := below_step bel hb8; have n0_8 := keepc HB8 n0_7; clear hb8))
      have HRE := Aside0.mk (show R = (4, [], []) from by rw [← HRR.out]; exact HNN.out.trans (typesV_bad (.inr hmx)))
      refine bodyPost_ret (results_tmp3 rfl _ _ _) rfl ?_
      rw [HRE.out]
      exact ⟨_, _, rfl, RowT.nil _ _, RowI.nil _ _, (below_mid (below_mid hb6_.out hb7_.out) (by first | exact HB8 | exact bel))⟩
    obtain ⟨L, hL⟩ : ∃ L : Nat, (L : Int) = (st.length : Int) - (I.length : Int) := ⟨st.length - I.length, by omega⟩
    have hL' : st.length - I.length = L := by omega
    have HOK := Aside0.mk (show fitAll m.c 33 (st.drop L) I = true → R = (0, st.take L ++ O, nx) from fun h => by rw [← HRR.out, HNN.out, ← HNV.out, ← hL']; rw [← hL'] at h; exact typesV_ok (by omega) h)
    have HUN := Aside0.mk (show fitAll m.c 33 (st.drop L) I = false → R = (4, [], []) from fun h => by rw [← HRR.out, HNN.out]; rw [← hL'] at h; exact typesV_unfit h)
    go_wp2_with (first | (go_at_call 14; (with_reducible refine (rule_calls ⟨A0, A1, A2, some ae, A4, c0, c1, c2, c3, c4⟩ m f 33 A B _ (HM.out.below (below_mid (below_mid hb6_.out hb7_.out) bel)) HS.out g0 g1 b0 b1 b2 b3 HNM.out).mono ?_); rintro e w8 ⟨va, vo, rfl, hi, ho, hb8⟩; rw [HIO.out] at hi ho; dsimp only at hi ho; obtain ⟨Ai, ci, rfl, hci, hCi⟩ := hi.form; obtain ⟨Ao, co, rfl, hco, hCo⟩ := ho.form; have HCi := Aside0.mk hCi; have HCo := Aside0.mk hCo; clear hi ho hCi hCo; have HB8 : Below w7.heap.size w7 w8 := below_step bel hb8; have n0_8 := keepc HB8 n0_7; clear hb8))
    rw [← hL]
    have hb9_ := Aside0.mk (below_mid (below_mid hb6_.out hb7_.out) HB8)
    have HN9 := Aside0.mk (HN6.out.below (below_step hb7_.out HB8))
    have HX9 := Aside0.mk (blk_below HX7.out HB8)
    have HI9 := Aside0.mk (blk_below HI7.out HB8)
    have hL1_ : L ≤ st.length := by omega
    have hL2 : L ≤ cs := by omega
    have hL3 : (L : Int) ≤ (cs : Int) := by omega
    have HTL := Aside0.mk (take_C HT.out hL1_)
    have hLI1 : L + I.length ≤ st.length := by omega
    have hLI2 : st.length ≤ L + I.length := by omega
    have hLO : L + O.length ≤ 10 := by omega
    try clear hL
    try clear hL'
    try clear hL1
    refine rloop 33 A B m w.heap.size (w.heap.size + 1) A0 A1 (some ae) A2 A4 c0 c1 c2 c3 c4 _ _ _ _ st I L _ _ _ _ _ HX9.out HI9.out (Kd.C_below HT.out hb9_.out) HCi.out (Kd.C_below HM.out.h0 hb9_.out) HM.out.n0 HS.out.fits.c8 hsl hLI1 hLI2 hI8 (fun w' hb hf => by rw [HUN.out hf]; exact ⟨_, _, rfl, RowT.nil _ _, RowI.nil _ _, below_mid hb9_.out hb⟩) ?_ _ _ _ _ _ _ _ _ _ _ _ _ _ _ _ _ _ _ _ _ _ _ _ _ _ _ _ _ _ _ _ _ _ _ _ _ _ _ _ _ _ _ _ _ _ _ _ _ _ _ _ _ _ _ _ _ _ _ _ _ _ _ _ _ _ _ _ _ _ _ _ _ _ _ _ _ _ _ _ _ _ _ _ _ _ _ _ _ _ _ _ _ _ _ _ _ _ _ _ _ _ _ _ _ _ _ _ _ _ _ _ _ _ _ _ _ _ _ _ _ _ _ _ _ _ _ _ _ _ _ _ _ _ _ _ _ _ _ _ _ _ _ _ _ _ _ _ _ _ _ _ _ _ _ _ _ _ _ _ _ _ _ _ _ _ _ _ _ _ _ _ _ _ _ _ _ _ _ _ _ _ _ _ _ _ _ _ _
    intros
    rename_i wr hwr hfit
    have HRE := Aside0.mk (HOK.out hfit)
    have HBR := Aside0.mk hwr
    have hbw := below_mid hb9_.out hwr
    clear hfit hwr
    go_wp2_with (first | ((with_reducible refine gate_dst (N := 188) rfl ?_); (try (refine gate_guard (by rfl) ?_; dsimp only)); refine Kd.R_lit k38 (w0 := wr) wr.heap.size 38 ?hg (N := 188) ?hd (xs := ([] : List S38)) (inner := []) (ok := fun _ => True) (okp := fun _ => True) ?hr ?hp (fun _ hk => hk) trivial (Below.refl _ _) (Nat.le_refl _) (by simp) ?_; (case hd => rfl); (case hg => rfl); (case hr => first | (go_simp; done) | (go_simp; rfl)); (case hp => exact (Reps.none _ _)); intro v13 w13 ho hb13 hg_ hn_; clear hg_ hn_; have HO13 := Aside0.mk ho; clear ho; have HB13 := hb13; clear hb13) | ((with_reducible refine gate_builtin (b := .append) (xs := #[.tmp 188, .tmp 191]) rfl ?_); (try (refine gate_guard (by rfl) ?_; dsimp only)); at_builtin; refine Kd.R_append_rows k38 (w0 := wr) wr.heap.size rfl (.tmp 188) (.tmp 191) 23 38 (.agg #[(.int .i64 0), (.int .i64 0)]) 16 rfl Try.underlying23 info38 rfl (by decide) (by omega) v13 [] (st.take L) _ _ _ (fun _ => True) (fun _ => False) rfl rfl HO13.out (Kd.C_below HTL.out (below_mid hbw HB13)) (fun _ _ h => h) (fun _ h => h.elim) (fun _ _ => trivial) HB13 HB13.size (by simp only [List.length_append, List.length_nil, List.length_take]; omega) ?_; intro v14 w14 ho hb14 hg_ hn_; clear hg_ hn_; have HO14 := Aside0.mk ho; clear ho; have HB14 := hb14; clear hb14) | ((with_reducible refine gate_builtin (b := .append) (xs := #[.tmp 192, .tmp 193]) rfl ?_); (try (refine gate_guard (by rfl) ?_; dsimp only)); at_builtin; refine Kd.R_append_rows k38 (w0 := wr) wr.heap.size rfl (.tmp 192) (.tmp 193) 23 38 (.agg #[(.int .i64 0), (.int .i64 0)]) 16 rfl Try.underlying23 info38 rfl (by decide) (by omega) v14 ([] ++ st.take L) O _ _ _ (fun _ => True) (fun _ => False) rfl rfl HO14.out (Kd.C_below HCo.out (below_step HBR.out HB14)) (fun _ _ h => h) (fun _ h => h.elim) (fun _ _ => trivial) HB14 HB14.size (by simp only [List.length_append, List.length_nil, List.length_take]; omega) ?_; intro v15 w15 ho hb15 hg_ hn_; clear hg_ hn_; have HO15 := Aside0.mk ho; clear ho; have HB15 := hb15; clear hb15))
    refine bodyPost_ret (results_tmp3 rfl _ _ _) rfl ?_
    rw [HRE.out]
    exact ⟨_, _, rfl, (RowT.ofR HO15.out).lower (Nat.zero_le _), by have h9 := (HN9.out.below HBR.out).below HB15; (try rw [hnl] at h9); exact h9, below_mid hbw HB15⟩
  have d33 : (op == 33) = false := beq_eq_false_iff_ne.2 h33
  have hnx0 : nextsV ⟨op, A, B⟩ pc = [pc + 1] := by simp [nextsV, h18, h19, h33]
  obtain ⟨nx, hnx⟩ : ∃ nx : List Int, [pc + 1] = nx := ⟨_, rfl⟩
  have hnx1 : nextsV ⟨op, A, B⟩ pc = nx := by rw [hnx0, ← hnx]
  have HNV := Aside0.mk hnx1
  have HNX := Aside0.mk hnx
  have hn0 : rd nx 0 = pc + 1 := by rw [← hnx]; rfl
  have hnl : nx.length = 1 := by rw [← hnx]; rfl
  have hmem : ((rd_T41 m.m f).f3.length : Int) ∈ nextsV ⟨op, A, B⟩ pc ↔ (X.length : Int) ≤ pc + 1 := by rw [HXX.out, hnx0]; simp only [List.mem_cons, List.not_mem_nil, or_false]; omega
  have dn : decide (0 < (nx.length : Int)) = true := decide_eq_true (by omega)
  clear hnx hnx0 hnx1
  have HY := Aside0.mk y4
  go_enter Try.func10, Try.ntmps10
  go_upto_region 4 with fail
  refine see (F := fun w0_ => Below w.heap.size w w0_ ∧ w0_.heap[w.heap.size]? = some (.cells #[.slice A0 m.c.length c0, .slice A1 m.s.length c1, .slice A2 m.n.length c2, .slice (some ae) m.m.length c3, .slice A4 m.e.length c4, .int .i64 m.sk, .int .i64 m.hp] 28 (0, 0)) ∧ w0_.heap[w.heap.size + 1]? = some (.cells #[.int .i64 op, .int .i64 A, .int .i64 B] 44 (0, 0))) _ ⟨bel, (blk2 w _ _).1, (blk2 w _ _).2⟩ ?_
  rintro w0 ⟨hb0_, HX0, HI0⟩
  replace hb0_ := Aside0.mk hb0_
  replace HX0 := Aside0.mk HX0
  replace HI0 := Aside0.mk HI0
  have HB_0 := Below.refl w0.heap.size w0
  have j0_0 := (blk_cell HI0.out 0).trans rfl
  have j1_0 := (blk_cell HI0.out 1).trans rfl
  go_wp2_with (first | ((with_reducible refine gate_dst (N := 55) rfl ?_); (try (refine gate_guard (by rfl) ?_; dsimp only)); refine Kd.R_lit (Kd.int .i64) (w0 := w0) w0.heap.size 3 ?hg (N := 55) ?hd (xs := ([pc + 1] : List Int)) (inner := [.int .i64 (pc + 1)]) (ok := fun _ => True) (okp := fun _ => True) ?hr ?hp (fun _ hk => hk) trivial (Below.refl _ _) (Nat.le_refl _) (by simp) ?_; (case hd => rfl); (case hg => rfl); (case hr => first | (go_simp; done) | (go_simp; rfl)); (case hp => exact (Reps.one (show Kd.M (Kd.int .i64) _ _ _ (pc + 1) [.int .i64 (pc + 1)] from rfl) (Reps.none _ _))); intro v3 w3 ho hb3 hg_ hn_; clear hg_ hn_; rw [HNX.out] at ho; obtain ⟨An3, kn3, rfl⟩ := Kd.R_slice ho; have HN3 := Aside0.mk ho; clear ho; have j0_3 := keepc hb3 j0_0; have j1_3 := keepc hb3 j1_0; have HB_3 : Below w0.heap.size w0 w3 := below_step HB_0 hb3; clear hb3))
  refine see (F := fun w0_ => Below w.heap.size w w0_ ∧ w0_.heap[w.heap.size]? = some (.cells #[.slice A0 m.c.length c0, .slice A1 m.s.length c1, .slice A2 m.n.length c2, .slice (some ae) m.m.length c3, .slice A4 m.e.length c4, .int .i64 m.sk, .int .i64 m.hp] 28 (0, 0)) ∧ w0_.heap[w.heap.size + 1]? = some (.cells #[.int .i64 op, .int .i64 A, .int .i64 B] 44 (0, 0)) ∧ RowI w0_ 0 (.slice An3 nx.length kn3) nx) _ ⟨below_mid hb0_.out HB_3, blk_below HX0.out HB_3, blk_below HI0.out HB_3, ((RowI.ofR HN3.out).lower (Nat.zero_le _))⟩ ?_
  rintro w6 ⟨hb6_, HX6, HI6, HN6⟩
  replace hb6_ := Aside0.mk hb6_
  replace HX6 := Aside0.mk HX6
  replace HI6 := Aside0.mk HI6
  replace HN6 := Aside0.mk HN6
  clear HB_0 j0_0 j1_0 HB_3 j0_3 j1_3
  obtain ⟨A_, c_, e_, hkn, hCn⟩ := HN6.out.form
  injection e_ with e1_ e2_ e3_
  subst e1_ e3_
  clear e2_
  obtain ⟨an, hAn, q0⟩ := Kd.at_int hCn 0 (by decide) (by omega)
  subst hAn
  rw [hn0] at q0
  have HCn := Aside0.mk hCn
  clear hCn
  replace q0 : w6.cell? an = some (.int .i64 (pc + 1)) := by simpa [Addr.add] using q0
  have hy6 := keepc hb6_.out HY.out
  have hnl1 : 0 < (nx.length : Int) := by omega
  refine see (F := fun w0_ => Below w6.heap.size w6 w0_ ∧ w0_.cell? ⟨w.heap.size, 3, none⟩ = some (.slice (some ae) m.m.length c3) ∧ w0_.cell? ⟨(ae.add (f.toNat * 8)).block, (ae.add (f.toNat * 8)).off + 4, none⟩ = some (.slice (some ai) X.length g4') ∧ w0_.cell? an = some (.int .i64 (pc + 1))) _ ⟨bel, (blk_cell HX6.out 3).trans rfl, hy6, q0⟩ ?_
  rintro w7 ⟨hb7_, hq1_, hq2_, hq3_⟩
  replace hb7_ := Aside0.mk hb7_
  replace hq1_ := Aside0.mk hq1_
  replace hq2_ := Aside0.mk hq2_
  replace hq3_ := Aside0.mk hq3_
  obtain ⟨cn, hcn⟩ : ∃ b, decide ((X.length : Int) ≤ pc + 1) = b := ⟨_, rfl⟩
  cases cn with
  | true =>
    have KP := Aside0.mk (show ∀ w', Below w7.heap.size w7 w' → (w'.cell? ⟨w.heap.size, 3, none⟩ = some (.slice (some ae) m.m.length c3) ∧ w'.cell? ⟨(ae.add (f.toNat * 8)).block, (ae.add (f.toNat * 8)).off + 4, none⟩ = some (.slice (some ai) X.length g4') ∧ w'.cell? an = some (.int .i64 (pc + 1))) from fun w' h => ⟨keepc h hq1_.out, keepc h hq2_.out, keepc h hq3_.out⟩)
    go_region_held3 (fun w' => w'.cell? ⟨w.heap.size, 3, none⟩ = some (.slice (some ae) m.m.length c3) ∧ w'.cell? ⟨(ae.add (f.toNat * 8)).block, (ae.add (f.toNat * 8)).off + 4, none⟩ = some (.slice (some ai) X.length g4') ∧ w'.cell? an = some (.int .i64 (pc + 1))) (((try dsimp only); first | exact KP.out _ (by assumption) | exact KP.out _ (Below.drew (Below.refl _ _)) | exact KP.out _ (below_alloc (by assumption) _) | exact KP.out _ (below_alloc (Below.refl _ _) _) | exact KP.out _ (below_alloc (below_alloc (Below.refl _ _) _) _) | exact KP.out _ (below_drew (below_alloc (Below.refl _ _) _)) | exact KP.out _ (below_drew (below_alloc (below_alloc (Below.refl _ _) _) _)) | exact KP.out _ (below_drew (below_alloc (by assumption) _)))) (first | fail)
    go_wp2_with fail
    have HRE := Aside0.mk (show R = (4, [], []) from by rw [← HRR.out]; exact stepI_next (hmem.2 (of_decide_eq_true hcn)))
    refine bodyPost_ret (results_tmp3 rfl _ _ _) rfl ?_
    rw [HRE.out]
    exact ⟨_, _, rfl, RowT.nil _ _, RowI.nil _ _, below_step (below_mid hb6_.out hb7_.out) bel⟩
  | false =>
    have hnm : ¬ ((rd_T41 m.m f).f3.length : Int) ∈ nextsV ⟨op, A, B⟩ pc := fun h => absurd (hmem.1 h) (of_decide_eq_false hcn)
    have KP := Aside0.mk (show ∀ w', Below w7.heap.size w7 w' → (w'.cell? ⟨w.heap.size, 3, none⟩ = some (.slice (some ae) m.m.length c3) ∧ w'.cell? ⟨(ae.add (f.toNat * 8)).block, (ae.add (f.toNat * 8)).off + 4, none⟩ = some (.slice (some ai) X.length g4') ∧ w'.cell? an = some (.int .i64 (pc + 1))) from fun w' h => ⟨keepc h hq1_.out, keepc h hq2_.out, keepc h hq3_.out⟩)
    go_region_held3 (fun w' => w'.cell? ⟨w.heap.size, 3, none⟩ = some (.slice (some ae) m.m.length c3) ∧ w'.cell? ⟨(ae.add (f.toNat * 8)).block, (ae.add (f.toNat * 8)).off + 4, none⟩ = some (.slice (some ai) X.length g4') ∧ w'.cell? an = some (.int .i64 (pc + 1))) (((try dsimp only); first | exact KP.out _ (by assumption) | exact KP.out _ (Below.drew (Below.refl _ _)) | exact KP.out _ (below_alloc (by assumption) _) | exact KP.out _ (below_alloc (Below.refl _ _) _) | exact KP.out _ (below_alloc (below_alloc (Below.refl _ _) _) _) | exact KP.out _ (below_drew (below_alloc (Below.refl _ _) _)) | exact KP.out _ (below_drew (below_alloc (below_alloc (Below.refl _ _) _) _)) | exact KP.out _ (below_drew (below_alloc (by assumption) _)))) (first | fail)
    clear hmem
    have HX7 := Aside0.mk (blk_below HX6.out hb7_.out)
    have HI7 := Aside0.mk (blk_below HI6.out hb7_.out)
    have m0_7 := (blk_cell HX7.out 0).trans rfl
    have m1_7 := (blk_cell HX7.out 1).trans rfl
    have m2_7 := (blk_cell HX7.out 2).trans rfl
    have m3_7 := (blk_cell HX7.out 3).trans rfl
    have m4_7 := (blk_cell HX7.out 4).trans rfl
    have m5_7 := (blk_cell HX7.out 5).trans rfl
    have m6_7 := (blk_cell HX7.out 6).trans rfl
    have n0_7 := (blk_cell HI7.out 0).trans rfl
    have n1_7 := (blk_cell HI7.out 1).trans rfl
    have n2_7 := (blk_cell HI7.out 2).trans rfl
    by_cases h6 : op = 6
    · have d6 : (op == 6) = true := beq_iff_eq.2 h6
      have H6 := Aside0.mk h6
      clear h6
      obtain ⟨⟨I0, O0⟩, hio⟩ : ∃ io, ofV m (rd_T41 m.m f) op A B = io := ⟨_, rfl⟩
      have HIO := Aside0.mk hio
      clear hio
      have HND := Aside0.mk (stepI_dup (m := m) (st := st) (pc := pc) (i := ⟨op, A, B⟩) hnm H6.out)
      by_cases hd0 : st.length = 0
      · go_wp2_with (first | (go_at_call 14; (with_reducible refine (rule_calls ⟨A0, A1, A2, some ae, A4, c0, c1, c2, c3, c4⟩ m f op A B _ (HM.out.below (below_mid (below_mid hb6_.out hb7_.out) bel)) HS.out g0 g1 b0 b1 b2 b3 HNM.out).mono ?_); rintro e w8 ⟨va, vo, rfl, hi, ho, hb8⟩; rw [HIO.out] at hi ho; dsimp only at hi ho; obtain ⟨Ai, ci, rfl, hci, hCi⟩ := hi.form; obtain ⟨Ao, co, rfl, hco, hCo⟩ := ho.form; have HCi := Aside0.mk hCi; have HCo := Aside0.mk hCo; clear hi ho hCi hCo; have HB8 : Below w7.heap.size w7 w8 := below_step bel hb8; have n0_8 := keepc HB8 n0_7; clear hb8))
        have HRE := Aside0.mk (show R = (4, [], []) from by rw [← HRR.out]; exact HND.out.trans (dupV_bad (.inl hd0)))
        refine bodyPost_ret (results_tmp3 rfl _ _ _) rfl ?_
        rw [HRE.out]
        exact ⟨_, _, rfl, RowT.nil _ _, RowI.nil _ _, (below_mid (below_mid hb6_.out hb7_.out) HB8)⟩
      have hpos : 0 < st.length := by omega
      obtain ⟨L, hL1⟩ : ∃ L, L + 1 = st.length := ⟨st.length - 1, by omega⟩
      obtain ⟨asd, hAs, s0, s1⟩ := at_T38 HT.out (L : Int) (by omega) (by omega)
      subst hAs
      obtain ⟨⟨t0, t1⟩, ht⟩ : ∃ t, rd_T38 st (L : Int) = t := ⟨_, rfl⟩
      rw [ht] at s0 s1
      have HTT := Aside0.mk ht
      clear ht
      dsimp only at s0 s1
      have hLn : ((L : Int)).toNat = st.length - 1 := by omega
      rw [hLn] at s0 s1
      clear hLn
      go_wp2_with (first | (go_at_call 14; (with_reducible refine (rule_calls ⟨A0, A1, A2, some ae, A4, c0, c1, c2, c3, c4⟩ m f op A B _ (HM.out.below (below_mid (below_mid hb6_.out hb7_.out) bel)) HS.out g0 g1 b0 b1 b2 b3 HNM.out).mono ?_); rintro e w8 ⟨va, vo, rfl, hi, ho, hb8⟩; rw [HIO.out] at hi ho; dsimp only at hi ho; obtain ⟨Ai, ci, rfl, hci, hCi⟩ := hi.form; obtain ⟨Ao, co, rfl, hco, hCo⟩ := ho.form; have HCi := Aside0.mk hCi; have HCo := Aside0.mk hCo; clear hi ho hCi hCo; have HB8 : Below w7.heap.size w7 w8 := below_step bel hb8; have n0_8 := keepc HB8 n0_7; have HB08 : Below w.heap.size w w8 := below_mid (below_mid hb6_.out hb7_.out) HB8; have s0_8 := keepc HB08 s0; have s1_8 := keepc HB08 s1; clear hb8))
      obtain ⟨I, hI⟩ : ∃ I : List S38, [⟨0, 0⟩] = I := ⟨_, rfl⟩
      obtain ⟨O, hO⟩ : ∃ O : List S38, [⟨t0, t1⟩, ⟨t0, t1⟩] = O := ⟨_, rfl⟩
      have HII := Aside0.mk hI
      have HOO := Aside0.mk hO
      have HI1 := Aside0.mk (show I.length = 1 from by rw [← hI]; rfl)
      have HO2 := Aside0.mk (show O.length = 2 from by rw [← hO]; rfl)
      clear hI hO
      refine see (F := fun w0_ => Below w8.heap.size w8 w0_ ∧ w0_.cell? ⟨w8.heap.size, 0, none⟩ = some (.int .i64 t0) ∧ w0_.cell? ⟨w8.heap.size, 1, none⟩ = some (.int .i64 t1)) _ ⟨bel, (blk_cell (heap_alloc_new w8 _) 0).trans rfl, (blk_cell (heap_alloc_new w8 _) 1).trans rfl⟩ ?_
      rintro w12 ⟨hb12_, hq1_, hq2_⟩
      replace hb12_ := Aside0.mk hb12_
      replace hq1_ := Aside0.mk hq1_
      replace hq2_ := Aside0.mk hq2_
      have KP := Aside0.mk (show ∀ w', Below w12.heap.size w12 w' → (w'.cell? ⟨w8.heap.size, 0, none⟩ = some (.int .i64 t0) ∧ w'.cell? ⟨w8.heap.size, 1, none⟩ = some (.int .i64 t1)) from fun w' h => ⟨keepc h hq1_.out, keepc h hq2_.out⟩)
      refine wp_region_noPanic ?_
      refine wp_region_held_drew (S := fun w' => w'.cell? ⟨w8.heap.size, 0, none⟩ = some (.int .i64 t0) ∧ w'.cell? ⟨w8.heap.size, 1, none⟩ = some (.int .i64 t1)) (by kernel_rfl) (by ((try dsimp only); first | exact KP.out _ (by assumption) | exact KP.out _ (Below.drew (Below.refl _ _)) | exact KP.out _ (below_alloc (by assumption) _) | exact KP.out _ (below_alloc (Below.refl _ _) _) | exact KP.out _ (below_alloc (below_alloc (Below.refl _ _) _) _) | exact KP.out _ (below_drew (below_alloc (Below.refl _ _) _)) | exact KP.out _ (below_drew (below_alloc (below_alloc (Below.refl _ _) _) _)) | exact KP.out _ (below_drew (below_alloc (by assumption) _)))) (fun hHeld => ?_)
      refine wpAnyH_take (i := 0) (oi := _) (v := ?v27) rfl (by kernel_rfl) (by kernel_rfl) (by kernel_rfl) (fun _ _ _ h => h) (Or.inl ⟨by rfl, ?hy27⟩) (by assumption) ?hr27
      case hy27 => (intro w hSw; (try dsimp only at hSw); (first | (go_simp; done) | (go_simp; with_reducible rfl)))
      (try simp only [Act.put, List.getElem_toArray, List.getElem_cons_zero, List.getElem_cons_succ, List.setIfInBounds_toArray, List.set_cons_zero, List.set_cons_succ])
      refine wpAnyH_take (i := 2) (oi := _) (v := ?v28) rfl (by kernel_rfl) (by kernel_rfl) (by kernel_rfl) (fun _ _ _ h => h) (Or.inl ⟨by rfl, ?hy28⟩) (by assumption) ?hr28
      case hy28 => (intro w hSw; (try dsimp only at hSw); (first | (go_simp; done) | (go_simp; with_reducible rfl)))
      (try simp only [Act.put, List.getElem_toArray, List.getElem_cons_zero, List.getElem_cons_succ, List.setIfInBounds_toArray, List.set_cons_zero, List.set_cons_succ])
      refine wpAnyH_take (i := 3) (oi := _) (v := ?v29) rfl (by kernel_rfl) (by kernel_rfl) (by kernel_rfl) (fun _ _ _ h => h) (Or.inl ⟨by rfl, ?hy29⟩) (by assumption) ?hr29
      case hy29 => (intro w hSw; (try dsimp only at hSw); (first | (go_simp; done) | (go_simp; with_reducible rfl)))
      (try simp only [Act.put, List.getElem_toArray, List.getElem_cons_zero, List.getElem_cons_succ, List.setIfInBounds_toArray, List.set_cons_zero, List.set_cons_succ])
      refine wpAnyH_ready (rs := [1, 4]) (by kernel_rfl) (by simp) ?_
      refine AllReadyH.cons (o := _) rfl (fun K hK => ?_) (AllReadyH.cons (o := _) rfl (fun K hK => ?_) (AllReadyH.nil))
      · first | (refine Kd.R_lit_step k38 (w0 := _) _ 38 ?hg (N := 112) ?hd (xs := ([⟨0, 0⟩] : List S38)) (inner := [.int .i64 0, .int .i64 0]) (ok := fun _ => True) (okp := fun _ => True) ?hr ?hp (fun _ hk => hk) trivial (Below.refl _ _) (Nat.le_refl _) (by simp) ?_; (case hd => rfl); (case hg => rfl); (case hr => first | (go_simp; done) | (go_simp; rfl)); (case hp => exact one_repsT _ _ _ ⟨0, 0⟩); intro v13 w13 ho hb13 hg_ hn_; clear hg_ hn_; rw [HII.out] at ho; obtain ⟨Ai, ci, rfl⟩ := Kd.R_slice ho; have HO13 := Aside0.mk ho; clear ho; have HB13 : Below w12.heap.size w12 w13 := below_step (by first | exact Below.refl _ _ | exact Below.drew (Below.refl _ _) | assumption | exact below_alloc (Below.drew (Below.refl _ _)) _ | exact below_alloc (by assumption) _) hb13; have HBB13 := hb13; clear hb13; show K (Act.put _ (some 112) _) w13) | (refine Kd.R_lit_step k38 (w0 := _) _ 38 ?hg (N := 115) ?hd (xs := ([⟨t0, t1⟩, ⟨t0, t1⟩] : List S38)) (inner := [.int .i64 t0, .int .i64 t1, .int .i64 t0, .int .i64 t1]) (ok := fun _ => True) (okp := fun _ => True) ?hr ?hp (fun _ hk => hk) trivial (Below.refl _ _) (Nat.le_refl _) (by simp) ?_; (case hd => rfl); (case hg => rfl); (case hr => first | (go_simp; done) | (go_simp; rfl)); (case hp => exact two_repsT _ _ _ ⟨t0, t1⟩); intro v14 w14 ho hb14 hg_ hn_; clear hg_ hn_; rw [HOO.out] at ho; obtain ⟨Ao, co, rfl⟩ := Kd.R_slice ho; have HO14 := Aside0.mk ho; clear ho; have HB14 : Below w12.heap.size w12 w14 := below_step (by first | exact Below.refl _ _ | exact Below.drew (Below.refl _ _) | assumption | exact below_alloc (Below.drew (Below.refl _ _)) _ | exact below_alloc (by assumption) _) hb14; have HBB14 := hb14; clear hb14; show K (Act.put _ (some 115) _) w14) | go_simp
        refine hK.out _ _ (by ((try dsimp only); first | exact KP.out _ (by assumption) | exact KP.out _ (Below.drew (Below.refl _ _)) | exact KP.out _ (below_alloc (by assumption) _) | exact KP.out _ (below_alloc (Below.refl _ _) _) | exact KP.out _ (below_alloc (below_alloc (Below.refl _ _) _) _) | exact KP.out _ (below_drew (below_alloc (Below.refl _ _) _)) | exact KP.out _ (below_drew (below_alloc (below_alloc (Below.refl _ _) _) _)) | exact KP.out _ (below_drew (below_alloc (by assumption) _)))) (fun hHeld => ?_)
        clear hK K
        (try simp only [Act.put, List.getElem_toArray, List.getElem_cons_zero, List.getElem_cons_succ, List.setIfInBounds_toArray, List.set_cons_zero, List.set_cons_succ])
        refine wpAnyH_ready (rs := [4, 5]) (by kernel_rfl) (by simp) ?_
        refine AllReadyH.cons (o := _) rfl (fun K hK => ?_) (AllReadyH.cons (o := _) rfl (fun K hK => ?_) (AllReadyH.nil))
        · first | (refine Kd.R_lit_step k38 (w0 := _) _ 38 ?hg (N := 112) ?hd (xs := ([⟨0, 0⟩] : List S38)) (inner := [.int .i64 0, .int .i64 0]) (ok := fun _ => True) (okp := fun _ => True) ?hr ?hp (fun _ hk => hk) trivial (Below.refl _ _) (Nat.le_refl _) (by simp) ?_; (case hd => rfl); (case hg => rfl); (case hr => first | (go_simp; done) | (go_simp; rfl)); (case hp => exact one_repsT _ _ _ ⟨0, 0⟩); intro v13 w13 ho hb13 hg_ hn_; clear hg_ hn_; rw [HII.out] at ho; obtain ⟨Ai, ci, rfl⟩ := Kd.R_slice ho; have HO13 := Aside0.mk ho; clear ho; have HB13 : Below w12.heap.size w12 w13 := below_step (by first | exact Below.refl _ _ | exact Below.drew (Below.refl _ _) | assumption | exact below_alloc (Below.drew (Below.refl _ _)) _ | exact below_alloc (by assumption) _) hb13; have HBB13 := hb13; clear hb13; show K (Act.put _ (some 112) _) w13) | (refine Kd.R_lit_step k38 (w0 := _) _ 38 ?hg (N := 115) ?hd (xs := ([⟨t0, t1⟩, ⟨t0, t1⟩] : List S38)) (inner := [.int .i64 t0, .int .i64 t1, .int .i64 t0, .int .i64 t1]) (ok := fun _ => True) (okp := fun _ => True) ?hr ?hp (fun _ hk => hk) trivial (Below.refl _ _) (Nat.le_refl _) (by simp) ?_; (case hd => rfl); (case hg => rfl); (case hr => first | (go_simp; done) | (go_simp; rfl)); (case hp => exact two_repsT _ _ _ ⟨t0, t1⟩); intro v14 w14 ho hb14 hg_ hn_; clear hg_ hn_; rw [HOO.out] at ho; obtain ⟨Ao, co, rfl⟩ := Kd.R_slice ho; have HO14 := Aside0.mk ho; clear ho; have HB14 : Below w12.heap.size w12 w14 := below_step (by first | exact Below.refl _ _ | exact Below.drew (Below.refl _ _) | assumption | exact below_alloc (Below.drew (Below.refl _ _)) _ | exact below_alloc (by assumption) _) hb14; have HBB14 := hb14; clear hb14; show K (Act.put _ (some 115) _) w14) | go_simp
          refine hK.out _ _ (by ((try dsimp only); first | exact KP.out _ (by assumption) | exact KP.out _ (Below.drew (Below.refl _ _)) | exact KP.out _ (below_alloc (by assumption) _) | exact KP.out _ (below_alloc (Below.refl _ _) _) | exact KP.out _ (below_alloc (below_alloc (Below.refl _ _) _) _) | exact KP.out _ (below_drew (below_alloc (Below.refl _ _) _)) | exact KP.out _ (below_drew (below_alloc (below_alloc (Below.refl _ _) _) _)) | exact KP.out _ (below_drew (below_alloc (by assumption) _)))) (fun hHeld => ?_)
          clear hK K
          (try simp only [Act.put, List.getElem_toArray, List.getElem_cons_zero, List.getElem_cons_succ, List.setIfInBounds_toArray, List.set_cons_zero, List.set_cons_succ])
          refine wpAnyH_ready (rs := [5]) (by kernel_rfl) (by simp) ?_
          refine AllReadyH.cons (o := _) rfl (fun K hK => ?_) AllReadyH.nil
          first | (refine Kd.R_lit_step k38 (w0 := _) _ 38 ?hg (N := 112) ?hd (xs := ([⟨0, 0⟩] : List S38)) (inner := [.int .i64 0, .int .i64 0]) (ok := fun _ => True) (okp := fun _ => True) ?hr ?hp (fun _ hk => hk) trivial (Below.refl _ _) (Nat.le_refl _) (by simp) ?_; (case hd => rfl); (case hg => rfl); (case hr => first | (go_simp; done) | (go_simp; rfl)); (case hp => exact one_repsT _ _ _ ⟨0, 0⟩); intro v13 w13 ho hb13 hg_ hn_; clear hg_ hn_; rw [HII.out] at ho; obtain ⟨Ai, ci, rfl⟩ := Kd.R_slice ho; have HO13 := Aside0.mk ho; clear ho; have HB13 : Below w12.heap.size w12 w13 := below_step (by first | exact Below.refl _ _ | exact Below.drew (Below.refl _ _) | assumption | exact below_alloc (Below.drew (Below.refl _ _)) _ | exact below_alloc (by assumption) _) hb13; have HBB13 := hb13; clear hb13; show K (Act.put _ (some 112) _) w13) | (refine Kd.R_lit_step k38 (w0 := _) _ 38 ?hg (N := 115) ?hd (xs := ([⟨t0, t1⟩, ⟨t0, t1⟩] : List S38)) (inner := [.int .i64 t0, .int .i64 t1, .int .i64 t0, .int .i64 t1]) (ok := fun _ => True) (okp := fun _ => True) ?hr ?hp (fun _ hk => hk) trivial (Below.refl _ _) (Nat.le_refl _) (by simp) ?_; (case hd => rfl); (case hg => rfl); (case hr => first | (go_simp; done) | (go_simp; rfl)); (case hp => exact two_repsT _ _ _ ⟨t0, t1⟩); intro v14 w14 ho hb14 hg_ hn_; clear hg_ hn_; rw [HOO.out] at ho; obtain ⟨Ao, co, rfl⟩ := Kd.R_slice ho; have HO14 := Aside0.mk ho; clear ho; have HB14 : Below w12.heap.size w12 w14 := below_step (by first | exact Below.refl _ _ | exact Below.drew (Below.refl _ _) | assumption | exact below_alloc (Below.drew (Below.refl _ _)) _ | exact below_alloc (by assumption) _) hb14; have HBB14 := hb14; clear hb14; show K (Act.put _ (some 115) _) w14) | go_simp
          refine hK.out _ _ (by ((try dsimp only); first | exact KP.out _ (by assumption) | exact KP.out _ (Below.drew (Below.refl _ _)) | exact KP.out _ (below_alloc (by assumption) _) | exact KP.out _ (below_alloc (Below.refl _ _) _) | exact KP.out _ (below_alloc (below_alloc (Below.refl _ _) _) _) | exact KP.out _ (below_drew (below_alloc (Below.refl _ _) _)) | exact KP.out _ (below_drew (below_alloc (below_alloc (Below.refl _ _) _) _)) | exact KP.out _ (below_drew (below_alloc (by assumption) _)))) (fun hHeld => ?_)
          clear hK K
          (try simp only [Act.put, List.getElem_toArray, List.getElem_cons_zero, List.getElem_cons_succ, List.setIfInBounds_toArray, List.set_cons_zero, List.set_cons_succ])
          refine wpAnyH_ready (rs := [6]) (by kernel_rfl) (by simp) ?_
          refine AllReadyH.cons (o := _) rfl (fun K hK => ?_) AllReadyH.nil
          first | (refine Kd.R_lit_step k38 (w0 := _) _ 38 ?hg (N := 112) ?hd (xs := ([⟨0, 0⟩] : List S38)) (inner := [.int .i64 0, .int .i64 0]) (ok := fun _ => True) (okp := fun _ => True) ?hr ?hp (fun _ hk => hk) trivial (Below.refl _ _) (Nat.le_refl _) (by simp) ?_; (case hd => rfl); (case hg => rfl); (case hr => first | (go_simp; done) | (go_simp; rfl)); (case hp => exact one_repsT _ _ _ ⟨0, 0⟩); intro v13 w13 ho hb13 hg_ hn_; clear hg_ hn_; rw [HII.out] at ho; obtain ⟨Ai, ci, rfl⟩ := Kd.R_slice ho; have HO13 := Aside0.mk ho; clear ho; have HB13 : Below w12.heap.size w12 w13 := below_step (by first | exact Below.refl _ _ | exact Below.drew (Below.refl _ _) | assumption | exact below_alloc (Below.drew (Below.refl _ _)) _ | exact below_alloc (by assumption) _) hb13; have HBB13 := hb13; clear hb13; show K (Act.put _ (some 112) _) w13) | (refine Kd.R_lit_step k38 (w0 := _) _ 38 ?hg (N := 115) ?hd (xs := ([⟨t0, t1⟩, ⟨t0, t1⟩] : List S38)) (inner := [.int .i64 t0, .int .i64 t1, .int .i64 t0, .int .i64 t1]) (ok := fun _ => True) (okp := fun _ => True) ?hr ?hp (fun _ hk => hk) trivial (Below.refl _ _) (Nat.le_refl _) (by simp) ?_; (case hd => rfl); (case hg => rfl); (case hr => first | (go_simp; done) | (go_simp; rfl)); (case hp => exact two_repsT _ _ _ ⟨t0, t1⟩); intro v14 w14 ho hb14 hg_ hn_; clear hg_ hn_; rw [HOO.out] at ho; obtain ⟨Ao, co, rfl⟩ := Kd.R_slice ho; have HO14 := Aside0.mk ho; clear ho; have HB14 : Below w12.heap.size w12 w14 := below_step (by first | exact Below.refl _ _ | exact Below.drew (Below.refl _ _) | assumption | exact below_alloc (Below.drew (Below.refl _ _)) _ | exact below_alloc (by assumption) _) hb14; have HBB14 := hb14; clear hb14; show K (Act.put _ (some 115) _) w14) | go_simp
          refine hK.out _ _ (by ((try dsimp only); first | exact KP.out _ (by assumption) | exact KP.out _ (Below.drew (Below.refl _ _)) | exact KP.out _ (below_alloc (by assumption) _) | exact KP.out _ (below_alloc (Below.refl _ _) _) | exact KP.out _ (below_alloc (below_alloc (Below.refl _ _) _) _) | exact KP.out _ (below_drew (below_alloc (Below.refl _ _) _)) | exact KP.out _ (below_drew (below_alloc (below_alloc (Below.refl _ _) _) _)) | exact KP.out _ (below_drew (below_alloc (by assumption) _)))) (fun hHeld => ?_)
          clear hK K
          (try simp only [Act.put, List.getElem_toArray, List.getElem_cons_zero, List.getElem_cons_succ, List.setIfInBounds_toArray, List.set_cons_zero, List.set_cons_succ])
          refine wpAnyH_done (by kernel_rfl) ?_ _
          refine NoPanic.normal ?_
          have HBF : Below w7.heap.size w7 w14 := below_step (below_step HB8 hb12_.out) HB14
          have hr13_ := Kd.R_reads' HO13.out
          have hr14_ := Kd.R_reads' HO14.out
          have hci := hr13_.2.1
          have hco := hr14_.2.1
          have HCi := Aside0.mk (Kd.C_below hr13_.2.2 HBB14)
          have HCo := Aside0.mk hr14_.2.2
          clear hr13_ hr14_
          have n0_f := keepc HBF n0_7
          have hlt : ¬ st.length < I.length := by have := HI1.out; omega
          have dsl : ((st.length : Int) == 0) = false := beq_eq_false_iff_ne.2 (by omega)
          have hI8 : I.length ≤ 8 := by have := HI1.out; omega
          have hO1 : O.length ≤ 2 := by have := HO2.out; omega
          by_cases hmx : 8 < st.length - I.length + O.length
          · go_wp2_with fail
            have HRE := Aside0.mk (show R = (4, [], []) from by rw [← HRR.out]; exact HND.out.trans (dupV_bad (.inr (by have := HI1.out; have := HO2.out; omega))))
            refine bodyPost_ret (results_tmp3 rfl _ _ _) rfl ?_
            rw [HRE.out]
            exact ⟨_, _, rfl, RowT.nil _ _, RowI.nil _ _, (below_mid (below_mid hb6_.out hb7_.out) HBF)⟩
          have hL : (L : Int) = (st.length : Int) - (I.length : Int) := by have := HI1.out; omega
          have HOK := Aside0.mk (show fitAll m.c op (st.drop L) I = true → R = (0, st.take L ++ O, nx) from fun _ => by rw [← HRR.out, HND.out, ← HOO.out, ← HNV.out]; exact dupV_ok (by have := HI1.out; have := HO2.out; omega) hL1 HTT.out)
          have HUN := Aside0.mk (show fitAll m.c op (st.drop L) I = false → R = (4, [], []) from fun h => by rw [← HII.out, fitAll_any] at h; cases h)
          go_wp2_with fail
          rw [← hL]
          have hb9_ := Aside0.mk (below_mid (below_mid hb6_.out hb7_.out) HBF)
          have HN9 := Aside0.mk (HN6.out.below (below_step hb7_.out HBF))
          have HX9 := Aside0.mk (blk_below HX7.out HBF)
          have HI9 := Aside0.mk (blk_below HI7.out HBF)
          have hL1_ : L ≤ st.length := by omega
          have hL2 : L ≤ cs := by omega
          have hL3 : (L : Int) ≤ (cs : Int) := by omega
          have HTL := Aside0.mk (take_C HT.out hL1_)
          have hLI1 : L + I.length ≤ st.length := by omega
          have hLI2 : st.length ≤ L + I.length := by omega
          have hLO : L + O.length ≤ 10 := by omega
          try clear hL
          try clear hL'
          try clear hL1
          refine rloop op A B m w.heap.size (w.heap.size + 1) A0 A1 (some ae) A2 A4 c0 c1 c2 c3 c4 _ _ _ _ st I L _ _ _ _ _ HX9.out HI9.out (Kd.C_below HT.out hb9_.out) HCi.out (Kd.C_below HM.out.h0 hb9_.out) HM.out.n0 HS.out.fits.c8 hsl hLI1 hLI2 hI8 (fun w' hb hf => by rw [HUN.out hf]; exact ⟨_, _, rfl, RowT.nil _ _, RowI.nil _ _, below_mid hb9_.out hb⟩) ?_ _ _ _ _ _ _ _ _ _ _ _ _ _ _ _ _ _ _ _ _ _ _ _ _ _ _ _ _ _ _ _ _ _ _ _ _ _ _ _ _ _ _ _ _ _ _ _ _ _ _ _ _ _ _ _ _ _ _ _ _ _ _ _ _ _ _ _ _ _ _ _ _ _ _ _ _ _ _ _ _ _ _ _ _ _ _ _ _ _ _ _ _ _ _ _ _ _ _ _ _ _ _ _ _ _ _ _ _ _ _ _ _ _ _ _ _ _ _ _ _ _ _ _ _ _ _ _ _ _ _ _ _ _ _ _ _ _ _ _ _ _ _ _ _ _ _ _ _ _ _ _ _ _ _ _ _ _ _ _ _ _ _ _ _ _ _ _ _ _ _ _ _ _ _ _ _ _ _ _ _ _ _ _ _ _ _ _ _
          intros
          rename_i wr hwr hfit
          have HRE := Aside0.mk (HOK.out hfit)
          have HBR := Aside0.mk hwr
          have hbw := below_mid hb9_.out hwr
          clear hfit hwr
          go_wp2_with (first | ((with_reducible refine gate_dst (N := 188) rfl ?_); (try (refine gate_guard (by rfl) ?_; dsimp only)); refine Kd.R_lit k38 (w0 := wr) wr.heap.size 38 ?hg (N := 188) ?hd (xs := ([] : List S38)) (inner := []) (ok := fun _ => True) (okp := fun _ => True) ?hr ?hp (fun _ hk => hk) trivial (Below.refl _ _) (Nat.le_refl _) (by simp) ?_; (case hd => rfl); (case hg => rfl); (case hr => first | (go_simp; done) | (go_simp; rfl)); (case hp => exact (Reps.none _ _)); intro v13 w13 ho hb13 hg_ hn_; clear hg_ hn_; have HO13 := Aside0.mk ho; clear ho; have HB13 := hb13; clear hb13) | ((with_reducible refine gate_builtin (b := .append) (xs := #[.tmp 188, .tmp 191]) rfl ?_); (try (refine gate_guard (by rfl) ?_; dsimp only)); at_builtin; refine Kd.R_append_rows k38 (w0 := wr) wr.heap.size rfl (.tmp 188) (.tmp 191) 23 38 (.agg #[(.int .i64 0), (.int .i64 0)]) 16 rfl Try.underlying23 info38 rfl (by decide) (by omega) v13 [] (st.take L) _ _ _ (fun _ => True) (fun _ => False) rfl rfl HO13.out (Kd.C_below HTL.out (below_mid hbw HB13)) (fun _ _ h => h) (fun _ h => h.elim) (fun _ _ => trivial) HB13 HB13.size (by simp only [List.length_append, List.length_nil, List.length_take]; omega) ?_; intro v14 w14 ho hb14 hg_ hn_; clear hg_ hn_; have HO14 := Aside0.mk ho; clear ho; have HB14 := hb14; clear hb14) | ((with_reducible refine gate_builtin (b := .append) (xs := #[.tmp 192, .tmp 193]) rfl ?_); (try (refine gate_guard (by rfl) ?_; dsimp only)); at_builtin; refine Kd.R_append_rows k38 (w0 := wr) wr.heap.size rfl (.tmp 192) (.tmp 193) 23 38 (.agg #[(.int .i64 0), (.int .i64 0)]) 16 rfl Try.underlying23 info38 rfl (by decide) (by omega) v14 ([] ++ st.take L) O _ _ _ (fun _ => True) (fun _ => False) rfl rfl HO14.out (Kd.C_below HCo.out (below_step HBR.out HB14)) (fun _ _ h => h) (fun _ h => h.elim) (fun _ _ => trivial) HB14 HB14.size (by simp only [List.length_append, List.length_nil, List.length_take]; omega) ?_; intro v15 w15 ho hb15 hg_ hn_; clear hg_ hn_; have HO15 := Aside0.mk ho; clear ho; have HB15 := hb15; clear hb15))
          refine bodyPost_ret (results_tmp3 rfl _ _ _) rfl ?_
          rw [HRE.out]
          exact ⟨_, _, rfl, (RowT.ofR HO15.out).lower (Nat.zero_le _), by have h9 := (HN9.out.below HBR.out).below HB15; (try rw [hnl] at h9); exact h9, below_mid hbw HB15⟩
        · first | (refine Kd.R_lit_step k38 (w0 := _) _ 38 ?hg (N := 112) ?hd (xs := ([⟨0, 0⟩] : List S38)) (inner := [.int .i64 0, .int .i64 0]) (ok := fun _ => True) (okp := fun _ => True) ?hr ?hp (fun _ hk => hk) trivial (Below.refl _ _) (Nat.le_refl _) (by simp) ?_; (case hd => rfl); (case hg => rfl); (case hr => first | (go_simp; done) | (go_simp; rfl)); (case hp => exact one_repsT _ _ _ ⟨0, 0⟩); intro v13 w13 ho hb13 hg_ hn_; clear hg_ hn_; rw [HII.out] at ho; obtain ⟨Ai, ci, rfl⟩ := Kd.R_slice ho; have HO13 := Aside0.mk ho; clear ho; have HB13 : Below w12.heap.size w12 w13 := below_step (by first | exact Below.refl _ _ | exact Below.drew (Below.refl _ _) | assumption | exact below_alloc (Below.drew (Below.refl _ _)) _ | exact below_alloc (by assumption) _) hb13; have HBB13 := hb13; clear hb13; show K (Act.put _ (some 112) _) w13) | (refine Kd.R_lit_step k38 (w0 := _) _ 38 ?hg (N := 115) ?hd (xs := ([⟨t0, t1⟩, ⟨t0, t1⟩] : List S38)) (inner := [.int .i64 t0, .int .i64 t1, .int .i64 t0, .int .i64 t1]) (ok := fun _ => True) (okp := fun _ => True) ?hr ?hp (fun _ hk => hk) trivial (Below.refl _ _) (Nat.le_refl _) (by simp) ?_; (case hd => rfl); (case hg => rfl); (case hr => first | (go_simp; done) | (go_simp; rfl)); (case hp => exact two_repsT _ _ _ ⟨t0, t1⟩); intro v14 w14 ho hb14 hg_ hn_; clear hg_ hn_; rw [HOO.out] at ho; obtain ⟨Ao, co, rfl⟩ := Kd.R_slice ho; have HO14 := Aside0.mk ho; clear ho; have HB14 : Below w12.heap.size w12 w14 := below_step (by first | exact Below.refl _ _ | exact Below.drew (Below.refl _ _) | assumption | exact below_alloc (Below.drew (Below.refl _ _)) _ | exact below_alloc (by assumption) _) hb14; have HBB14 := hb14; clear hb14; show K (Act.put _ (some 115) _) w14) | go_simp
          refine hK.out _ _ (by ((try dsimp only); first | exact KP.out _ (by assumption) | exact KP.out _ (Below.drew (Below.refl _ _)) | exact KP.out _ (below_alloc (by assumption) _) | exact KP.out _ (below_alloc (Below.refl _ _) _) | exact KP.out _ (below_alloc (below_alloc (Below.refl _ _) _) _) | exact KP.out _ (below_drew (below_alloc (Below.refl _ _) _)) | exact KP.out _ (below_drew (below_alloc (below_alloc (Below.refl _ _) _) _)) | exact KP.out _ (below_drew (below_alloc (by assumption) _)))) (fun hHeld => ?_)
          clear hK K
          (try simp only [Act.put, List.getElem_toArray, List.getElem_cons_zero, List.getElem_cons_succ, List.setIfInBounds_toArray, List.set_cons_zero, List.set_cons_succ])
          refine wpAnyH_ready (rs := [4]) (by kernel_rfl) (by simp) ?_
          refine AllReadyH.cons (o := _) rfl (fun K hK => ?_) AllReadyH.nil
          first | (refine Kd.R_lit_step k38 (w0 := _) _ 38 ?hg (N := 112) ?hd (xs := ([⟨0, 0⟩] : List S38)) (inner := [.int .i64 0, .int .i64 0]) (ok := fun _ => True) (okp := fun _ => True) ?hr ?hp (fun _ hk => hk) trivial (Below.refl _ _) (Nat.le_refl _) (by simp) ?_; (case hd => rfl); (case hg => rfl); (case hr => first | (go_simp; done) | (go_simp; rfl)); (case hp => exact one_repsT _ _ _ ⟨0, 0⟩); intro v13 w13 ho hb13 hg_ hn_; clear hg_ hn_; rw [HII.out] at ho; obtain ⟨Ai, ci, rfl⟩ := Kd.R_slice ho; have HO13 := Aside0.mk ho; clear ho; have HB13 : Below w12.heap.size w12 w13 := below_step (by first | exact Below.refl _ _ | exact Below.drew (Below.refl _ _) | assumption | exact below_alloc (Below.drew (Below.refl _ _)) _ | exact below_alloc (by assumption) _) hb13; have HBB13 := hb13; clear hb13; show K (Act.put _ (some 112) _) w13) | (refine Kd.R_lit_step k38 (w0 := _) _ 38 ?hg (N := 115) ?hd (xs := ([⟨t0, t1⟩, ⟨t0, t1⟩] : List S38)) (inner := [.int .i64 t0, .int .i64 t1, .int .i64 t0, .int .i64 t1]) (ok := fun _ => True) (okp := fun _ => True) ?hr ?hp (fun _ hk => hk) trivial (Below.refl _ _) (Nat.le_refl _) (by simp) ?_; (case hd => rfl); (case hg => rfl); (case hr => first | (go_simp; done) | (go_simp; rfl)); (case hp => exact two_repsT _ _ _ ⟨t0, t1⟩); intro v14 w14 ho hb14 hg_ hn_; clear hg_ hn_; rw [HOO.out] at ho; obtain ⟨Ao, co, rfl⟩ := Kd.R_slice ho; have HO14 := Aside0.mk ho; clear ho; have HB14 : Below w12.heap.size w12 w14 := below_step (by first | exact Below.refl _ _ | exact Below.drew (Below.refl _ _) | assumption | exact below_alloc (Below.drew (Below.refl _ _)) _ | exact below_alloc (by assumption) _) hb14; have HBB14 := hb14; clear hb14; show K (Act.put _ (some 115) _) w14) | go_simp
          refine hK.out _ _ (by ((try dsimp only); first | exact KP.out _ (by assumption) | exact KP.out _ (Below.drew (Below.refl _ _)) | exact KP.out _ (below_alloc (by assumption) _) | exact KP.out _ (below_alloc (Below.refl _ _) _) | exact KP.out _ (below_alloc (below_alloc (Below.refl _ _) _) _) | exact KP.out _ (below_drew (below_alloc (Below.refl _ _) _)) | exact KP.out _ (below_drew (below_alloc (below_alloc (Below.refl _ _) _) _)) | exact KP.out _ (below_drew (below_alloc (by assumption) _)))) (fun hHeld => ?_)
          clear hK K
          (try simp only [Act.put, List.getElem_toArray, List.getElem_cons_zero, List.getElem_cons_succ, List.setIfInBounds_toArray, List.set_cons_zero, List.set_cons_succ])
          refine wpAnyH_ready (rs := [6]) (by kernel_rfl) (by simp) ?_
          refine AllReadyH.cons (o := _) rfl (fun K hK => ?_) AllReadyH.nil
          first | (refine Kd.R_lit_step k38 (w0 := _) _ 38 ?hg (N := 112) ?hd (xs := ([⟨0, 0⟩] : List S38)) (inner := [.int .i64 0, .int .i64 0]) (ok := fun _ => True) (okp := fun _ => True) ?hr ?hp (fun _ hk => hk) trivial (Below.refl _ _) (Nat.le_refl _) (by simp) ?_; (case hd => rfl); (case hg => rfl); (case hr => first | (go_simp; done) | (go_simp; rfl)); (case hp => exact one_repsT _ _ _ ⟨0, 0⟩); intro v13 w13 ho hb13 hg_ hn_; clear hg_ hn_; rw [HII.out] at ho; obtain ⟨Ai, ci, rfl⟩ := Kd.R_slice ho; have HO13 := Aside0.mk ho; clear ho; have HB13 : Below w12.heap.size w12 w13 := below_step (by first | exact Below.refl _ _ | exact Below.drew (Below.refl _ _) | assumption | exact below_alloc (Below.drew (Below.refl _ _)) _ | exact below_alloc (by assumption) _) hb13; have HBB13 := hb13; clear hb13; show K (Act.put _ (some 112) _) w13) | (refine Kd.R_lit_step k38 (w0 := _) _ 38 ?hg (N := 115) ?hd (xs := ([⟨t0, t1⟩, ⟨t0, t1⟩] : List S38)) (inner := [.int .i64 t0, .int .i64 t1, .int .i64 t0, .int .i64 t1]) (ok := fun _ => True) (okp := fun _ => True) ?hr ?hp (fun _ hk => hk) trivial (Below.refl _ _) (Nat.le_refl _) (by simp) ?_; (case hd => rfl); (case hg => rfl); (case hr => first | (go_simp; done) | (go_simp; rfl)); (case hp => exact two_repsT _ _ _ ⟨t0, t1⟩); intro v14 w14 ho hb14 hg_ hn_; clear hg_ hn_; rw [HOO.out] at ho; obtain ⟨Ao, co, rfl⟩ := Kd.R_slice ho; have HO14 := Aside0.mk ho; clear ho; have HB14 : Below w12.heap.size w12 w14 := below_step (by first | exact Below.refl _ _ | exact Below.drew (Below.refl _ _) | assumption | exact below_alloc (Below.drew (Below.refl _ _)) _ | exact below_alloc (by assumption) _) hb14; have HBB14 := hb14; clear hb14; show K (Act.put _ (some 115) _) w14) | go_simp
          refine hK.out _ _ (by ((try dsimp only); first | exact KP.out _ (by assumption) | exact KP.out _ (Below.drew (Below.refl _ _)) | exact KP.out _ (below_alloc (by assumption) _) | exact KP.out _ (below_alloc (Below.refl _ _) _) | exact KP.out _ (below_alloc (below_alloc (Below.refl _ _) _) _) | exact KP.out _ (below_drew (below_alloc (Below.refl _ _) _)) | exact KP.out _ (below_drew (below_alloc (below_alloc (Below.refl _ _) _) _)) | exact KP.out _ (below_drew (below_alloc (by assumption) _)))) (fun hHeld => ?_)
          clear hK K
          (try simp only [Act.put, List.getElem_toArray, List.getElem_cons_zero, List.getElem_cons_succ, List.setIfInBounds_toArray, List.set_cons_zero, List.set_cons_succ])
          refine wpAnyH_done (by kernel_rfl) ?_ _
          refine NoPanic.normal ?_
          have HBF : Below w7.heap.size w7 w14 := below_step (below_step HB8 hb12_.out) HB14
          have hr13_ := Kd.R_reads' HO13.out
          have hr14_ := Kd.R_reads' HO14.out
          have hci := hr13_.2.1
          have hco := hr14_.2.1
          have HCi := Aside0.mk (Kd.C_below hr13_.2.2 HBB14)
          have HCo := Aside0.mk hr14_.2.2
          clear hr13_ hr14_
          have n0_f := keepc HBF n0_7
          have hlt : ¬ st.length < I.length := by have := HI1.out; omega
          have dsl : ((st.length : Int) == 0) = false := beq_eq_false_iff_ne.2 (by omega)
          have hI8 : I.length ≤ 8 := by have := HI1.out; omega
          have hO1 : O.length ≤ 2 := by have := HO2.out; omega
          by_cases hmx : 8 < st.length - I.length + O.length
          · go_wp2_with fail
            have HRE := Aside0.mk (show R = (4, [], []) from by rw [← HRR.out]; exact HND.out.trans (dupV_bad (.inr (by have := HI1.out; have := HO2.out; omega))))
            refine bodyPost_ret (results_tmp3 rfl _ _ _) rfl ?_
            rw [HRE.out]
            exact ⟨_, _, rfl, RowT.nil _ _, RowI.nil _ _, (below_mid (below_mid hb6_.out hb7_.out) HBF)⟩
          have hL : (L : Int) = (st.length : Int) - (I.length : Int) := by have := HI1.out; omega
          have HOK := Aside0.mk (show fitAll m.c op (st.drop L) I = true → R = (0, st.take L ++ O, nx) from fun _ => by rw [← HRR.out, HND.out, ← HOO.out, ← HNV.out]; exact dupV_ok (by have := HI1.out; have := HO2.out; omega) hL1 HTT.out)
          have HUN := Aside0.mk (show fitAll m.c op (st.drop L) I = false → R = (4, [], []) from fun h => by rw [← HII.out, fitAll_any] at h; cases h)
          go_wp2_with fail
          rw [← hL]
          have hb9_ := Aside0.mk (below_mid (below_mid hb6_.out hb7_.out) HBF)
          have HN9 := Aside0.mk (HN6.out.below (below_step hb7_.out HBF))
          have HX9 := Aside0.mk (blk_below HX7.out HBF)
          have HI9 := Aside0.mk (blk_below HI7.out HBF)
          have hL1_ : L ≤ st.length := by omega
          have hL2 : L ≤ cs := by omega
          have hL3 : (L : Int) ≤ (cs : Int) := by omega
          have HTL := Aside0.mk (take_C HT.out hL1_)
          have hLI1 : L + I.length ≤ st.length := by omega
          have hLI2 : st.length ≤ L + I.length := by omega
          have hLO : L + O.length ≤ 10 := by omega
          try clear hL
          try clear hL'
          try clear hL1
          refine rloop op A B m w.heap.size (w.heap.size + 1) A0 A1 (some ae) A2 A4 c0 c1 c2 c3 c4 _ _ _ _ st I L _ _ _ _ _ HX9.out HI9.out (Kd.C_below HT.out hb9_.out) HCi.out (Kd.C_below HM.out.h0 hb9_.out) HM.out.n0 HS.out.fits.c8 hsl hLI1 hLI2 hI8 (fun w' hb hf => by rw [HUN.out hf]; exact ⟨_, _, rfl, RowT.nil _ _, RowI.nil _ _, below_mid hb9_.out hb⟩) ?_ _ _ _ _ _ _ _ _ _ _ _ _ _ _ _ _ _ _ _ _ _ _ _ _ _ _ _ _ _ _ _ _ _ _ _ _ _ _ _ _ _ _ _ _ _ _ _ _ _ _ _ _ _ _ _ _ _ _ _ _ _ _ _ _ _ _ _ _ _ _ _ _ _ _ _ _ _ _ _ _ _ _ _ _ _ _ _ _ _ _ _ _ _ _ _ _ _ _ _ _ _ _ _ _ _ _ _ _ _ _ _ _ _ _ _ _ _ _ _ _ _ _ _ _ _ _ _ _ _ _ _ _ _ _ _ _ _ _ _ _ _ _ _ _ _ _ _ _ _ _ _ _ _ _ _ _ _ _ _ _ _ _ _ _ _ _ _ _ _ _ _ _ _ _ _ _ _ _ _ _ _ _ _ _ _ _ _ _
          intros
          rename_i wr hwr hfit
          have HRE := Aside0.mk (HOK.out hfit)
          have HBR := Aside0.mk hwr
          have hbw := below_mid hb9_.out hwr
          clear hfit hwr
          go_wp2_with (first | ((with_reducible refine gate_dst (N := 188) rfl ?_); (try (refine gate_guard (by rfl) ?_; dsimp only)); refine Kd.R_lit k38 (w0 := wr) wr.heap.size 38 ?hg (N := 188) ?hd (xs := ([] : List S38)) (inner := []) (ok := fun _ => True) (okp := fun _ => True) ?hr ?hp (fun _ hk => hk) trivial (Below.refl _ _) (Nat.le_refl _) (by simp) ?_; (case hd => rfl); (case hg => rfl); (case hr => first | (go_simp; done) | (go_simp; rfl)); (case hp => exact (Reps.none _ _)); intro v13 w13 ho hb13 hg_ hn_; clear hg_ hn_; have HO13 := Aside0.mk ho; clear ho; have HB13 := hb13; clear hb13) | ((with_reducible refine gate_builtin (b := .append) (xs := #[.tmp 188, .tmp 191]) rfl ?_); (try (refine gate_guard (by rfl) ?_; dsimp only)); at_builtin; refine Kd.R_append_rows k38 (w0 := wr) wr.heap.size rfl (.tmp 188) (.tmp 191) 23 38 (.agg #[(.int .i64 0), (.int .i64 0)]) 16 rfl Try.underlying23 info38 rfl (by decide) (by omega) v13 [] (st.take L) _ _ _ (fun _ => True) (fun _ => False) rfl rfl HO13.out (Kd.C_below HTL.out (below_mid hbw HB13)) (fun _ _ h => h) (fun _ h => h.elim) (fun _ _ => trivial) HB13 HB13.size (by simp only [List.length_append, List.length_nil, List.length_take]; omega) ?_; intro v14 w14 ho hb14 hg_ hn_; clear hg_ hn_; have HO14 := Aside0.mk ho; clear ho; have HB14 := hb14; clear hb14) | ((with_reducible refine gate_builtin (b := .append) (xs := #[.tmp 192, .tmp 193]) rfl ?_); (try (refine gate_guard (by rfl) ?_; dsimp only)); at_builtin; refine Kd.R_append_rows k38 (w0 := wr) wr.heap.size rfl (.tmp 192) (.tmp 193) 23 38 (.agg #[(.int .i64 0), (.int .i64 0)]) 16 rfl Try.underlying23 info38 rfl (by decide) (by omega) v14 ([] ++ st.take L) O _ _ _ (fun _ => True) (fun _ => False) rfl rfl HO14.out (Kd.C_below HCo.out (below_step HBR.out HB14)) (fun _ _ h => h) (fun _ h => h.elim) (fun _ _ => trivial) HB14 HB14.size (by simp only [List.length_append, List.length_nil, List.length_take]; omega) ?_; intro v15 w15 ho hb15 hg_ hn_; clear hg_ hn_; have HO15 := Aside0.mk ho; clear ho; have HB15 := hb15; clear hb15))
          refine bodyPost_ret (results_tmp3 rfl _ _ _) rfl ?_
          rw [HRE.out]
          exact ⟨_, _, rfl, (RowT.ofR HO15.out).lower (Nat.zero_le _), by have h9 := (HN9.out.below HBR.out).below HB15; (try rw [hnl] at h9); exact h9, below_mid hbw HB15⟩
      · first | (refine Kd.R_lit_step k38 (w0 := _) _ 38 ?hg (N := 112) ?hd (xs := ([⟨0, 0⟩] : List S38)) (inner := [.int .i64 0, .int .i64 0]) (ok := fun _ => True) (okp := fun _ => True) ?hr ?hp (fun _ hk => hk) trivial (Below.refl _ _) (Nat.le_refl _) (by simp) ?_; (case hd => rfl); (case hg => rfl); (case hr => first | (go_simp; done) | (go_simp; rfl)); (case hp => exact one_repsT _ _ _ ⟨0, 0⟩); intro v13 w13 ho hb13 hg_ hn_; clear hg_ hn_; rw [HII.out] at ho; obtain ⟨Ai, ci, rfl⟩ := Kd.R_slice ho; have HO13 := Aside0.mk ho; clear ho; have HB13 : Below w12.heap.size w12 w13 := below_step (by first | exact Below.refl _ _ | exact Below.drew (Below.refl _ _) | assumption | exact below_alloc (Below.drew (Below.refl _ _)) _ | exact below_alloc (by assumption) _) hb13; have HBB13 := hb13; clear hb13; show K (Act.put _ (some 112) _) w13) | (refine Kd.R_lit_step k38 (w0 := _) _ 38 ?hg (N := 115) ?hd (xs := ([⟨t0, t1⟩, ⟨t0, t1⟩] : List S38)) (inner := [.int .i64 t0, .int .i64 t1, .int .i64 t0, .int .i64 t1]) (ok := fun _ => True) (okp := fun _ => True) ?hr ?hp (fun _ hk => hk) trivial (Below.refl _ _) (Nat.le_refl _) (by simp) ?_; (case hd => rfl); (case hg => rfl); (case hr => first | (go_simp; done) | (go_simp; rfl)); (case hp => exact two_repsT _ _ _ ⟨t0, t1⟩); intro v14 w14 ho hb14 hg_ hn_; clear hg_ hn_; rw [HOO.out] at ho; obtain ⟨Ao, co, rfl⟩ := Kd.R_slice ho; have HO14 := Aside0.mk ho; clear ho; have HB14 : Below w12.heap.size w12 w14 := below_step (by first | exact Below.refl _ _ | exact Below.drew (Below.refl _ _) | assumption | exact below_alloc (Below.drew (Below.refl _ _)) _ | exact below_alloc (by assumption) _) hb14; have HBB14 := hb14; clear hb14; show K (Act.put _ (some 115) _) w14) | go_simp
        refine hK.out _ _ (by ((try dsimp only); first | exact KP.out _ (by assumption) | exact KP.out _ (Below.drew (Below.refl _ _)) | exact KP.out _ (below_alloc (by assumption) _) | exact KP.out _ (below_alloc (Below.refl _ _) _) | exact KP.out _ (below_alloc (below_alloc (Below.refl _ _) _) _) | exact KP.out _ (below_drew (below_alloc (Below.refl _ _) _)) | exact KP.out _ (below_drew (below_alloc (below_alloc (Below.refl _ _) _) _)) | exact KP.out _ (below_drew (below_alloc (by assumption) _)))) (fun hHeld => ?_)
        clear hK K
        (try simp only [Act.put, List.getElem_toArray, List.getElem_cons_zero, List.getElem_cons_succ, List.setIfInBounds_toArray, List.set_cons_zero, List.set_cons_succ])
        refine wpAnyH_ready (rs := [1]) (by kernel_rfl) (by simp) ?_
        refine AllReadyH.cons (o := _) rfl (fun K hK => ?_) AllReadyH.nil
        first | (refine Kd.R_lit_step k38 (w0 := _) _ 38 ?hg (N := 112) ?hd (xs := ([⟨0, 0⟩] : List S38)) (inner := [.int .i64 0, .int .i64 0]) (ok := fun _ => True) (okp := fun _ => True) ?hr ?hp (fun _ hk => hk) trivial (Below.refl _ _) (Nat.le_refl _) (by simp) ?_; (case hd => rfl); (case hg => rfl); (case hr => first | (go_simp; done) | (go_simp; rfl)); (case hp => exact one_repsT _ _ _ ⟨0, 0⟩); intro v13 w13 ho hb13 hg_ hn_; clear hg_ hn_; rw [HII.out] at ho; obtain ⟨Ai, ci, rfl⟩ := Kd.R_slice ho; have HO13 := Aside0.mk ho; clear ho; have HB13 : Below w12.heap.size w12 w13 := below_step (by first | exact Below.refl _ _ | exact Below.drew (Below.refl _ _) | assumption | exact below_alloc (Below.drew (Below.refl _ _)) _ | exact below_alloc (by assumption) _) hb13; have HBB13 := hb13; clear hb13; show K (Act.put _ (some 112) _) w13) | (refine Kd.R_lit_step k38 (w0 := _) _ 38 ?hg (N := 115) ?hd (xs := ([⟨t0, t1⟩, ⟨t0, t1⟩] : List S38)) (inner := [.int .i64 t0, .int .i64 t1, .int .i64 t0, .int .i64 t1]) (ok := fun _ => True) (okp := fun _ => True) ?hr ?hp (fun _ hk => hk) trivial (Below.refl _ _) (Nat.le_refl _) (by simp) ?_; (case hd => rfl); (case hg => rfl); (case hr => first | (go_simp; done) | (go_simp; rfl)); (case hp => exact two_repsT _ _ _ ⟨t0, t1⟩); intro v14 w14 ho hb14 hg_ hn_; clear hg_ hn_; rw [HOO.out] at ho; obtain ⟨Ao, co, rfl⟩ := Kd.R_slice ho; have HO14 := Aside0.mk ho; clear ho; have HB14 : Below w12.heap.size w12 w14 := below_step (by first | exact Below.refl _ _ | exact Below.drew (Below.refl _ _) | assumption | exact below_alloc (Below.drew (Below.refl _ _)) _ | exact below_alloc (by assumption) _) hb14; have HBB14 := hb14; clear hb14; show K (Act.put _ (some 115) _) w14) | go_simp
        refine hK.out _ _ (by ((try dsimp only); first | exact KP.out _ (by assumption) | exact KP.out _ (Below.drew (Below.refl _ _)) | exact KP.out _ (below_alloc (by assumption) _) | exact KP.out _ (below_alloc (Below.refl _ _) _) | exact KP.out _ (below_alloc (below_alloc (Below.refl _ _) _) _) | exact KP.out _ (below_drew (below_alloc (Below.refl _ _) _)) | exact KP.out _ (below_drew (below_alloc (below_alloc (Below.refl _ _) _) _)) | exact KP.out _ (below_drew (below_alloc (by assumption) _)))) (fun hHeld => ?_)
        clear hK K
        (try simp only [Act.put, List.getElem_toArray, List.getElem_cons_zero, List.getElem_cons_succ, List.setIfInBounds_toArray, List.set_cons_zero, List.set_cons_succ])
        refine wpAnyH_ready (rs := [5]) (by kernel_rfl) (by simp) ?_
        refine AllReadyH.cons (o := _) rfl (fun K hK => ?_) AllReadyH.nil
        first | (refine Kd.R_lit_step k38 (w0 := _) _ 38 ?hg (N := 112) ?hd (xs := ([⟨0, 0⟩] : List S38)) (inner := [.int .i64 0, .int .i64 0]) (ok := fun _ => True) (okp := fun _ => True) ?hr ?hp (fun _ hk => hk) trivial (Below.refl _ _) (Nat.le_refl _) (by simp) ?_; (case hd => rfl); (case hg => rfl); (case hr => first | (go_simp; done) | (go_simp; rfl)); (case hp => exact one_repsT _ _ _ ⟨0, 0⟩); intro v13 w13 ho hb13 hg_ hn_; clear hg_ hn_; rw [HII.out] at ho; obtain ⟨Ai, ci, rfl⟩ := Kd.R_slice ho; have HO13 := Aside0.mk ho; clear ho; have HB13 : Below w12.heap.size w12 w13 := below_step (by first | exact Below.refl _ _ | exact Below.drew (Below.refl _ _) | assumption | exact below_alloc (Below.drew (Below.refl _ _)) _ | exact below_alloc (by assumption) _) hb13; have HBB13 := hb13; clear hb13; show K (Act.put _ (some 112) _) w13) | (refine Kd.R_lit_step k38 (w0 := _) _ 38 ?hg (N := 115) ?hd (xs := ([⟨t0, t1⟩, ⟨t0, t1⟩] : List S38)) (inner := [.int .i64 t0, .int .i64 t1, .int .i64 t0, .int .i64 t1]) (ok := fun _ => True) (okp := fun _ => True) ?hr ?hp (fun _ hk => hk) trivial (Below.refl _ _) (Nat.le_refl _) (by simp) ?_; (case hd => rfl); (case hg => rfl); (case hr => first | (go_simp; done) | (go_simp; rfl)); (case hp => exact two_repsT _ _ _ ⟨t0, t1⟩); intro v14 w14 ho hb14 hg_ hn_; clear hg_ hn_; rw [HOO.out] at ho; obtain ⟨Ao, co, rfl⟩ := Kd.R_slice ho; have HO14 := Aside0.mk ho; clear ho; have HB14 : Below w12.heap.size w12 w14 := below_step (by first | exact Below.refl _ _ | exact Below.drew (Below.refl _ _) | assumption | exact below_alloc (Below.drew (Below.refl _ _)) _ | exact below_alloc (by assumption) _) hb14; have HBB14 := hb14; clear hb14; show K (Act.put _ (some 115) _) w14) | go_simp
        refine hK.out _ _ (by ((try dsimp only); first | exact KP.out _ (by assumption) | exact KP.out _ (Below.drew (Below.refl _ _)) | exact KP.out _ (below_alloc (by assumption) _) | exact KP.out _ (below_alloc (Below.refl _ _) _) | exact KP.out _ (below_alloc (below_alloc (Below.refl _ _) _) _) | exact KP.out _ (below_drew (below_alloc (Below.refl _ _) _)) | exact KP.out _ (below_drew (below_alloc (below_alloc (Below.refl _ _) _) _)) | exact KP.out _ (below_drew (below_alloc (by assumption) _)))) (fun hHeld => ?_)
        clear hK K
        (try simp only [Act.put, List.getElem_toArray, List.getElem_cons_zero, List.getElem_cons_succ, List.setIfInBounds_toArray, List.set_cons_zero, List.set_cons_succ])
        refine wpAnyH_ready (rs := [6]) (by kernel_rfl) (by simp) ?_
        refine AllReadyH.cons (o := _) rfl (fun K hK => ?_) AllReadyH.nil
        first | (refine Kd.R_lit_step k38 (w0 := _) _ 38 ?hg (N := 112) ?hd (xs := ([⟨0, 0⟩] : List S38)) (inner := [.int .i64 0, .int .i64 0]) (ok := fun _ => True) (okp := fun _ => True) ?hr ?hp (fun _ hk => hk) trivial (Below.refl _ _) (Nat.le_refl _) (by simp) ?_; (case hd => rfl); (case hg => rfl); (case hr => first | (go_simp; done) | (go_simp; rfl)); (case hp => exact one_repsT _ _ _ ⟨0, 0⟩); intro v13 w13 ho hb13 hg_ hn_; clear hg_ hn_; rw [HII.out] at ho; obtain ⟨Ai, ci, rfl⟩ := Kd.R_slice ho; have HO13 := Aside0.mk ho; clear ho; have HB13 : Below w12.heap.size w12 w13 := below_step (by first | exact Below.refl _ _ | exact Below.drew (Below.refl _ _) | assumption | exact below_alloc (Below.drew (Below.refl _ _)) _ | exact below_alloc (by assumption) _) hb13; have HBB13 := hb13; clear hb13; show K (Act.put _ (some 112) _) w13) | (refine Kd.R_lit_step k38 (w0 := _) _ 38 ?hg (N := 115) ?hd (xs := ([⟨t0, t1⟩, ⟨t0, t1⟩] : List S38)) (inner := [.int .i64 t0, .int .i64 t1, .int .i64 t0, .int .i64 t1]) (ok := fun _ => True) (okp := fun _ => True) ?hr ?hp (fun _ hk => hk) trivial (Below.refl _ _) (Nat.le_refl _) (by simp) ?_; (case hd => rfl); (case hg => rfl); (case hr => first | (go_simp; done) | (go_simp; rfl)); (case hp => exact two_repsT _ _ _ ⟨t0, t1⟩); intro v14 w14 ho hb14 hg_ hn_; clear hg_ hn_; rw [HOO.out] at ho; obtain ⟨Ao, co, rfl⟩ := Kd.R_slice ho; have HO14 := Aside0.mk ho; clear ho; have HB14 : Below w12.heap.size w12 w14 := below_step (by first | exact Below.refl _ _ | exact Below.drew (Below.refl _ _) | assumption | exact below_alloc (Below.drew (Below.refl _ _)) _ | exact below_alloc (by assumption) _) hb14; have HBB14 := hb14; clear hb14; show K (Act.put _ (some 115) _) w14) | go_simp
        refine hK.out _ _ (by ((try dsimp only); first | exact KP.out _ (by assumption) | exact KP.out _ (Below.drew (Below.refl _ _)) | exact KP.out _ (below_alloc (by assumption) _) | exact KP.out _ (below_alloc (Below.refl _ _) _) | exact KP.out _ (below_alloc (below_alloc (Below.refl _ _) _) _) | exact KP.out _ (below_drew (below_alloc (Below.refl _ _) _)) | exact KP.out _ (below_drew (below_alloc (below_alloc (Below.refl _ _) _) _)) | exact KP.out _ (below_drew (below_alloc (by assumption) _)))) (fun hHeld => ?_)
        clear hK K
        (try simp only [Act.put, List.getElem_toArray, List.getElem_cons_zero, List.getElem_cons_succ, List.setIfInBounds_toArray, List.set_cons_zero, List.set_cons_succ])
        refine wpAnyH_done (by kernel_rfl) ?_ _
        refine NoPanic.normal ?_
        have HBF : Below w7.heap.size w7 w13 := below_step (below_step HB8 hb12_.out) HB13
        have hr13_ := Kd.R_reads' HO13.out
        have hr14_ := Kd.R_reads' HO14.out
        have hci := hr13_.2.1
        have hco := hr14_.2.1
        have HCi := Aside0.mk hr13_.2.2
        have HCo := Aside0.mk (Kd.C_below hr14_.2.2 HBB13)
        clear hr13_ hr14_
        have n0_f := keepc HBF n0_7
        have hlt : ¬ st.length < I.length := by have := HI1.out; omega
        have dsl : ((st.length : Int) == 0) = false := beq_eq_false_iff_ne.2 (by omega)
        have hI8 : I.length ≤ 8 := by have := HI1.out; omega
        have hO1 : O.length ≤ 2 := by have := HO2.out; omega
        by_cases hmx : 8 < st.length - I.length + O.length
        · go_wp2_with fail
          have HRE := Aside0.mk (show R = (4, [], []) from by rw [← HRR.out]; exact HND.out.trans (dupV_bad (.inr (by have := HI1.out; have := HO2.out; omega))))
          refine bodyPost_ret (results_tmp3 rfl _ _ _) rfl ?_
          rw [HRE.out]
          exact ⟨_, _, rfl, RowT.nil _ _, RowI.nil _ _, (below_mid (below_mid hb6_.out hb7_.out) HBF)⟩
        have hL : (L : Int) = (st.length : Int) - (I.length : Int) := by have := HI1.out; omega
        have HOK := Aside0.mk (show fitAll m.c op (st.drop L) I = true → R = (0, st.take L ++ O, nx) from fun _ => by rw [← HRR.out, HND.out, ← HOO.out, ← HNV.out]; exact dupV_ok (by have := HI1.out; have := HO2.out; omega) hL1 HTT.out)
        have HUN := Aside0.mk (show fitAll m.c op (st.drop L) I = false → R = (4, [], []) from fun h => by rw [← HII.out, fitAll_any] at h; cases h)
        go_wp2_with fail
        rw [← hL]
        have hb9_ := Aside0.mk (below_mid (below_mid hb6_.out hb7_.out) HBF)
        have HN9 := Aside0.mk (HN6.out.below (below_step hb7_.out HBF))
        have HX9 := Aside0.mk (blk_below HX7.out HBF)
        have HI9 := Aside0.mk (blk_below HI7.out HBF)
        have hL1_ : L ≤ st.length := by omega
        have hL2 : L ≤ cs := by omega
        have hL3 : (L : Int) ≤ (cs : Int) := by omega
        have HTL := Aside0.mk (take_C HT.out hL1_)
        have hLI1 : L + I.length ≤ st.length := by omega
        have hLI2 : st.length ≤ L + I.length := by omega
        have hLO : L + O.length ≤ 10 := by omega
        try clear hL
        try clear hL'
        try clear hL1
        refine rloop op A B m w.heap.size (w.heap.size + 1) A0 A1 (some ae) A2 A4 c0 c1 c2 c3 c4 _ _ _ _ st I L _ _ _ _ _ HX9.out HI9.out (Kd.C_below HT.out hb9_.out) HCi.out (Kd.C_below HM.out.h0 hb9_.out) HM.out.n0 HS.out.fits.c8 hsl hLI1 hLI2 hI8 (fun w' hb hf => by rw [HUN.out hf]; exact ⟨_, _, rfl, RowT.nil _ _, RowI.nil _ _, below_mid hb9_.out hb⟩) ?_ _ _ _ _ _ _ _ _ _ _ _ _ _ _ _ _ _ _ _ _ _ _ _ _ _ _ _ _ _ _ _ _ _ _ _ _ _ _ _ _ _ _ _ _ _ _ _ _ _ _ _ _ _ _ _ _ _ _ _ _ _ _ _ _ _ _ _ _ _ _ _ _ _ _ _ _ _ _ _ _ _ _ _ _ _ _ _ _ _ _ _ _ _ _ _ _ _ _ _ _ _ _ _ _ _ _ _ _ _ _ _ _ _ _ _ _ _ _ _ _ _ _ _ _ _ _ _ _ _ _ _ _ _ _ _ _ _ _ _ _ _ _ _ _ _ _ _ _ _ _ _ _ _ _ _ _ _ _ _ _ _ _ _ _ _ _ _ _ _ _ _ _ _ _ _ _ _ _ _ _ _ _ _ _ _ _ _ _
        intros
        rename_i wr hwr hfit
        have HRE := Aside0.mk (HOK.out hfit)
        have HBR := Aside0.mk hwr
        have hbw := below_mid hb9_.out hwr
        clear hfit hwr
        go_wp2_with (first | ((with_reducible refine gate_dst (N := 188) rfl ?_); (try (refine gate_guard (by rfl) ?_; dsimp only)); refine Kd.R_lit k38 (w0 := wr) wr.heap.size 38 ?hg (N := 188) ?hd (xs := ([] : List S38)) (inner := []) (ok := fun _ => True) (okp := fun _ => True) ?hr ?hp (fun _ hk => hk) trivial (Below.refl _ _) (Nat.le_refl _) (by simp) ?_; (case hd => rfl); (case hg => rfl); (case hr => first | (go_simp; done) | (go_simp; rfl)); (case hp => exact (Reps.none _ _)); intro v13 w13 ho hb13 hg_ hn_; clear hg_ hn_; have HO13 := Aside0.mk ho; clear ho; have HB13 := hb13; clear hb13) | ((with_reducible refine gate_builtin (b := .append) (xs := #[.tmp 188, .tmp 191]) rfl ?_); (try (refine gate_guard (by rfl) ?_; dsimp only)); at_builtin; refine Kd.R_append_rows k38 (w0 := wr) wr.heap.size rfl (.tmp 188) (.tmp 191) 23 38 (.agg #[(.int .i64 0), (.int .i64 0)]) 16 rfl Try.underlying23 info38 rfl (by decide) (by omega) v13 [] (st.take L) _ _ _ (fun _ => True) (fun _ => False) rfl rfl HO13.out (Kd.C_below HTL.out (below_mid hbw HB13)) (fun _ _ h => h) (fun _ h => h.elim) (fun _ _ => trivial) HB13 HB13.size (by simp only [List.length_append, List.length_nil, List.length_take]; omega) ?_; intro v14 w14 ho hb14 hg_ hn_; clear hg_ hn_; have HO14 := Aside0.mk ho; clear ho; have HB14 := hb14; clear hb14) | ((with_reducible refine gate_builtin (b := .append) (xs := #[.tmp 192, .tmp 193]) rfl ?_); (try (refine gate_guard (by rfl) ?_; dsimp only)); at_builtin; refine Kd.R_append_rows k38 (w0 := wr) wr.heap.size rfl (.tmp 192) (.tmp 193) 23 38 (.agg #[(.int .i64 0), (.int .i64 0)]) 16 rfl Try.underlying23 info38 rfl (by decide) (by omega) v14 ([] ++ st.take L) O _ _ _ (fun _ => True) (fun _ => False) rfl rfl HO14.out (Kd.C_below HCo.out (below_step HBR.out HB14)) (fun _ _ h => h) (fun _ h => h.elim) (fun _ _ => trivial) HB14 HB14.size (by simp only [List.length_append, List.length_nil, List.length_take]; omega) ?_; intro v15 w15 ho hb15 hg_ hn_; clear hg_ hn_; have HO15 := Aside0.mk ho; clear ho; have HB15 := hb15; clear hb15))
        refine bodyPost_ret (results_tmp3 rfl _ _ _) rfl ?_
        rw [HRE.out]
        exact ⟨_, _, rfl, (RowT.ofR HO15.out).lower (Nat.zero_le _), by have h9 := (HN9.out.below HBR.out).below HB15; (try rw [hnl] at h9); exact h9, below_mid hbw HB15⟩
    have d6 : (op == 6) = false := beq_eq_false_iff_ne.2 h6
    have hlen := of_len (m := m) HS.out (x := rd_T41 m.m f) b0 b2 HNM.out
    obtain ⟨⟨I, O⟩, hio⟩ : ∃ io, ofV m (rd_T41 m.m f) op A B = io := ⟨_, rfl⟩
    rw [hio] at hlen
    dsimp only at hlen
    have HIO := Aside0.mk hio
    clear hio
    obtain ⟨hI8, hO1⟩ := hlen
    have HNN := Aside0.mk (stepI_not (st := st) (pc := pc) (i := ⟨op, A, B⟩) hnm h6 HIO.out)
    by_cases hlt : st.length < I.length
    · go_wp2_with (first | (go_at_call 14; (with_reducible refine (rule_calls ⟨A0, A1, A2, some ae, A4, c0, c1, c2, c3, c4⟩ m f op A B _ (HM.out.below (below_mid (below_mid hb6_.out hb7_.out) bel)) HS.out g0 g1 b0 b1 b2 b3 HNM.out).mono ?_); rintro e w8 ⟨va, vo, rfl, hi, ho, hb8⟩; rw [HIO.out] at hi ho; dsimp only at hi ho; obtain ⟨Ai, ci, rfl, hci, hCi⟩ := hi.form; obtain ⟨Ao, co, rfl, hco, hCo⟩ := ho.form; have HCi := Aside0.mk hCi; have HCo := Aside0.mk hCo; clear hi ho hCi hCo; have HB8 : Below w7.heap.size w7 w8 := below_step bel hb8; have n0_8 := keepc HB8 n0_7; clear hb8))
      have HRE := Aside0.mk (show R = (4, [], []) from by rw [← HRR.out]; exact HNN.out.trans (typesV_bad (.inl hlt)))
      refine bodyPost_ret (results_tmp3 rfl _ _ _) rfl ?_
      rw [HRE.out]
      exact ⟨_, _, rfl, RowT.nil _ _, RowI.nil _ _, (below_mid (below_mid hb6_.out hb7_.out) (by first | exact HB8 | exact bel))⟩
    by_cases hmx : 8 < st.length - I.length + O.length
    · go_wp2_with (first | (go_at_call 14; (with_reducible refine (rule_calls ⟨A0, A1, A2, some ae, A4, c0, c1, c2, c3, c4⟩ m f op A B _ (HM.out.below (below_mid (below_mid hb6_.out hb7_.out) bel)) HS.out g0 g1 b0 b1 b2 b3 HNM.out).mono ?_); rintro e w8 ⟨va, vo, rfl, hi, ho, hb8⟩; rw [HIO.out] at hi ho; dsimp only at hi ho; obtain ⟨Ai, ci, rfl, hci, hCi⟩ := hi.form; obtain ⟨Ao, co, rfl, hco, hCo⟩ := ho.form; have HCi := Aside0.mk hCi; have HCo := Aside0.mk hCo; clear hi ho hCi hCo; have HB8 : Below w7.heap.size w7 w8 := below_step bel hb8; have n0_8 := keepc HB8 n0_7; clear hb8))
      have HRE := Aside0.mk (show R = (4, [], []) from by rw [← HRR.out]; exact HNN.out.trans (typesV_bad (.inr hmx)))
      refine bodyPost_ret (results_tmp3 rfl _ _ _) rfl ?_
      rw [HRE.out]
      exact ⟨_, _, rfl, RowT.nil _ _, RowI.nil _ _, (below_mid (below_mid hb6_.out hb7_.out) (by first | exact HB8 | exact bel))⟩
    obtain ⟨L, hL⟩ : ∃ L : Nat, (L : Int) = (st.length : Int) - (I.length : Int) := ⟨st.length - I.length, by omega⟩
    have hL' : st.length - I.length = L := by omega
    have HOK := Aside0.mk (show fitAll m.c op (st.drop L) I = true → R = (0, st.take L ++ O, nx) from fun h => by rw [← HRR.out, HNN.out, ← HNV.out, ← hL']; rw [← hL'] at h; exact typesV_ok (by omega) h)
    have HUN := Aside0.mk (show fitAll m.c op (st.drop L) I = false → R = (4, [], []) from fun h => by rw [← HRR.out, HNN.out]; rw [← hL'] at h; exact typesV_unfit h)
    go_wp2_with (first | (go_at_call 14; (with_reducible refine (rule_calls ⟨A0, A1, A2, some ae, A4, c0, c1, c2, c3, c4⟩ m f op A B _ (HM.out.below (below_mid (below_mid hb6_.out hb7_.out) bel)) HS.out g0 g1 b0 b1 b2 b3 HNM.out).mono ?_); rintro e w8 ⟨va, vo, rfl, hi, ho, hb8⟩; rw [HIO.out] at hi ho; dsimp only at hi ho; obtain ⟨Ai, ci, rfl, hci, hCi⟩ := hi.form; obtain ⟨Ao, co, rfl, hco, hCo⟩ := ho.form; have HCi := Aside0.mk hCi; have HCo := Aside0.mk hCo; clear hi ho hCi hCo; have HB8 : Below w7.heap.size w7 w8 := below_step bel hb8; have n0_8 := keepc HB8 n0_7; clear hb8))
    rw [← hL]
    have hb9_ := Aside0.mk (below_mid (below_mid hb6_.out hb7_.out) HB8)
    have HN9 := Aside0.mk (HN6.out.below (below_step hb7_.out HB8))
    have HX9 := Aside0.mk (blk_below HX7.out HB8)
    have HI9 := Aside0.mk (blk_below HI7.out HB8)
    have hL1_ : L ≤ st.length := by omega
    have hL2 : L ≤ cs := by omega
    have hL3 : (L : Int) ≤ (cs : Int) := by omega
    have HTL := Aside0.mk (take_C HT.out hL1_)
    have hLI1 : L + I.length ≤ st.length := by omega
    have hLI2 : st.length ≤ L + I.length := by omega
    have hLO : L + O.length ≤ 10 := by omega
    try clear hL
    try clear hL'
    try clear hL1
    refine rloop op A B m w.heap.size (w.heap.size + 1) A0 A1 (some ae) A2 A4 c0 c1 c2 c3 c4 _ _ _ _ st I L _ _ _ _ _ HX9.out HI9.out (Kd.C_below HT.out hb9_.out) HCi.out (Kd.C_below HM.out.h0 hb9_.out) HM.out.n0 HS.out.fits.c8 hsl hLI1 hLI2 hI8 (fun w' hb hf => by rw [HUN.out hf]; exact ⟨_, _, rfl, RowT.nil _ _, RowI.nil _ _, below_mid hb9_.out hb⟩) ?_ _ _ _ _ _ _ _ _ _ _ _ _ _ _ _ _ _ _ _ _ _ _ _ _ _ _ _ _ _ _ _ _ _ _ _ _ _ _ _ _ _ _ _ _ _ _ _ _ _ _ _ _ _ _ _ _ _ _ _ _ _ _ _ _ _ _ _ _ _ _ _ _ _ _ _ _ _ _ _ _ _ _ _ _ _ _ _ _ _ _ _ _ _ _ _ _ _ _ _ _ _ _ _ _ _ _ _ _ _ _ _ _ _ _ _ _ _ _ _ _ _ _ _ _ _ _ _ _ _ _ _ _ _ _ _ _ _ _ _ _ _ _ _ _ _ _ _ _ _ _ _ _ _ _ _ _ _ _ _ _ _ _ _ _ _ _ _ _ _ _ _ _ _ _ _ _ _ _ _ _ _ _ _ _ _ _ _ _
    intros
    rename_i wr hwr hfit
    have HRE := Aside0.mk (HOK.out hfit)
    have HBR := Aside0.mk hwr
    have hbw := below_mid hb9_.out hwr
    clear hfit hwr
    go_wp2_with (first | ((with_reducible refine gate_dst (N := 188) rfl ?_); (try (refine gate_guard (by rfl) ?_; dsimp only)); refine Kd.R_lit k38 (w0 := wr) wr.heap.size 38 ?hg (N := 188) ?hd (xs := ([] : List S38)) (inner := []) (ok := fun _ => True) (okp := fun _ => True) ?hr ?hp (fun _ hk => hk) trivial (Below.refl _ _) (Nat.le_refl _) (by simp) ?_; (case hd => rfl); (case hg => rfl); (case hr => first | (go_simp; done) | (go_simp; rfl)); (case hp => exact (Reps.none _ _)); intro v13 w13 ho hb13 hg_ hn_; clear hg_ hn_; have HO13 := Aside0.mk ho; clear ho; have HB13 := hb13; clear hb13) | ((with_reducible refine gate_builtin (b := .append) (xs := #[.tmp 188, .tmp 191]) rfl ?_); (try (refine gate_guard (by rfl) ?_; dsimp only)); at_builtin; refine Kd.R_append_rows k38 (w0 := wr) wr.heap.size rfl (.tmp 188) (.tmp 191) 23 38 (.agg #[(.int .i64 0), (.int .i64 0)]) 16 rfl Try.underlying23 info38 rfl (by decide) (by omega) v13 [] (st.take L) _ _ _ (fun _ => True) (fun _ => False) rfl rfl HO13.out (Kd.C_below HTL.out (below_mid hbw HB13)) (fun _ _ h => h) (fun _ h => h.elim) (fun _ _ => trivial) HB13 HB13.size (by simp only [List.length_append, List.length_nil, List.length_take]; omega) ?_; intro v14 w14 ho hb14 hg_ hn_; clear hg_ hn_; have HO14 := Aside0.mk ho; clear ho; have HB14 := hb14; clear hb14) | ((with_reducible refine gate_builtin (b := .append) (xs := #[.tmp 192, .tmp 193]) rfl ?_); (try (refine gate_guard (by rfl) ?_; dsimp only)); at_builtin; refine Kd.R_append_rows k38 (w0 := wr) wr.heap.size rfl (.tmp 192) (.tmp 193) 23 38 (.agg #[(.int .i64 0), (.int .i64 0)]) 16 rfl Try.underlying23 info38 rfl (by decide) (by omega) v14 ([] ++ st.take L) O _ _ _ (fun _ => True) (fun _ => False) rfl rfl HO14.out (Kd.C_below HCo.out (below_step HBR.out HB14)) (fun _ _ h => h) (fun _ h => h.elim) (fun _ _ => trivial) HB14 HB14.size (by simp only [List.length_append, List.length_nil, List.length_take]; omega) ?_; intro v15 w15 ho hb15 hg_ hn_; clear hg_ hn_; have HO15 := Aside0.mk ho; clear ho; have HB15 := hb15; clear hb15))
    refine bodyPost_ret (results_tmp3 rfl _ _ _) rfl ?_
    rw [HRE.out]
    exact ⟨_, _, rfl, (RowT.ofR HO15.out).lower (Nat.zero_le _), by have h9 := (HN9.out.below HBR.out).below HB15; (try rw [hnl] at h9); exact h9, below_mid hbw HB15⟩
end Go.Proofs.Ytoiahldbahdaoaa.Flow
