/- The walk of typer.one. -/
import Derived.Test.YtcfbhobpfnlkpaaJudgeJL
import Derived.Test.YtcfbhobpfnlkpaaJudgeJM
namespace Go.Proofs.Ytcfbhobpfnlkpaa.Flow
open Go.RowKit Go.Proofs.Ytcfbhobpfnlkpaa.QJudgeFound Go.Proofs.YtcfbhobpfnlkpaaW.PrintWords Go.Proofs.YtcfbhobpfnlkpaaW.PrintLast Go.Proofs.Ytcfbhobpfnlkpaa.Chain
set_option linter.unusedVariables false
set_option linter.unusedSimpArgs false
theorem step_x {w : World} {a : IA} {m : Im} (hm : IC w a m) (hs : SaneP m) (f pc : Int) {As : Option Addr} {cs : Nat} {st : List S39} (hst : Kd.C k39 w As st.length st) (hsc : st.length ≤ cs) (hsl : st.length ≤ 100000) {e : Int} {r : List S39} {nx : List Int} (hv : stepV m f pc st = (e, r, nx)) :
    Calls Try.prog 29 #[.agg #[.slice a.A0 m.c.length a.c0, .slice a.A1 m.s.length a.c1, .slice a.A2 m.n.length a.c2, .slice a.A3 m.m.length a.c3, .slice a.A4 m.e.length a.c4, .int .i64 m.sk, .int .i64 m.hp], .int .i64 f, .int .i64 pc, .slice As st.length cs] w fun e' w' => ∃ A c B k, e' = .returned (.tuple #[.slice A r.length c, .slice B nx.length k, .int .i64 e]) ∧ r.length ≤ c ∧ RowT w' w.heap.size (.slice A r.length c) r ∧ nx.length ≤ k ∧ RowI w' w.heap.size (.slice B nx.length k) nx ∧ Below w.heap.size w w' := by
  refine (step_calls a m f pc As cs st w hm hs hst hsc hsl).mono ?_
  rintro e' w' ⟨va, vn, rfl, h1, h2, hb⟩
  rw [hv] at h1 h2 ⊢
  obtain ⟨A, c, rfl, k1, k2⟩ := h1
  obtain ⟨B, k, rfl, k3, k4⟩ := h2
  exact ⟨A, c, B, k, rfl, k1, ⟨A, c, rfl, k1, k2⟩, k3, ⟨B, k, rfl, k3, k4⟩, hb⟩
theorem mergeV_len {m : Im} {old : Shp} {st : List S39} {s : Shp} {tu : Bool} (h : mergeV m.c old st = some (s, tu)) : s.1 = true ∧ s.2.length = st.length := by
  unfold mergeV at h
  split at h
  · injection h with h; injection h with h1 h2
    subst h1
    exact ⟨rfl, rfl⟩
  · cases hj : joinAll m.c old.2 st with
    | none => rw [hj] at h; cases h
    | some o =>
      rw [hj] at h
      injection h with h; injection h with h1 h2
      subst h1
      exact ⟨rfl, (joinAll_len hj).2⟩
theorem toV_cons {cs : List S80} {x : List S39} {tg : Int} {nx : List Int} {sh : List Shp} {td : List Bool} : toV cs x (tg :: nx) sh td = match mergeV cs (shA sh tg.toNat) x with
    | none => none
    | some (s, tu) => if tu = true then toV cs x nx (sh.set tg.toNat s) (td.set tg.toNat true) else toV cs x nx sh td := rfl
theorem RowT.form' {w : World} {B : Nat} {A : Option Addr} {c : Nat} {xs : List S39} (h : RowT w B (.slice A xs.length c) xs) : Kd.C k39 w A xs.length xs := by
  obtain ⟨A', c', e, _, h3⟩ := h
  injection e with e1 _ _
  subst e1
  exact Kd.F_now h3
theorem RowI.form' {w : World} {B : Nat} {A : Option Addr} {c : Nat} {xs : List Int} (h : RowI w B (.slice A xs.length c) xs) : Kd.C (Kd.int .i64) w A xs.length xs := by
  obtain ⟨A', c', e, _, h3⟩ := h
  injection e with e1 _ _
  subst e1
  exact Kd.F_now h3
set_option maxHeartbeats 16000000 in
set_option maxRecDepth 100000 in
theorem tone_c (a : IA) (m : Im) (f : Int) (pc : Nat) (w0 w : World) (hm : IC w0 a m) (hB0 : Below w0.heap.size w0 w) (hq : saneB m = true) (hf0 : 0 ≤ f) (hf1 : f < (m.m.length : Int)) (ab tb : Nat) (sh : List Shp) (td : List Bool) (hS : ShW w w0.heap.size ab tb sh td) (hab : w0.heap.size ≤ ab) (htb : w0.heap.size ≤ tb) (hn : sh.length = codeN m f) (htl : td.length = codeN m f) (hpc : pc < codeN m f) (hg : ∀ i, (shA sh i).2.length ≤ 8) {r : Option (List Shp × List Bool)} (hr : oneV m f pc sh td = r) :
    Calls Try.prog 28 #[.agg #[.slice a.A0 m.c.length a.c0, .slice a.A1 m.s.length a.c1, .slice a.A2 m.n.length a.c2, .slice a.A3 m.m.length a.c3, .slice a.A4 m.e.length a.c4, .int .i64 m.sk, .int .i64 m.hp], .int .i64 f, .int .i64 (pc : Int), .slice (some ⟨ab, 0, none⟩) sh.length sh.length, .slice (some ⟨tb, 0, none⟩) td.length td.length] w fun e w' => Below w0.heap.size w0 w' ∧ (r = none → e = .returned (.bool false)) ∧ ∀ sh' td', r = some (sh', td') → e = .returned (.bool true) ∧ ShW w' w0.heap.size ab tb sh' td' := by
  obtain ⟨A0, A1, A2, A3, A4, c0, c1, c2, c3, c4⟩ := a
  have HM0 := Aside0.mk hm
  have HB0 := Aside0.mk hB0
  have HQ := Aside0.mk hq
  have HSN := Aside0.mk (saneP hq)
  have HSW := Aside0.mk hS
  have HG := Aside0.mk hg
  have HRR := Aside0.mk hr
  obtain ⟨hal, htlt⟩ := hS.lt
  have hne := hS.ne
  have hx64 : codeN m f ≤ 64 := (HSN.out.metP (rdM_mem hf0 hf1)).c64
  obtain ⟨As, cs, f0, f1, hcs, hCs⟩ := hS.at (i := pc) (by omega)
  have h8 := hg pc
  obtain ⟨s1, hs_⟩ : ∃ s1, (shA sh pc).2 = s1 := ⟨_, rfl⟩
  rw [hs_] at f1 hcs hCs h8
  have HSP := Aside0.mk hs_
  have HCs := Aside0.mk hCs
  have HN := Aside0.mk hn
  have HTL := Aside0.mk htl
  clear hm hB0 hq hS hg hr hs_ hCs f0
  obtain ⟨⟨e1, x, nx⟩, hs1⟩ : ∃ q, stepV m f (pc : Int) s1 = q := ⟨_, rfl⟩
  have HS1 := Aside0.mk hs1
  have hln := stepV_len m f (pc : Int) s1
  rw [hs1] at hln
  dsimp only at hln
  obtain ⟨hx8, hn2⟩ := hln
  clear hs1
  have p1 : (pc : Int) < (sh.length : Int) := by omega
  clear hn htl
  go_enter Try.func28, Try.ntmps28
  go_wp2_with fail
  refine see (F := fun w0_ => Below w.heap.size w w0_ ∧ w0_.cell? ⟨w.heap.size, 0, none⟩ = some (.slice A0 m.c.length c0) ∧ w0_.cell? ⟨w.heap.size, 1, none⟩ = some (.slice A1 m.s.length c1) ∧ w0_.cell? ⟨w.heap.size, 2, none⟩ = some (.slice A2 m.n.length c2) ∧ w0_.cell? ⟨w.heap.size, 3, none⟩ = some (.slice A3 m.m.length c3) ∧ w0_.cell? ⟨w.heap.size, 4, none⟩ = some (.slice A4 m.e.length c4) ∧ w0_.cell? ⟨w.heap.size, 5, none⟩ = some (.int .i64 m.sk) ∧ w0_.cell? ⟨w.heap.size, 6, none⟩ = some (.int .i64 m.hp) ∧ w0_.cell? ⟨ab, pc * 2 + 1, none⟩ = some (.slice As s1.length cs) ∧ Below (w.alloc (.cells #[.slice A0 m.c.length c0, .slice A1 m.s.length c1, .slice A2 m.n.length c2, .slice A3 m.m.length c3, .slice A4 m.e.length c4, .int .i64 m.sk, .int .i64 m.hp] 28)).heap.size (w.alloc (.cells #[.slice A0 m.c.length c0, .slice A1 m.s.length c1, .slice A2 m.n.length c2, .slice A3 m.m.length c3, .slice A4 m.e.length c4, .int .i64 m.sk, .int .i64 m.hp] 28)) w0_) _ ⟨bel, (blk_cell (blk_new w _) 0).trans rfl, (blk_cell (blk_new w _) 1).trans rfl, (blk_cell (blk_new w _) 2).trans rfl, (blk_cell (blk_new w _) 3).trans rfl, (blk_cell (blk_new w _) 4).trans rfl, (blk_cell (blk_new w _) 5).trans rfl, (blk_cell (blk_new w _) 6).trans rfl, keepc (below_alloc (Below.refl _ _) _) f1, Below.refl _ _⟩ ?_
  rintro w1 ⟨hb1_, hq1_, hq2_, hq3_, hq4_, hq5_, hq6_, hq7_, hq8_, hb1b_⟩
  replace hb1_ := Aside0.mk hb1_
  replace hq1_ := Aside0.mk hq1_
  replace hq2_ := Aside0.mk hq2_
  replace hq3_ := Aside0.mk hq3_
  replace hq4_ := Aside0.mk hq4_
  replace hq5_ := Aside0.mk hq5_
  replace hq6_ := Aside0.mk hq6_
  replace hq7_ := Aside0.mk hq7_
  replace hq8_ := Aside0.mk hq8_
  replace hb1b_ := Aside0.mk hb1b_
  have KP := Aside0.mk (show ∀ w', Below w1.heap.size w1 w' → (w'.cell? ⟨w.heap.size, 0, none⟩ = some (.slice A0 m.c.length c0) ∧ w'.cell? ⟨w.heap.size, 1, none⟩ = some (.slice A1 m.s.length c1) ∧ w'.cell? ⟨w.heap.size, 2, none⟩ = some (.slice A2 m.n.length c2) ∧ w'.cell? ⟨w.heap.size, 3, none⟩ = some (.slice A3 m.m.length c3) ∧ w'.cell? ⟨w.heap.size, 4, none⟩ = some (.slice A4 m.e.length c4) ∧ w'.cell? ⟨w.heap.size, 5, none⟩ = some (.int .i64 m.sk) ∧ w'.cell? ⟨w.heap.size, 6, none⟩ = some (.int .i64 m.hp) ∧ w'.cell? ⟨ab, pc * 2 + 1, none⟩ = some (.slice As s1.length cs)) from fun w' h => ⟨keepc h hq1_.out, keepc h hq2_.out, keepc h hq3_.out, keepc h hq4_.out, keepc h hq5_.out, keepc h hq6_.out, keepc h hq7_.out, keepc h hq8_.out⟩)
  go_region_held3 (fun w' => w'.cell? ⟨w.heap.size, 0, none⟩ = some (.slice A0 m.c.length c0) ∧ w'.cell? ⟨w.heap.size, 1, none⟩ = some (.slice A1 m.s.length c1) ∧ w'.cell? ⟨w.heap.size, 2, none⟩ = some (.slice A2 m.n.length c2) ∧ w'.cell? ⟨w.heap.size, 3, none⟩ = some (.slice A3 m.m.length c3) ∧ w'.cell? ⟨w.heap.size, 4, none⟩ = some (.slice A4 m.e.length c4) ∧ w'.cell? ⟨w.heap.size, 5, none⟩ = some (.int .i64 m.sk) ∧ w'.cell? ⟨w.heap.size, 6, none⟩ = some (.int .i64 m.hp) ∧ w'.cell? ⟨ab, pc * 2 + 1, none⟩ = some (.slice As s1.length cs)) (((try dsimp only); first | exact KP.out _ bel)) (first | ((try go_simp); go_at_call 29; (with_reducible refine (step_x (a := ⟨A0, A1, A2, A3, A4, c0, c1, c2, c3, c4⟩) (HM0.out.below (below_mid HB0.out (below_mid hb1_.out (by first | exact Below.refl _ _ | exact Below.drew (Below.refl _ _) | assumption | exact below_drew (below_alloc (Below.refl _ _) _) | exact below_alloc (Below.drew (Below.refl _ _)) _ | exact below_alloc (Below.refl _ _) _)))) HSN.out f (pc : Int) (Kd.C_below HCs.out (below_mid hb1_.out (by first | exact Below.refl _ _ | exact Below.drew (Below.refl _ _) | assumption | exact below_drew (below_alloc (Below.refl _ _) _) | exact below_alloc (Below.drew (Below.refl _ _)) _ | exact below_alloc (Below.refl _ _) _))) hcs (by omega) HS1.out).mono ?_); rintro e w2 ⟨Ax, cx, An, cn, rfl, hcx, hRx, hcn, hRn, hb2⟩; have HB2 : Below w1.heap.size w1 w2 := below_step (by first | exact Below.refl _ _ | exact Below.drew (Below.refl _ _) | assumption | exact below_drew (below_alloc (Below.refl _ _) _) | exact below_alloc (Below.drew (Below.refl _ _)) _ | exact below_alloc (Below.refl _ _) _) hb2; have HRX := Aside0.mk (hRx.lower (B' := w.heap.size) (below_mid hb1_.out (by first | exact Below.refl _ _ | exact Below.drew (Below.refl _ _) | assumption | exact below_drew (below_alloc (Below.refl _ _) _) | exact below_alloc (Below.drew (Below.refl _ _)) _ | exact below_alloc (Below.refl _ _) _)).size); have HRN := Aside0.mk (hRn.lower (B' := w.heap.size) (below_mid hb1_.out (by first | exact Below.refl _ _ | exact Below.drew (Below.refl _ _) | assumption | exact below_drew (below_alloc (Below.refl _ _) _) | exact below_alloc (Below.drew (Below.refl _ _)) _ | exact below_alloc (Below.refl _ _) _)).size); clear hRx hRn hb2))
  have HBW := Aside0.mk (below_mid hb1_.out HB2)
  have HXB := Aside0.mk (show w2.heap[w.heap.size]? = some (.cells #[.slice A0 m.c.length c0, .slice A1 m.s.length c1, .slice A2 m.n.length c2, .slice A3 m.m.length c3, .slice A4 m.e.length c4, .int .i64 m.sk, .int .i64 m.hp] 28 (0, 0)) from blk_below (blk_below (blk_new w _) hb1b_.out) HB2)
  by_cases hE : e1 = 0
  case neg =>
    have dE : (e1 != 0) = true := bne_iff_ne.2 hE
    have HRE := Aside0.mk (show r = none from by rw [← HRR.out]; unfold oneV; rw [HSP.out, HS1.out]; exact if_pos hE)
    clear hE
    go_wp2_with fail
    go_ret
    exact ⟨below_mid HB0.out HBW.out, fun _ => rfl, fun s t h => by rw [HRE.out] at h; cases h⟩
  subst hE
  have HRT := Aside0.mk (show r = toV m.c x nx sh td from by rw [← HRR.out]; unfold oneV; rw [HSP.out, HS1.out]; exact if_neg (fun h => h rfl))
  have HNT := Aside0.mk (show ∀ tg ∈ nx, 0 ≤ tg ∧ tg < (codeN m f : Int) from by
    have h := step_next HSN.out hf0 hf1 (pc := (pc : Int)) (st := s1) (by omega) (by show (pc : Int) < (codeN m f : Int); omega) (by rw [HS1.out])
    rw [HS1.out] at h
    exact h)
  go_wp2_with fail
  refine see (F := fun w0_ => Below w2.heap.size w2 w0_ ∧ Below w0.heap.size w0 w0_ ∧ w0_.heap[w.heap.size]? = some (.cells #[.slice A0 m.c.length c0, .slice A1 m.s.length c1, .slice A2 m.n.length c2, .slice A3 m.m.length c3, .slice A4 m.e.length c4, .int .i64 m.sk, .int .i64 m.hp] 28 (0, 0)) ∧ ShW w0_ w0.heap.size ab tb sh td ∧ RowT w0_ w.heap.size (.slice Ax x.length cx) x ∧ RowI w0_ w.heap.size (.slice An nx.length cn) nx) _ ⟨bel, below_mid HB0.out HBW.out, HXB.out, HSW.out.below HBW.out, HRX.out, HRN.out⟩ ?_
  rintro w3 ⟨hb3_, HL3, HX3, HS3, HRX3, HRN3⟩
  replace hb3_ := Aside0.mk hb3_
  replace HL3 := Aside0.mk HL3
  replace HX3 := Aside0.mk HX3
  replace HS3 := Aside0.mk HS3
  replace HRX3 := Aside0.mk HRX3
  replace HRN3 := Aside0.mk HRN3
  go_loopg [36] (nx.length + 1) (fun kq v36 w' => ∃ (i : Nat) (sh1 : List Shp) (td1 : List Bool), v36 = .int .i64 (i : Int) ∧ Aside0 (i ≤ nx.length) ∧ Aside0 (i + kq = nx.length + 1) ∧ Aside0 (sh1.length = codeN m f ∧ td1.length = codeN m f) ∧ Aside0 (∀ j, (shA sh1 j).2.length ≤ 8) ∧ Aside0 (r = toV m.c x (nx.drop i) sh1 td1) ∧ Aside0 (ShW w' w0.heap.size ab tb sh1 td1) ∧ Aside0 (RowT w' w.heap.size (.slice Ax x.length cx) x) ∧ Aside0 (RowI w' w.heap.size (.slice An nx.length cn) nx) ∧ Aside0 (w'.heap[w.heap.size]? = some (.cells #[.slice A0 m.c.length c0, .slice A1 m.s.length c1, .slice A2 m.n.length c2, .slice A3 m.m.length c3, .slice A4 m.e.length c4, .int .i64 m.sk, .int .i64 m.hp] 28 (0, 0))) ∧ Aside0 (Below w0.heap.size w0 w'))
  case atStart => exact ⟨0, sh, td, rfl, ⟨Nat.zero_le _⟩, ⟨by omega⟩, ⟨HN.out, HTL.out⟩, ⟨HG.out⟩, ⟨HRT.out⟩, HS3, HRX3, HRN3, HX3, HL3⟩
  case round =>
    obtain ⟨i, sh1, td1, rfl, HK, HKQ, HLN, HG8, HTV, HS, HRXW, HRNW, HX, HL⟩ := hrel
    cases gk with
    | zero => exact absurd HK.out (by have := HKQ.out; omega)
    | succ k1 =>
      by_cases hi : i < nx.length
      · obtain ⟨an, hAn, p0⟩ := Kd.at_int (HRNW.out.form') (i : Int) (by omega) (by omega)
        subst hAn
        simp only [Int.toNat_natCast] at p0
        obtain ⟨tg, htg⟩ : ∃ tg, rd nx (i : Int) = tg := ⟨_, rfl⟩
        rw [htg] at p0
        have htt := HNT.out tg (by rw [← htg, rd_nat hi]; exact List.getElem_mem _)
        obtain ⟨ht0, ht1⟩ := htt
        have hdr : nx.drop i = tg :: nx.drop (i + 1) := by rw [List.drop_eq_getElem_cons hi, ← htg, rd_nat hi]
        clear htg
        have hti : tg.toNat < sh1.length := by rw [HLN.out.1]; omega
        have htj : tg.toNat < td1.length := by rw [HLN.out.2]; omega
        obtain ⟨Ao, co, g0, g1, hco, hCo⟩ := HS.out.at (i := tg.toNat) hti
        have ho8 := HG8.out tg.toNat
        obtain ⟨⟨o0, o1⟩, ho⟩ : ∃ o, shA sh1 tg.toNat = o := ⟨_, rfl⟩
        rw [ho] at g0 g1 hco hCo ho8
        dsimp only at g0 g1 hco hCo ho8
        have HCo := Aside0.mk hCo
        have HRC := Aside0.mk HRXW.out.form'
        obtain ⟨mr, hmr⟩ : ∃ mr, mergeV m.c (o0, o1) x = mr := ⟨_, rfl⟩
        have HMR := Aside0.mk hmr
        have HMS := Aside0.mk (show mergeV m.c (shA sh1 tg.toNat) x = mr from by rw [ho]; exact hmr)
        clear ho hCo hmr
        have e3 : (i : Int) < (nx.length : Int) := by omega
        have e4 : tg < (sh.length : Int) := by have := HN.out; omega
        have e5 : tg < (td.length : Int) := by have := HTL.out; omega
        go_wp2_with fail
        refine see (F := fun w0_ => Below wr.heap.size wr w0_ ∧ w0_.cell? ⟨w.heap.size, 0, none⟩ = some (.slice A0 m.c.length c0) ∧ w0_.cell? ⟨w.heap.size, 1, none⟩ = some (.slice A1 m.s.length c1) ∧ w0_.cell? ⟨w.heap.size, 2, none⟩ = some (.slice A2 m.n.length c2) ∧ w0_.cell? ⟨w.heap.size, 3, none⟩ = some (.slice A3 m.m.length c3) ∧ w0_.cell? ⟨w.heap.size, 4, none⟩ = some (.slice A4 m.e.length c4) ∧ w0_.cell? ⟨w.heap.size, 5, none⟩ = some (.int .i64 m.sk) ∧ w0_.cell? ⟨w.heap.size, 6, none⟩ = some (.int .i64 m.hp) ∧ w0_.cell? ⟨ab, tg.toNat * 2, none⟩ = some (.bool o0) ∧ w0_.cell? ⟨ab, tg.toNat * 2 + 1, none⟩ = some (.slice Ao o1.length co)) _ ⟨bel, (blk_cell HX.out 0).trans rfl, (blk_cell HX.out 1).trans rfl, (blk_cell HX.out 2).trans rfl, (blk_cell HX.out 3).trans rfl, (blk_cell HX.out 4).trans rfl, (blk_cell HX.out 5).trans rfl, (blk_cell HX.out 6).trans rfl, g0, g1⟩ ?_
        rintro w4 ⟨hb4_, hq1_, hq2_, hq3_, hq4_, hq5_, hq6_, hq7_, hq8_, hq9_⟩
        replace hb4_ := Aside0.mk hb4_
        replace hq1_ := Aside0.mk hq1_
        replace hq2_ := Aside0.mk hq2_
        replace hq3_ := Aside0.mk hq3_
        replace hq4_ := Aside0.mk hq4_
        replace hq5_ := Aside0.mk hq5_
        replace hq6_ := Aside0.mk hq6_
        replace hq7_ := Aside0.mk hq7_
        replace hq8_ := Aside0.mk hq8_
        replace hq9_ := Aside0.mk hq9_
        obtain ⟨hl4a, hl4b⟩ := (HS.out.below hb4_.out).lt
        have hna : ab ≠ w4.heap.size := by omega
        have hnb : tb ≠ w4.heap.size := by omega
        have hne2 : tb ≠ ab := fun e => hne e.symm
        cases mr with
        | none =>
          have KP := Aside0.mk (show ∀ w', Below w4.heap.size w4 w' → (w'.cell? ⟨w.heap.size, 0, none⟩ = some (.slice A0 m.c.length c0) ∧ w'.cell? ⟨w.heap.size, 1, none⟩ = some (.slice A1 m.s.length c1) ∧ w'.cell? ⟨w.heap.size, 2, none⟩ = some (.slice A2 m.n.length c2) ∧ w'.cell? ⟨w.heap.size, 3, none⟩ = some (.slice A3 m.m.length c3) ∧ w'.cell? ⟨w.heap.size, 4, none⟩ = some (.slice A4 m.e.length c4) ∧ w'.cell? ⟨w.heap.size, 5, none⟩ = some (.int .i64 m.sk) ∧ w'.cell? ⟨w.heap.size, 6, none⟩ = some (.int .i64 m.hp) ∧ w'.cell? ⟨ab, tg.toNat * 2, none⟩ = some (.bool o0) ∧ w'.cell? ⟨ab, tg.toNat * 2 + 1, none⟩ = some (.slice Ao o1.length co)) from fun w' h => ⟨keepc h hq1_.out, keepc h hq2_.out, keepc h hq3_.out, keepc h hq4_.out, keepc h hq5_.out, keepc h hq6_.out, keepc h hq7_.out, keepc h hq8_.out, keepc h hq9_.out⟩)
          refine wp_region_noPanic ?_
          refine wp_region_held_drew (S := fun w' => w'.cell? ⟨w.heap.size, 0, none⟩ = some (.slice A0 m.c.length c0) ∧ w'.cell? ⟨w.heap.size, 1, none⟩ = some (.slice A1 m.s.length c1) ∧ w'.cell? ⟨w.heap.size, 2, none⟩ = some (.slice A2 m.n.length c2) ∧ w'.cell? ⟨w.heap.size, 3, none⟩ = some (.slice A3 m.m.length c3) ∧ w'.cell? ⟨w.heap.size, 4, none⟩ = some (.slice A4 m.e.length c4) ∧ w'.cell? ⟨w.heap.size, 5, none⟩ = some (.int .i64 m.sk) ∧ w'.cell? ⟨w.heap.size, 6, none⟩ = some (.int .i64 m.hp) ∧ w'.cell? ⟨ab, tg.toNat * 2, none⟩ = some (.bool o0) ∧ w'.cell? ⟨ab, tg.toNat * 2 + 1, none⟩ = some (.slice Ao o1.length co)) (by kernel_rfl) (by ((try dsimp only); first | exact KP.out _ ((HB5.setCell (Nat.le_refl _) _).setCell (Nat.le_refl _) _) | exact KP.out _ (HB5.setCell (Nat.le_refl _) _) | exact KP.out _ bel)) (fun hHeld => ?_)
          refine tk 0 ?_
          refine tk 1 ?_
          refine tk 2 ?_
          refine tk 3 ?_
          refine tk 4 ?_
          refine tk 5 ?_
          refine wpAnyH_ready (rs := [6, 11]) (by kernel_rfl) (by simp) ?_
          refine AllReadyH.cons (o := _) rfl (fun K hK => ?_) (AllReadyH.cons (o := _) rfl (fun K hK => ?_) (AllReadyH.nil))
          · first | ((try go_simp); go_at_call 46; (with_reducible refine (merge_c ⟨A0, A1, A2, A3, A4, c0, c1, c2, c3, c4⟩ m o0 Ao co o1 Ax cx x _ (HM0.out.below (below_mid HL.out (below_mid hb4_.out (by first | exact Below.refl _ _ | exact Below.drew (Below.refl _ _) | assumption | exact below_drew (below_alloc (Below.refl _ _) _) | exact below_alloc (Below.drew (Below.refl _ _)) _ | exact below_alloc (Below.refl _ _) _)))) (Kd.C_below HCo.out (below_mid hb4_.out (by first | exact Below.refl _ _ | exact Below.drew (Below.refl _ _) | assumption | exact below_drew (below_alloc (Below.refl _ _) _) | exact below_alloc (Below.drew (Below.refl _ _)) _ | exact below_alloc (Below.refl _ _) _))) hco (Kd.C_below HRC.out (below_mid hb4_.out (by first | exact Below.refl _ _ | exact Below.drew (Below.refl _ _) | assumption | exact below_drew (below_alloc (Below.refl _ _) _) | exact below_alloc (Below.drew (Below.refl _ _)) _ | exact below_alloc (Below.refl _ _) _))) hcx (by omega) HMR.out).mono ?_); rintro e w5 ⟨hb5, hno, hyes⟩; obtain ⟨v0, v1, v2, rfl⟩ := hno rfl; clear hno hyes; have HB5 : Below w4.heap.size w4 w5 := below_step (by first | exact Below.refl _ _ | exact Below.drew (Below.refl _ _) | assumption | exact below_drew (below_alloc (Below.refl _ _) _) | exact below_alloc (Below.drew (Below.refl _ _)) _ | exact below_alloc (Below.refl _ _) _) hb5; have hS5 := HS.out.below (below_mid hb4_.out HB5); obtain ⟨_, _, a0_, a1_, _, _⟩ := hS5.at (i := tg.toNat) hti; have t0_ := hS5.todo (i := tg.toNat) htj; have z0_ := (hS5.frz (tg.toNat * 2)).1; have z1_ := (hS5.frz (tg.toNat * 2 + 1)).1; have z2_ := (hS5.frz tg.toNat).2; have HS5 := Aside0.mk hS5; first | (have hbx := blk_below (blk_drew (heap_alloc_new w4 _)) hb5; have bx0 := (blk_cell hbx 0).trans rfl; have bx1 := (blk_cell hbx 1).trans rfl; have by0 := blk_frozen hbx 0; have by1 := blk_frozen hbx 1; clear hbx) | (have hbx := blk_below (heap_alloc_new w4 _) hb5; have bx0 := (blk_cell hbx 0).trans rfl; have bx1 := (blk_cell hbx 1).trans rfl; have by0 := blk_frozen hbx 0; have by1 := blk_frozen hbx 1; clear hbx) | (have hbx := blk_below (heap_alloc_new (World.drew w4) _) hb5; have bx0 := (blk_cell hbx 0).trans rfl; have bx1 := (blk_cell hbx 1).trans rfl; have by0 := blk_frozen hbx 0; have by1 := blk_frozen hbx 1; clear hbx) | skip; obtain ⟨hl5a, hl5b⟩ := hS5.lt; clear hS5 hb5) | go_simp
            refine hK.out _ _ (by ((try dsimp only); first | exact KP.out _ ((HB5.setCell (Nat.le_refl _) _).setCell (Nat.le_refl _) _) | exact KP.out _ (HB5.setCell (Nat.le_refl _) _) | exact KP.out _ bel)) (fun hHeld => ?_)
            clear hK K
            (try simp only [Act.put, putx])
            refine tk 7 ?_
            refine tk 8 ?_
            refine tk 9 ?_
            refine tk 10 ?_
            refine tr 11 (fun K hK => ?_)
            go_simp
            refine hK.out _ _ (by ((try dsimp only); first | exact KP.out _ ((HB5.setCell (Nat.le_refl _) _).setCell (Nat.le_refl _) _) | exact KP.out _ (HB5.setCell (Nat.le_refl _) _) | exact KP.out _ bel)) (fun hHeld => ?_)
            clear hK K
            (try simp only [Act.put, putx])
            refine tr 12 (fun K hK => ?_)
            go_simp
            refine hK.out _ _ (by ((try dsimp only); first | exact KP.out _ ((HB5.setCell (Nat.le_refl _) _).setCell (Nat.le_refl _) _) | exact KP.out _ (HB5.setCell (Nat.le_refl _) _) | exact KP.out _ bel)) (fun hHeld => ?_)
            clear hK K
            (try simp only [Act.put, putx])
            refine tr 13 (fun K hK => ?_)
            go_simp
            refine hK.out _ _ (by ((try dsimp only); first | exact KP.out _ ((HB5.setCell (Nat.le_refl _) _).setCell (Nat.le_refl _) _) | exact KP.out _ (HB5.setCell (Nat.le_refl _) _) | exact KP.out _ bel)) (fun hHeld => ?_)
            clear hK K
            (try simp only [Act.put, putx])
            refine tr 14 (fun K hK => ?_)
            go_simp
            refine hK.out _ _ (by ((try dsimp only); first | exact KP.out _ ((HB5.setCell (Nat.le_refl _) _).setCell (Nat.le_refl _) _) | exact KP.out _ (HB5.setCell (Nat.le_refl _) _) | exact KP.out _ bel)) (fun hHeld => ?_)
            clear hK K
            (try simp only [Act.put, putx])
            refine wpAnyH_done (by kernel_rfl) ?_ _
            refine NoPanic.normal ?_
            have HRE := Aside0.mk (show r = none from by rw [HTV.out, hdr, toV_cons, HMS.out])
            go_wp2_with fail
            go_ret
            exact ⟨(below_mid HL.out (below_mid hb4_.out (below_alloc HB5 _))), fun _ => rfl, fun s_ t_ h => by rw [HRE.out] at h; cases h⟩
          · go_simp
            refine hK.out _ _ (by ((try dsimp only); first | exact KP.out _ ((HB5.setCell (Nat.le_refl _) _).setCell (Nat.le_refl _) _) | exact KP.out _ (HB5.setCell (Nat.le_refl _) _) | exact KP.out _ bel)) (fun hHeld => ?_)
            clear hK K
            (try simp only [Act.put, putx])
            refine tr 6 (fun K hK => ?_)
            first | ((try go_simp); go_at_call 46; (with_reducible refine (merge_c ⟨A0, A1, A2, A3, A4, c0, c1, c2, c3, c4⟩ m o0 Ao co o1 Ax cx x _ (HM0.out.below (below_mid HL.out (below_mid hb4_.out (by first | exact Below.refl _ _ | exact Below.drew (Below.refl _ _) | assumption | exact below_drew (below_alloc (Below.refl _ _) _) | exact below_alloc (Below.drew (Below.refl _ _)) _ | exact below_alloc (Below.refl _ _) _)))) (Kd.C_below HCo.out (below_mid hb4_.out (by first | exact Below.refl _ _ | exact Below.drew (Below.refl _ _) | assumption | exact below_drew (below_alloc (Below.refl _ _) _) | exact below_alloc (Below.drew (Below.refl _ _)) _ | exact below_alloc (Below.refl _ _) _))) hco (Kd.C_below HRC.out (below_mid hb4_.out (by first | exact Below.refl _ _ | exact Below.drew (Below.refl _ _) | assumption | exact below_drew (below_alloc (Below.refl _ _) _) | exact below_alloc (Below.drew (Below.refl _ _)) _ | exact below_alloc (Below.refl _ _) _))) hcx (by omega) HMR.out).mono ?_); rintro e w5 ⟨hb5, hno, hyes⟩; obtain ⟨v0, v1, v2, rfl⟩ := hno rfl; clear hno hyes; have HB5 : Below w4.heap.size w4 w5 := below_step (by first | exact Below.refl _ _ | exact Below.drew (Below.refl _ _) | assumption | exact below_drew (below_alloc (Below.refl _ _) _) | exact below_alloc (Below.drew (Below.refl _ _)) _ | exact below_alloc (Below.refl _ _) _) hb5; have hS5 := HS.out.below (below_mid hb4_.out HB5); obtain ⟨_, _, a0_, a1_, _, _⟩ := hS5.at (i := tg.toNat) hti; have t0_ := hS5.todo (i := tg.toNat) htj; have z0_ := (hS5.frz (tg.toNat * 2)).1; have z1_ := (hS5.frz (tg.toNat * 2 + 1)).1; have z2_ := (hS5.frz tg.toNat).2; have HS5 := Aside0.mk hS5; first | (have hbx := blk_below (blk_drew (heap_alloc_new w4 _)) hb5; have bx0 := (blk_cell hbx 0).trans rfl; have bx1 := (blk_cell hbx 1).trans rfl; have by0 := blk_frozen hbx 0; have by1 := blk_frozen hbx 1; clear hbx) | (have hbx := blk_below (heap_alloc_new w4 _) hb5; have bx0 := (blk_cell hbx 0).trans rfl; have bx1 := (blk_cell hbx 1).trans rfl; have by0 := blk_frozen hbx 0; have by1 := blk_frozen hbx 1; clear hbx) | (have hbx := blk_below (heap_alloc_new (World.drew w4) _) hb5; have bx0 := (blk_cell hbx 0).trans rfl; have bx1 := (blk_cell hbx 1).trans rfl; have by0 := blk_frozen hbx 0; have by1 := blk_frozen hbx 1; clear hbx) | skip; obtain ⟨hl5a, hl5b⟩ := hS5.lt; clear hS5 hb5) | go_simp
            refine hK.out _ _ (by ((try dsimp only); first | exact KP.out _ ((HB5.setCell (Nat.le_refl _) _).setCell (Nat.le_refl _) _) | exact KP.out _ (HB5.setCell (Nat.le_refl _) _) | exact KP.out _ bel)) (fun hHeld => ?_)
            clear hK K
            (try simp only [Act.put, putx])
            refine tk 7 ?_
            refine tk 8 ?_
            refine tk 9 ?_
            refine tk 10 ?_
            refine tr 12 (fun K hK => ?_)
            go_simp
            refine hK.out _ _ (by ((try dsimp only); first | exact KP.out _ ((HB5.setCell (Nat.le_refl _) _).setCell (Nat.le_refl _) _) | exact KP.out _ (HB5.setCell (Nat.le_refl _) _) | exact KP.out _ bel)) (fun hHeld => ?_)
            clear hK K
            (try simp only [Act.put, putx])
            refine tr 13 (fun K hK => ?_)
            go_simp
            refine hK.out _ _ (by ((try dsimp only); first | exact KP.out _ ((HB5.setCell (Nat.le_refl _) _).setCell (Nat.le_refl _) _) | exact KP.out _ (HB5.setCell (Nat.le_refl _) _) | exact KP.out _ bel)) (fun hHeld => ?_)
            clear hK K
            (try simp only [Act.put, putx])
            refine tr 14 (fun K hK => ?_)
            go_simp
            refine hK.out _ _ (by ((try dsimp only); first | exact KP.out _ ((HB5.setCell (Nat.le_refl _) _).setCell (Nat.le_refl _) _) | exact KP.out _ (HB5.setCell (Nat.le_refl _) _) | exact KP.out _ bel)) (fun hHeld => ?_)
            clear hK K
            (try simp only [Act.put, putx])
            refine wpAnyH_done (by kernel_rfl) ?_ _
            refine NoPanic.normal ?_
            have HRE := Aside0.mk (show r = none from by rw [HTV.out, hdr, toV_cons, HMS.out])
            go_wp2_with fail
            go_ret
            exact ⟨(below_mid HL.out (below_mid hb4_.out ((HB5.setCell (Nat.le_refl _) _).setCell (Nat.le_refl _) _))), fun _ => rfl, fun s_ t_ h => by rw [HRE.out] at h; cases h⟩
        | some st_ =>
          obtain ⟨s, tu⟩ := st_
          have HST := Aside0.mk (mergeV_len HMR.out).1
          have HSL := Aside0.mk (mergeV_len HMR.out).2
          cases tu with
          | false =>
            have KP := Aside0.mk (show ∀ w', Below w4.heap.size w4 w' → (w'.cell? ⟨w.heap.size, 0, none⟩ = some (.slice A0 m.c.length c0) ∧ w'.cell? ⟨w.heap.size, 1, none⟩ = some (.slice A1 m.s.length c1) ∧ w'.cell? ⟨w.heap.size, 2, none⟩ = some (.slice A2 m.n.length c2) ∧ w'.cell? ⟨w.heap.size, 3, none⟩ = some (.slice A3 m.m.length c3) ∧ w'.cell? ⟨w.heap.size, 4, none⟩ = some (.slice A4 m.e.length c4) ∧ w'.cell? ⟨w.heap.size, 5, none⟩ = some (.int .i64 m.sk) ∧ w'.cell? ⟨w.heap.size, 6, none⟩ = some (.int .i64 m.hp) ∧ w'.cell? ⟨ab, tg.toNat * 2, none⟩ = some (.bool o0) ∧ w'.cell? ⟨ab, tg.toNat * 2 + 1, none⟩ = some (.slice Ao o1.length co)) from fun w' h => ⟨keepc h hq1_.out, keepc h hq2_.out, keepc h hq3_.out, keepc h hq4_.out, keepc h hq5_.out, keepc h hq6_.out, keepc h hq7_.out, keepc h hq8_.out, keepc h hq9_.out⟩)
            refine wp_region_noPanic ?_
            refine wp_region_held_drew (S := fun w' => w'.cell? ⟨w.heap.size, 0, none⟩ = some (.slice A0 m.c.length c0) ∧ w'.cell? ⟨w.heap.size, 1, none⟩ = some (.slice A1 m.s.length c1) ∧ w'.cell? ⟨w.heap.size, 2, none⟩ = some (.slice A2 m.n.length c2) ∧ w'.cell? ⟨w.heap.size, 3, none⟩ = some (.slice A3 m.m.length c3) ∧ w'.cell? ⟨w.heap.size, 4, none⟩ = some (.slice A4 m.e.length c4) ∧ w'.cell? ⟨w.heap.size, 5, none⟩ = some (.int .i64 m.sk) ∧ w'.cell? ⟨w.heap.size, 6, none⟩ = some (.int .i64 m.hp) ∧ w'.cell? ⟨ab, tg.toNat * 2, none⟩ = some (.bool o0) ∧ w'.cell? ⟨ab, tg.toNat * 2 + 1, none⟩ = some (.slice Ao o1.length co)) (by kernel_rfl) (by ((try dsimp only); first | exact KP.out _ ((HB5.setCell (Nat.le_refl _) _).setCell (Nat.le_refl _) _) | exact KP.out _ (HB5.setCell (Nat.le_refl _) _) | exact KP.out _ bel)) (fun hHeld => ?_)
            refine tk 0 ?_
            refine tk 1 ?_
            refine tk 2 ?_
            refine tk 3 ?_
            refine tk 4 ?_
            refine tk 5 ?_
            refine wpAnyH_ready (rs := [6, 11]) (by kernel_rfl) (by simp) ?_
            refine AllReadyH.cons (o := _) rfl (fun K hK => ?_) (AllReadyH.cons (o := _) rfl (fun K hK => ?_) (AllReadyH.nil))
            · first | ((try go_simp); go_at_call 46; (with_reducible refine (merge_c ⟨A0, A1, A2, A3, A4, c0, c1, c2, c3, c4⟩ m o0 Ao co o1 Ax cx x _ (HM0.out.below (below_mid HL.out (below_mid hb4_.out (by first | exact Below.refl _ _ | exact Below.drew (Below.refl _ _) | assumption | exact below_drew (below_alloc (Below.refl _ _) _) | exact below_alloc (Below.drew (Below.refl _ _)) _ | exact below_alloc (Below.refl _ _) _)))) (Kd.C_below HCo.out (below_mid hb4_.out (by first | exact Below.refl _ _ | exact Below.drew (Below.refl _ _) | assumption | exact below_drew (below_alloc (Below.refl _ _) _) | exact below_alloc (Below.drew (Below.refl _ _)) _ | exact below_alloc (Below.refl _ _) _))) hco (Kd.C_below HRC.out (below_mid hb4_.out (by first | exact Below.refl _ _ | exact Below.drew (Below.refl _ _) | assumption | exact below_drew (below_alloc (Below.refl _ _) _) | exact below_alloc (Below.drew (Below.refl _ _)) _ | exact below_alloc (Below.refl _ _) _))) hcx (by omega) HMR.out).mono ?_); rintro e w5 ⟨hb5, hno, hyes⟩; obtain ⟨hst_, v, rfl, hrow⟩ := hyes s false rfl; obtain ⟨Av, cv, hv_, hlv, hFv⟩ := hrow; subst hv_; have HRW := Aside0.mk (show RowT w5 _ (.slice Av s.2.length cv) s.2 from ⟨Av, cv, rfl, hlv, hFv⟩); clear hFv; clear hno hyes; have HB5 : Below w4.heap.size w4 w5 := below_step (by first | exact Below.refl _ _ | exact Below.drew (Below.refl _ _) | assumption | exact below_drew (below_alloc (Below.refl _ _) _) | exact below_alloc (Below.drew (Below.refl _ _)) _ | exact below_alloc (Below.refl _ _) _) hb5; have hS5 := HS.out.below (below_mid hb4_.out HB5); obtain ⟨_, _, a0_, a1_, _, _⟩ := hS5.at (i := tg.toNat) hti; have t0_ := hS5.todo (i := tg.toNat) htj; have z0_ := (hS5.frz (tg.toNat * 2)).1; have z1_ := (hS5.frz (tg.toNat * 2 + 1)).1; have z2_ := (hS5.frz tg.toNat).2; have HS5 := Aside0.mk hS5; first | (have hbx := blk_below (blk_drew (heap_alloc_new w4 _)) hb5; have bx0 := (blk_cell hbx 0).trans rfl; have bx1 := (blk_cell hbx 1).trans rfl; have by0 := blk_frozen hbx 0; have by1 := blk_frozen hbx 1; clear hbx) | (have hbx := blk_below (heap_alloc_new w4 _) hb5; have bx0 := (blk_cell hbx 0).trans rfl; have bx1 := (blk_cell hbx 1).trans rfl; have by0 := blk_frozen hbx 0; have by1 := blk_frozen hbx 1; clear hbx) | (have hbx := blk_below (heap_alloc_new (World.drew w4) _) hb5; have bx0 := (blk_cell hbx 0).trans rfl; have bx1 := (blk_cell hbx 1).trans rfl; have by0 := blk_frozen hbx 0; have by1 := blk_frozen hbx 1; clear hbx) | skip; obtain ⟨hl5a, hl5b⟩ := hS5.lt; clear hS5 hb5) | go_simp
              refine hK.out _ _ (by ((try dsimp only); first | exact KP.out _ ((HB5.setCell (Nat.le_refl _) _).setCell (Nat.le_refl _) _) | exact KP.out _ (HB5.setCell (Nat.le_refl _) _) | exact KP.out _ bel)) (fun hHeld => ?_)
              clear hK K
              (try simp only [Act.put, putx])
              refine tk 7 ?_
              refine tk 8 ?_
              refine tk 9 ?_
              refine tk 10 ?_
              refine tr 11 (fun K hK => ?_)
              go_simp
              refine hK.out _ _ (by ((try dsimp only); first | exact KP.out _ ((HB5.setCell (Nat.le_refl _) _).setCell (Nat.le_refl _) _) | exact KP.out _ (HB5.setCell (Nat.le_refl _) _) | exact KP.out _ bel)) (fun hHeld => ?_)
              clear hK K
              (try simp only [Act.put, putx])
              refine tr 12 (fun K hK => ?_)
              go_simp
              refine hK.out _ _ (by ((try dsimp only); first | exact KP.out _ ((HB5.setCell (Nat.le_refl _) _).setCell (Nat.le_refl _) _) | exact KP.out _ (HB5.setCell (Nat.le_refl _) _) | exact KP.out _ bel)) (fun hHeld => ?_)
              clear hK K
              (try simp only [Act.put, putx])
              refine tr 13 (fun K hK => ?_)
              go_simp
              refine hK.out _ _ (by ((try dsimp only); first | exact KP.out _ ((HB5.setCell (Nat.le_refl _) _).setCell (Nat.le_refl _) _) | exact KP.out _ (HB5.setCell (Nat.le_refl _) _) | exact KP.out _ bel)) (fun hHeld => ?_)
              clear hK K
              (try simp only [Act.put, putx])
              refine tr 14 (fun K hK => ?_)
              go_simp
              refine hK.out _ _ (by ((try dsimp only); first | exact KP.out _ ((HB5.setCell (Nat.le_refl _) _).setCell (Nat.le_refl _) _) | exact KP.out _ (HB5.setCell (Nat.le_refl _) _) | exact KP.out _ bel)) (fun hHeld => ?_)
              clear hK K
              (try simp only [Act.put, putx])
              refine wpAnyH_done (by kernel_rfl) ?_ _
              refine NoPanic.normal ?_
              go_wp2_with fail
              go_roundg k1
              case measure => have := HKQ.out; omega
              case rel =>
                have hbe := below_mid hb4_.out (below_alloc HB5 (.cells #[.bool true, .slice Av s.2.length cv] 44))
                refine ⟨i + 1, sh1, td1, by go_num, ⟨by omega⟩, ⟨by have := HKQ.out; omega⟩, HLN, HG8, ⟨by rw [HTV.out, hdr, toV_cons, HMS.out]; rfl⟩, ⟨HS.out.below hbe⟩, ⟨HRXW.out.below hbe⟩, ⟨HRNW.out.below hbe⟩, ⟨blk_below HX.out hbe⟩, ⟨below_mid HL.out hbe⟩⟩
            · go_simp
              refine hK.out _ _ (by ((try dsimp only); first | exact KP.out _ ((HB5.setCell (Nat.le_refl _) _).setCell (Nat.le_refl _) _) | exact KP.out _ (HB5.setCell (Nat.le_refl _) _) | exact KP.out _ bel)) (fun hHeld => ?_)
              clear hK K
              (try simp only [Act.put, putx])
              refine tr 6 (fun K hK => ?_)
              first | ((try go_simp); go_at_call 46; (with_reducible refine (merge_c ⟨A0, A1, A2, A3, A4, c0, c1, c2, c3, c4⟩ m o0 Ao co o1 Ax cx x _ (HM0.out.below (below_mid HL.out (below_mid hb4_.out (by first | exact Below.refl _ _ | exact Below.drew (Below.refl _ _) | assumption | exact below_drew (below_alloc (Below.refl _ _) _) | exact below_alloc (Below.drew (Below.refl _ _)) _ | exact below_alloc (Below.refl _ _) _)))) (Kd.C_below HCo.out (below_mid hb4_.out (by first | exact Below.refl _ _ | exact Below.drew (Below.refl _ _) | assumption | exact below_drew (below_alloc (Below.refl _ _) _) | exact below_alloc (Below.drew (Below.refl _ _)) _ | exact below_alloc (Below.refl _ _) _))) hco (Kd.C_below HRC.out (below_mid hb4_.out (by first | exact Below.refl _ _ | exact Below.drew (Below.refl _ _) | assumption | exact below_drew (below_alloc (Below.refl _ _) _) | exact below_alloc (Below.drew (Below.refl _ _)) _ | exact below_alloc (Below.refl _ _) _))) hcx (by omega) HMR.out).mono ?_); rintro e w5 ⟨hb5, hno, hyes⟩; obtain ⟨hst_, v, rfl, hrow⟩ := hyes s false rfl; obtain ⟨Av, cv, hv_, hlv, hFv⟩ := hrow; subst hv_; have HRW := Aside0.mk (show RowT w5 _ (.slice Av s.2.length cv) s.2 from ⟨Av, cv, rfl, hlv, hFv⟩); clear hFv; clear hno hyes; have HB5 : Below w4.heap.size w4 w5 := below_step (by first | exact Below.refl _ _ | exact Below.drew (Below.refl _ _) | assumption | exact below_drew (below_alloc (Below.refl _ _) _) | exact below_alloc (Below.drew (Below.refl _ _)) _ | exact below_alloc (Below.refl _ _) _) hb5; have hS5 := HS.out.below (below_mid hb4_.out HB5); obtain ⟨_, _, a0_, a1_, _, _⟩ := hS5.at (i := tg.toNat) hti; have t0_ := hS5.todo (i := tg.toNat) htj; have z0_ := (hS5.frz (tg.toNat * 2)).1; have z1_ := (hS5.frz (tg.toNat * 2 + 1)).1; have z2_ := (hS5.frz tg.toNat).2; have HS5 := Aside0.mk hS5; first | (have hbx := blk_below (blk_drew (heap_alloc_new w4 _)) hb5; have bx0 := (blk_cell hbx 0).trans rfl; have bx1 := (blk_cell hbx 1).trans rfl; have by0 := blk_frozen hbx 0; have by1 := blk_frozen hbx 1; clear hbx) | (have hbx := blk_below (heap_alloc_new w4 _) hb5; have bx0 := (blk_cell hbx 0).trans rfl; have bx1 := (blk_cell hbx 1).trans rfl; have by0 := blk_frozen hbx 0; have by1 := blk_frozen hbx 1; clear hbx) | (have hbx := blk_below (heap_alloc_new (World.drew w4) _) hb5; have bx0 := (blk_cell hbx 0).trans rfl; have bx1 := (blk_cell hbx 1).trans rfl; have by0 := blk_frozen hbx 0; have by1 := blk_frozen hbx 1; clear hbx) | skip; obtain ⟨hl5a, hl5b⟩ := hS5.lt; clear hS5 hb5) | go_simp
              refine hK.out _ _ (by ((try dsimp only); first | exact KP.out _ ((HB5.setCell (Nat.le_refl _) _).setCell (Nat.le_refl _) _) | exact KP.out _ (HB5.setCell (Nat.le_refl _) _) | exact KP.out _ bel)) (fun hHeld => ?_)
              clear hK K
              (try simp only [Act.put, putx])
              refine tk 7 ?_
              refine tk 8 ?_
              refine tk 9 ?_
              refine tk 10 ?_
              refine tr 12 (fun K hK => ?_)
              go_simp
              refine hK.out _ _ (by ((try dsimp only); first | exact KP.out _ ((HB5.setCell (Nat.le_refl _) _).setCell (Nat.le_refl _) _) | exact KP.out _ (HB5.setCell (Nat.le_refl _) _) | exact KP.out _ bel)) (fun hHeld => ?_)
              clear hK K
              (try simp only [Act.put, putx])
              refine tr 13 (fun K hK => ?_)
              go_simp
              refine hK.out _ _ (by ((try dsimp only); first | exact KP.out _ ((HB5.setCell (Nat.le_refl _) _).setCell (Nat.le_refl _) _) | exact KP.out _ (HB5.setCell (Nat.le_refl _) _) | exact KP.out _ bel)) (fun hHeld => ?_)
              clear hK K
              (try simp only [Act.put, putx])
              refine tr 14 (fun K hK => ?_)
              go_simp
              refine hK.out _ _ (by ((try dsimp only); first | exact KP.out _ ((HB5.setCell (Nat.le_refl _) _).setCell (Nat.le_refl _) _) | exact KP.out _ (HB5.setCell (Nat.le_refl _) _) | exact KP.out _ bel)) (fun hHeld => ?_)
              clear hK K
              (try simp only [Act.put, putx])
              refine wpAnyH_done (by kernel_rfl) ?_ _
              refine NoPanic.normal ?_
              go_wp2_with fail
              go_roundg k1
              case measure => have := HKQ.out; omega
              case rel =>
                have hbe := below_mid hb4_.out ((HB5.setCell (show w4.heap.size ≤ (⟨w4.heap.size, 0, none⟩ : Addr).block from Nat.le_refl _) (.bool true)).setCell (show w4.heap.size ≤ (⟨w4.heap.size, 1, none⟩ : Addr).block from Nat.le_refl _) (.slice Av s.2.length cv))
                refine ⟨i + 1, sh1, td1, by go_num, ⟨by omega⟩, ⟨by have := HKQ.out; omega⟩, HLN, HG8, ⟨by rw [HTV.out, hdr, toV_cons, HMS.out]; rfl⟩, ⟨HS.out.below hbe⟩, ⟨HRXW.out.below hbe⟩, ⟨HRNW.out.below hbe⟩, ⟨blk_below HX.out hbe⟩, ⟨below_mid HL.out hbe⟩⟩
          | true =>
            have KP := Aside0.mk (show ∀ w', Below w4.heap.size w4 w' → (w'.cell? ⟨w.heap.size, 0, none⟩ = some (.slice A0 m.c.length c0) ∧ w'.cell? ⟨w.heap.size, 1, none⟩ = some (.slice A1 m.s.length c1) ∧ w'.cell? ⟨w.heap.size, 2, none⟩ = some (.slice A2 m.n.length c2) ∧ w'.cell? ⟨w.heap.size, 3, none⟩ = some (.slice A3 m.m.length c3) ∧ w'.cell? ⟨w.heap.size, 4, none⟩ = some (.slice A4 m.e.length c4) ∧ w'.cell? ⟨w.heap.size, 5, none⟩ = some (.int .i64 m.sk) ∧ w'.cell? ⟨w.heap.size, 6, none⟩ = some (.int .i64 m.hp) ∧ w'.cell? ⟨ab, tg.toNat * 2, none⟩ = some (.bool o0) ∧ w'.cell? ⟨ab, tg.toNat * 2 + 1, none⟩ = some (.slice Ao o1.length co)) from fun w' h => ⟨keepc h hq1_.out, keepc h hq2_.out, keepc h hq3_.out, keepc h hq4_.out, keepc h hq5_.out, keepc h hq6_.out, keepc h hq7_.out, keepc h hq8_.out, keepc h hq9_.out⟩)
            refine wp_region_noPanic ?_
            refine wp_region_held_drew (S := fun w' => w'.cell? ⟨w.heap.size, 0, none⟩ = some (.slice A0 m.c.length c0) ∧ w'.cell? ⟨w.heap.size, 1, none⟩ = some (.slice A1 m.s.length c1) ∧ w'.cell? ⟨w.heap.size, 2, none⟩ = some (.slice A2 m.n.length c2) ∧ w'.cell? ⟨w.heap.size, 3, none⟩ = some (.slice A3 m.m.length c3) ∧ w'.cell? ⟨w.heap.size, 4, none⟩ = some (.slice A4 m.e.length c4) ∧ w'.cell? ⟨w.heap.size, 5, none⟩ = some (.int .i64 m.sk) ∧ w'.cell? ⟨w.heap.size, 6, none⟩ = some (.int .i64 m.hp) ∧ w'.cell? ⟨ab, tg.toNat * 2, none⟩ = some (.bool o0) ∧ w'.cell? ⟨ab, tg.toNat * 2 + 1, none⟩ = some (.slice Ao o1.length co)) (by kernel_rfl) (by ((try dsimp only); first | exact KP.out _ ((HB5.setCell (Nat.le_refl _) _).setCell (Nat.le_refl _) _) | exact KP.out _ (HB5.setCell (Nat.le_refl _) _) | exact KP.out _ bel)) (fun hHeld => ?_)
            refine tk 0 ?_
            refine tk 1 ?_
            refine tk 2 ?_
            refine tk 3 ?_
            refine tk 4 ?_
            refine tk 5 ?_
            refine wpAnyH_ready (rs := [6, 11]) (by kernel_rfl) (by simp) ?_
            refine AllReadyH.cons (o := _) rfl (fun K hK => ?_) (AllReadyH.cons (o := _) rfl (fun K hK => ?_) (AllReadyH.nil))
            · first | ((try go_simp); go_at_call 46; (with_reducible refine (merge_c ⟨A0, A1, A2, A3, A4, c0, c1, c2, c3, c4⟩ m o0 Ao co o1 Ax cx x _ (HM0.out.below (below_mid HL.out (below_mid hb4_.out (by first | exact Below.refl _ _ | exact Below.drew (Below.refl _ _) | assumption | exact below_drew (below_alloc (Below.refl _ _) _) | exact below_alloc (Below.drew (Below.refl _ _)) _ | exact below_alloc (Below.refl _ _) _)))) (Kd.C_below HCo.out (below_mid hb4_.out (by first | exact Below.refl _ _ | exact Below.drew (Below.refl _ _) | assumption | exact below_drew (below_alloc (Below.refl _ _) _) | exact below_alloc (Below.drew (Below.refl _ _)) _ | exact below_alloc (Below.refl _ _) _))) hco (Kd.C_below HRC.out (below_mid hb4_.out (by first | exact Below.refl _ _ | exact Below.drew (Below.refl _ _) | assumption | exact below_drew (below_alloc (Below.refl _ _) _) | exact below_alloc (Below.drew (Below.refl _ _)) _ | exact below_alloc (Below.refl _ _) _))) hcx (by omega) HMR.out).mono ?_); rintro e w5 ⟨hb5, hno, hyes⟩; obtain ⟨hst_, v, rfl, hrow⟩ := hyes s true rfl; obtain ⟨Av, cv, hv_, hlv, hFv⟩ := hrow; subst hv_; have HRW := Aside0.mk (show RowT w5 _ (.slice Av s.2.length cv) s.2 from ⟨Av, cv, rfl, hlv, hFv⟩); clear hFv; clear hno hyes; have HB5 : Below w4.heap.size w4 w5 := below_step (by first | exact Below.refl _ _ | exact Below.drew (Below.refl _ _) | assumption | exact below_drew (below_alloc (Below.refl _ _) _) | exact below_alloc (Below.drew (Below.refl _ _)) _ | exact below_alloc (Below.refl _ _) _) hb5; have hS5 := HS.out.below (below_mid hb4_.out HB5); obtain ⟨_, _, a0_, a1_, _, _⟩ := hS5.at (i := tg.toNat) hti; have t0_ := hS5.todo (i := tg.toNat) htj; have z0_ := (hS5.frz (tg.toNat * 2)).1; have z1_ := (hS5.frz (tg.toNat * 2 + 1)).1; have z2_ := (hS5.frz tg.toNat).2; have HS5 := Aside0.mk hS5; first | (have hbx := blk_below (blk_drew (heap_alloc_new w4 _)) hb5; have bx0 := (blk_cell hbx 0).trans rfl; have bx1 := (blk_cell hbx 1).trans rfl; have by0 := blk_frozen hbx 0; have by1 := blk_frozen hbx 1; clear hbx) | (have hbx := blk_below (heap_alloc_new w4 _) hb5; have bx0 := (blk_cell hbx 0).trans rfl; have bx1 := (blk_cell hbx 1).trans rfl; have by0 := blk_frozen hbx 0; have by1 := blk_frozen hbx 1; clear hbx) | (have hbx := blk_below (heap_alloc_new (World.drew w4) _) hb5; have bx0 := (blk_cell hbx 0).trans rfl; have bx1 := (blk_cell hbx 1).trans rfl; have by0 := blk_frozen hbx 0; have by1 := blk_frozen hbx 1; clear hbx) | skip; obtain ⟨hl5a, hl5b⟩ := hS5.lt; clear hS5 hb5) | go_simp
              refine hK.out _ _ (by ((try dsimp only); first | exact KP.out _ ((HB5.setCell (Nat.le_refl _) _).setCell (Nat.le_refl _) _) | exact KP.out _ (HB5.setCell (Nat.le_refl _) _) | exact KP.out _ bel)) (fun hHeld => ?_)
              clear hK K
              (try simp only [Act.put, putx])
              refine tk 7 ?_
              refine tk 8 ?_
              refine tk 9 ?_
              refine tk 10 ?_
              refine tr 11 (fun K hK => ?_)
              go_simp
              refine hK.out _ _ (by ((try dsimp only); first | exact KP.out _ ((HB5.setCell (Nat.le_refl _) _).setCell (Nat.le_refl _) _) | exact KP.out _ (HB5.setCell (Nat.le_refl _) _) | exact KP.out _ bel)) (fun hHeld => ?_)
              clear hK K
              (try simp only [Act.put, putx])
              refine tr 12 (fun K hK => ?_)
              go_simp
              refine hK.out _ _ (by ((try dsimp only); first | exact KP.out _ ((HB5.setCell (Nat.le_refl _) _).setCell (Nat.le_refl _) _) | exact KP.out _ (HB5.setCell (Nat.le_refl _) _) | exact KP.out _ bel)) (fun hHeld => ?_)
              clear hK K
              (try simp only [Act.put, putx])
              refine tr 13 (fun K hK => ?_)
              go_simp
              refine hK.out _ _ (by ((try dsimp only); first | exact KP.out _ ((HB5.setCell (Nat.le_refl _) _).setCell (Nat.le_refl _) _) | exact KP.out _ (HB5.setCell (Nat.le_refl _) _) | exact KP.out _ bel)) (fun hHeld => ?_)
              clear hK K
              (try simp only [Act.put, putx])
              refine tr 14 (fun K hK => ?_)
              go_simp
              refine hK.out _ _ (by ((try dsimp only); first | exact KP.out _ ((HB5.setCell (Nat.le_refl _) _).setCell (Nat.le_refl _) _) | exact KP.out _ (HB5.setCell (Nat.le_refl _) _) | exact KP.out _ bel)) (fun hHeld => ?_)
              clear hK K
              (try simp only [Act.put, putx])
              refine wpAnyH_done (by kernel_rfl) ?_ _
              refine NoPanic.normal ?_
              go_wp2_with fail
              go_roundg k1
              case measure => have := HKQ.out; omega
              case rel =>
                have hbe := below_mid hb4_.out HB5
                have hrow : RowX _ w0.heap.size ab tb (.slice Av s.2.length cv) s.2 := RowX.ofT HRW.out (by have := HL.out.size; have := hb4_.out.size; simp; omega) (by have := hb4_.out.size; simp; omega) (by have := hb4_.out.size; simp; omega)
                have hnew := ((HS.out.below hbe).set_sh (i := tg.toNat) (s := s) hti hrow).set_td tg.toNat true
                rw [HST.out] at hnew
                refine ⟨i + 1, sh1.set tg.toNat s, td1.set tg.toNat true, by go_num, ⟨by omega⟩, ⟨by have := HKQ.out; omega⟩, ⟨by rw [List.length_set, List.length_set]; exact HLN.out⟩, ⟨fun j => ?_⟩, ⟨by rw [HTV.out, hdr, toV_cons, HMS.out]; rfl⟩, ⟨(hnew).below (below_alloc (Below.refl _ _) _)⟩, ⟨((((HRXW.out.below hbe).set (by simp; omega) _).set (by simp; omega) _).set (by simp; omega) _).below (below_alloc (Below.refl _ _) _)⟩, ⟨((((HRNW.out.below hbe).set (by simp; omega) _).set (by simp; omega) _).set (by simp; omega) _).below (below_alloc (Below.refl _ _) _)⟩, ⟨blk_alloc (blk_far (blk_far (blk_far (blk_below HX.out hbe) (by simp; omega) _) (by simp; omega) _) (by simp; omega) _) _⟩, ⟨below_alloc ((((below_mid HL.out hbe).setCell (by simp; omega) _).setCell (by simp; omega) _).setCell (by simp; omega) _) _⟩⟩
                rw [shA_set (by rw [HLN.out.1]; omega)]
                split
                · rw [HSL.out]; omega
                · exact HG8.out j
            · go_simp
              refine hK.out _ _ (by ((try dsimp only); first | exact KP.out _ ((HB5.setCell (Nat.le_refl _) _).setCell (Nat.le_refl _) _) | exact KP.out _ (HB5.setCell (Nat.le_refl _) _) | exact KP.out _ bel)) (fun hHeld => ?_)
              clear hK K
              (try simp only [Act.put, putx])
              refine tr 6 (fun K hK => ?_)
              first | ((try go_simp); go_at_call 46; (with_reducible refine (merge_c ⟨A0, A1, A2, A3, A4, c0, c1, c2, c3, c4⟩ m o0 Ao co o1 Ax cx x _ (HM0.out.below (below_mid HL.out (below_mid hb4_.out (by first | exact Below.refl _ _ | exact Below.drew (Below.refl _ _) | assumption | exact below_drew (below_alloc (Below.refl _ _) _) | exact below_alloc (Below.drew (Below.refl _ _)) _ | exact below_alloc (Below.refl _ _) _)))) (Kd.C_below HCo.out (below_mid hb4_.out (by first | exact Below.refl _ _ | exact Below.drew (Below.refl _ _) | assumption | exact below_drew (below_alloc (Below.refl _ _) _) | exact below_alloc (Below.drew (Below.refl _ _)) _ | exact below_alloc (Below.refl _ _) _))) hco (Kd.C_below HRC.out (below_mid hb4_.out (by first | exact Below.refl _ _ | exact Below.drew (Below.refl _ _) | assumption | exact below_drew (below_alloc (Below.refl _ _) _) | exact below_alloc (Below.drew (Below.refl _ _)) _ | exact below_alloc (Below.refl _ _) _))) hcx (by omega) HMR.out).mono ?_); rintro e w5 ⟨hb5, hno, hyes⟩; obtain ⟨hst_, v, rfl, hrow⟩ := hyes s true rfl; obtain ⟨Av, cv, hv_, hlv, hFv⟩ := hrow; subst hv_; have HRW := Aside0.mk (show RowT w5 _ (.slice Av s.2.length cv) s.2 from ⟨Av, cv, rfl, hlv, hFv⟩); clear hFv; clear hno hyes; have HB5 : Below w4.heap.size w4 w5 := below_step (by first | exact Below.refl _ _ | exact Below.drew (Below.refl _ _) | assumption | exact below_drew (below_alloc (Below.refl _ _) _) | exact below_alloc (Below.drew (Below.refl _ _)) _ | exact below_alloc (Below.refl _ _) _) hb5; have hS5 := HS.out.below (below_mid hb4_.out HB5); obtain ⟨_, _, a0_, a1_, _, _⟩ := hS5.at (i := tg.toNat) hti; have t0_ := hS5.todo (i := tg.toNat) htj; have z0_ := (hS5.frz (tg.toNat * 2)).1; have z1_ := (hS5.frz (tg.toNat * 2 + 1)).1; have z2_ := (hS5.frz tg.toNat).2; have HS5 := Aside0.mk hS5; first | (have hbx := blk_below (blk_drew (heap_alloc_new w4 _)) hb5; have bx0 := (blk_cell hbx 0).trans rfl; have bx1 := (blk_cell hbx 1).trans rfl; have by0 := blk_frozen hbx 0; have by1 := blk_frozen hbx 1; clear hbx) | (have hbx := blk_below (heap_alloc_new w4 _) hb5; have bx0 := (blk_cell hbx 0).trans rfl; have bx1 := (blk_cell hbx 1).trans rfl; have by0 := blk_frozen hbx 0; have by1 := blk_frozen hbx 1; clear hbx) | (have hbx := blk_below (heap_alloc_new (World.drew w4) _) hb5; have bx0 := (blk_cell hbx 0).trans rfl; have bx1 := (blk_cell hbx 1).trans rfl; have by0 := blk_frozen hbx 0; have by1 := blk_frozen hbx 1; clear hbx) | skip; obtain ⟨hl5a, hl5b⟩ := hS5.lt; clear hS5 hb5) | go_simp
              refine hK.out _ _ (by ((try dsimp only); first | exact KP.out _ ((HB5.setCell (Nat.le_refl _) _).setCell (Nat.le_refl _) _) | exact KP.out _ (HB5.setCell (Nat.le_refl _) _) | exact KP.out _ bel)) (fun hHeld => ?_)
              clear hK K
              (try simp only [Act.put, putx])
              refine tk 7 ?_
              refine tk 8 ?_
              refine tk 9 ?_
              refine tk 10 ?_
              refine tr 12 (fun K hK => ?_)
              go_simp
              refine hK.out _ _ (by ((try dsimp only); first | exact KP.out _ ((HB5.setCell (Nat.le_refl _) _).setCell (Nat.le_refl _) _) | exact KP.out _ (HB5.setCell (Nat.le_refl _) _) | exact KP.out _ bel)) (fun hHeld => ?_)
              clear hK K
              (try simp only [Act.put, putx])
              refine tr 13 (fun K hK => ?_)
              go_simp
              refine hK.out _ _ (by ((try dsimp only); first | exact KP.out _ ((HB5.setCell (Nat.le_refl _) _).setCell (Nat.le_refl _) _) | exact KP.out _ (HB5.setCell (Nat.le_refl _) _) | exact KP.out _ bel)) (fun hHeld => ?_)
              clear hK K
              (try simp only [Act.put, putx])
              refine tr 14 (fun K hK => ?_)
              go_simp
              refine hK.out _ _ (by ((try dsimp only); first | exact KP.out _ ((HB5.setCell (Nat.le_refl _) _).setCell (Nat.le_refl _) _) | exact KP.out _ (HB5.setCell (Nat.le_refl _) _) | exact KP.out _ bel)) (fun hHeld => ?_)
              clear hK K
              (try simp only [Act.put, putx])
              refine wpAnyH_done (by kernel_rfl) ?_ _
              refine NoPanic.normal ?_
              go_wp2_with fail
              go_roundg k1
              case measure => have := HKQ.out; omega
              case rel =>
                have hbe := below_mid hb4_.out ((HB5.setCell (show w4.heap.size ≤ (⟨w4.heap.size, 0, none⟩ : Addr).block from Nat.le_refl _) (.bool true)).setCell (show w4.heap.size ≤ (⟨w4.heap.size, 1, none⟩ : Addr).block from Nat.le_refl _) (.slice Av s.2.length cv))
                have hrow : RowX _ w0.heap.size ab tb (.slice Av s.2.length cv) s.2 := RowX.ofT (RowT.set (p := ⟨w4.heap.size, 1, none⟩) (RowT.set (p := ⟨w4.heap.size, 0, none⟩) HRW.out (by simp) (.bool true)) (by simp) (.slice Av s.2.length cv)) (by have := HL.out.size; have := hb4_.out.size; simp; omega) (by have := hb4_.out.size; have := HB5.size; simp; omega) (by have := hb4_.out.size; simp; omega)
                have hnew := ((HS.out.below hbe).set_sh (i := tg.toNat) (s := s) hti hrow).set_td tg.toNat true
                rw [HST.out] at hnew
                refine ⟨i + 1, sh1.set tg.toNat s, td1.set tg.toNat true, by go_num, ⟨by omega⟩, ⟨by have := HKQ.out; omega⟩, ⟨by rw [List.length_set, List.length_set]; exact HLN.out⟩, ⟨fun j => ?_⟩, ⟨by rw [HTV.out, hdr, toV_cons, HMS.out]; rfl⟩, ⟨hnew⟩, ⟨(((HRXW.out.below hbe).set (by simp; omega) _).set (by simp; omega) _).set (by simp; omega) _⟩, ⟨(((HRNW.out.below hbe).set (by simp; omega) _).set (by simp; omega) _).set (by simp; omega) _⟩, ⟨blk_far (blk_far (blk_far (blk_below HX.out hbe) (by simp; omega) _) (by simp; omega) _) (by simp; omega) _⟩, ⟨(((below_mid HL.out hbe).setCell (by simp; omega) _).setCell (by simp; omega) _).setCell (by simp; omega) _⟩⟩
                rw [shA_set (by rw [HLN.out.1]; omega)]
                split
                · rw [HSL.out]; omega
                · exact HG8.out j
      · have hie : i = nx.length := by have := HK.out; omega
        have HRE := Aside0.mk (show r = some (sh1, td1) from by rw [HTV.out, List.drop_eq_nil_of_le (by omega)]; rfl)
        subst hie
        clear hi
        go_wp2_with fail
        go_ret
        refine ⟨HL.out, (fun h => by rw [HRE.out] at h; cases h), fun sh' td' h => ?_⟩
        rw [HRE.out] at h
        injection h with h; injection h with h1 h2
        subst h1 h2
        exact ⟨rfl, HS.out⟩
end Go.Proofs.Ytcfbhobpfnlkpaa.Flow
