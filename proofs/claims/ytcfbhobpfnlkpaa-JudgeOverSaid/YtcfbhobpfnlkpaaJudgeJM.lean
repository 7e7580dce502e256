/- The walk of judge.Right. -/
import Derived.Test.YtcfbhobpfnlkpaaJudgeJO
import Derived.Test.YtcfbhobpfnlkpaaJudgeFW
namespace Go.Proofs.Ytcfbhobpfnlkpaa.Flow
open Go.RowKit Go.Proofs.Ytcfbhobpfnlkpaa.QJudgeFound Go.Proofs.YtcfbhobpfnlkpaaW.PrintWords Go.Proofs.YtcfbhobpfnlkpaaW.PrintLast Go.Proofs.Ytcfbhobpfnlkpaa.Chain
set_option linter.unusedVariables false
set_option linter.unusedSimpArgs false
theorem stepV_len (m : Im) (f pc : Int) (st : List S39) : (stepV m f pc st).2.1.length ≤ 8 ∧ (stepV m f pc st).2.2.length ≤ 2 := by
  have hn := nexts_len (rd_T49 (rd_T52 m.m f).f3 pc) pc
  unfold stepV
  by_cases h : f < 0 ∨ (m.m.length : Int) ≤ f ∨ pc < 0 ∨ ((rd_T52 m.m f).f3.length : Int) ≤ pc
  · rw [if_pos h]; exact ⟨by decide, by decide⟩
  rw [if_neg h]
  unfold stepI
  split
  · exact ⟨by decide, by decide⟩
  split
  · unfold dupV
    split
    · exact ⟨by decide, by decide⟩
    · refine ⟨?_, hn⟩
      rw [List.length_append, List.length_drop]
      omega
  · unfold typesV
    split
    · exact ⟨by decide, by decide⟩
    · split
      · refine ⟨?_, hn⟩
        rw [List.length_append, List.length_take]
        omega
      · exact ⟨by decide, by decide⟩
theorem step_w {w : World} {a : IA} {m : Im} (hm : IC w a m) (hs : SaneP m) (f pc : Int) {As : Option Addr} {cs : Nat} {st : List S39} (hst : Kd.C k39 w As st.length st) (hsc : st.length ≤ cs) (hsl : st.length ≤ 100000) {e : Int} {r : List S39} {nx : List Int} (hv : stepV m f pc st = (e, r, nx)) :
    Calls Try.prog 29 #[.agg #[.slice a.A0 m.c.length a.c0, .slice a.A1 m.s.length a.c1, .slice a.A2 m.n.length a.c2, .slice a.A3 m.m.length a.c3, .slice a.A4 m.e.length a.c4, .int .i64 m.sk, .int .i64 m.hp], .int .i64 f, .int .i64 pc, .slice As st.length cs] w fun e' w' => ∃ A c B k, e' = .returned (.tuple #[.slice A r.length c, .slice B nx.length k, .int .i64 e]) ∧ r.length ≤ c ∧ Kd.C k39 w' A r.length r ∧ nx.length ≤ k ∧ Kd.C (Kd.int .i64) w' B nx.length nx ∧ Below w.heap.size w w' := by
  refine (step_calls a m f pc As cs st w hm hs hst hsc hsl).mono ?_
  rintro e' w' ⟨va, vn, rfl, h1, h2, hb⟩
  rw [hv] at h1 h2 ⊢
  obtain ⟨A, c, rfl, k1, k2⟩ := h1.form
  obtain ⟨B, k, rfl, k3, k4⟩ := h2.form
  exact ⟨A, c, B, k, rfl, k1, k2, k3, k4, hb⟩
theorem rightMB_at {m : Im} {f : Int} {s : List Shp} {j : Nat} (hj : j < s.length) (h1 : (shA s j).1 = true) (h : stepB m f s j = false) : rightMB m f s = false := by
  cases hb : rightMB m f s with
  | false => rfl
  | true =>
    have := (rightMB_iff.1 hb).2.2.2.2 j h1
    rw [stepB_iff.2 this] at h
    cases h
theorem rightMB_all {m : Im} {f : Int} {s : List Shp} (h1 : s.length = codeN m f) (h2 : codeN m f ≠ 0) (h3 : (shA s 0).1 = true) (h4 : (shA s 0).2 = []) (h : ∀ j, j < s.length → (shA s j).1 = true → stepB m f s j = true) : rightMB m f s = true :=
  rightMB_iff.2 ⟨h1, h2, h3, h4, fun i hi => stepB_iff.1 (h i (shA_lt hi) hi)⟩
def tgB (m : Im) (s : List Shp) (x : List S39) (tg : Int) : Bool := (shA s tg.toNat).1 && underV m.c x (shA s tg.toNat).2
theorem stepB_of {m : Im} {f : Int} {s : List Shp} {j : Nat} {e : Int} {x : List S39} {nx : List Int} (h : stepV m f (j : Int) (shA s j).2 = (e, x, nx)) : stepB m f s j = (decide (e = 0) && nx.all (tgB m s x)) := by
  unfold stepB tgB
  rw [h]
theorem all_of {p : Int → Bool} {l : List Int} (h : ∀ j, j < l.length → p (rd l (j : Int)) = true) : l.all p = true := by
  rw [List.all_eq_true]
  intro x hx
  obtain ⟨j, hj, rfl⟩ := List.mem_iff_getElem.1 hx
  have := h j hj
  rwa [rd_nat hj] at this
theorem all_no {p : Int → Bool} {l : List Int} {j : Nat} (hj : j < l.length) (h : p (rd l (j : Int)) = false) : l.all p = false := by
  cases hb : l.all p with
  | false => rfl
  | true =>
    rw [List.all_eq_true] at hb
    rw [rd_nat hj] at h
    rw [hb _ (List.getElem_mem hj)] at h
    cases h
set_option maxHeartbeats 16000000 in
set_option maxRecDepth 100000 in
theorem jmethod_c (a : IA) (m : Im) (f : Int) (A : Option Addr) (ca : Nat) (u : List S44) (w : World) (hm : IC w a m) (hq : saneB m = true) (hf0 : 0 ≤ f) (hf1 : f < (m.m.length : Int)) (hu : Kd.C k44 w A u.length u) (hua : u.length ≤ ca) (h1000 : ∀ j, j < u.length → (rd_T44 u (j : Int)).f1.length ≤ 100000) {p : Bool} (hp : rightMB m f (u.map shp) = p) :
    Calls Try.prog 18 #[.agg #[.slice a.A0 m.c.length a.c0, .slice a.A1 m.s.length a.c1, .slice a.A2 m.n.length a.c2, .slice a.A3 m.m.length a.c3, .slice a.A4 m.e.length a.c4, .int .i64 m.sk, .int .i64 m.hp], .int .i64 f, .slice A u.length ca] w fun e w' => e = .returned (.bool p) ∧ Below w.heap.size w w' := by
  obtain ⟨A0, A1, A2, A3, A4, c0, c1, c2, c3, c4⟩ := a
  have HM := Aside0.mk hm
  have HU := Aside0.mk hu
  have HPP := Aside0.mk hp
  have HQ := Aside0.mk hq
  have HSN := Aside0.mk (saneP hq)
  have hmu := Kd.C_max hu
  have H1000 := Aside0.mk h1000
  clear hm hu hp hq h1000
  obtain ⟨ae, F0, g0', F1, g1', F4, g4', F7, g7', hA3, y0, y1, y2, y3, y4, y5, y6, y7, z0, z1, z2, z3, z4, z5, z6, z7⟩ := at_T52 HM.out.h3 f hf0 hf1
  subst hA3
  clear y0 y1 y2 y3 y5 y6 y7 z0 z1 z2 z3 z4 z5 z6 z7
  have hmp := HSN.out.metP (rdM_mem hf0 hf1)
  have hx0 := hmp.c0
  have hx64 := hmp.c64
  clear hmp
  obtain ⟨X, hX⟩ : ∃ X, (rd_T52 m.m f).f3 = X := ⟨_, rfl⟩
  rw [hX] at y4 hx0 hx64
  have HXX := Aside0.mk hX
  have HCN := Aside0.mk (show codeN m f = X.length from by unfold codeN; rw [hX])
  clear hX
  have hal := World.block_lt_of_cell? w _ y4
  have hal1 : (ae.add (f.toNat * 8)).block < w.heap.size + 1 := Nat.lt_succ_of_lt hal
  by_cases hl : u.length = X.length
  case neg =>
    have dl : ((u.length : Int) != (X.length : Int)) = true := bne_iff_ne.2 (by omega)
    have hpf : p = false := by
      rw [← HPP.out]
      unfold rightMB
      rw [List.length_map, HCN.out, decide_eq_false hl]
      rfl
    clear hl
    go_enter Try.func18, Try.ntmps18
    go_wp2_with fail
    go_ret
    exact ⟨by first | (rw [hpf]; rfl) | rfl, bel⟩
  have dl : ((u.length : Int) != (X.length : Int)) = false := by rw [hl]; exact bne_self_eq_false _
  have du0 : ((u.length : Int) == 0) = false := beq_eq_false_iff_ne.2 (by omega)
  have hle : u.length ≤ X.length := by omega
  have hge : X.length ≤ u.length := by omega
  have hu0 : 0 < (u.length : Int) := by omega
  have HLL := Aside0.mk hl
  clear hl
  obtain ⟨adu, Au0, cu0, hA, f00, f01, hcu0, hCu0⟩ := at_T44 HU.out 0 (by decide) (by omega)
  subst hA
  obtain ⟨⟨s00, s01⟩, hs0⟩ : ∃ s, rd_T44 u 0 = s := ⟨_, rfl⟩
  rw [hs0] at f00 f01
  dsimp only at f00 f01
  replace f00 : w.cell? adu = some (.bool s00) := by simpa [Addr.add] using f00
  replace f01 : w.cell? ⟨adu.block, adu.off + 1, none⟩ = some (.slice Au0 s01.length cu0) := by simpa [Addr.add] using f01
  have hadu := World.block_lt_of_cell? w _ f00
  have hadu1 : adu.block < w.heap.size + 1 := Nat.lt_succ_of_lt hadu
  have HS00 := Aside0.mk (show shA (u.map shp) 0 = (s00, s01) from by rw [shA_map]; exact congrArg shp hs0)
  clear hs0 hCu0 hcu0
  cases s00 with
  | false =>
    have hpf : p = false := by
      rw [← HPP.out]
      unfold rightMB
      rw [HS00.out]
      simp
    go_enter Try.func18, Try.ntmps18
    go_wp2_with fail
    go_ret
    exact ⟨by first | (rw [hpf]; rfl) | rfl, bel⟩
  | true =>
  by_cases hs1 : 0 < s01.length
  · have d1 : decide (0 < (s01.length : Int)) = true := decide_eq_true (by omega)
    have hpf : p = false := by
      rw [← HPP.out]
      unfold rightMB
      rw [HS00.out]
      have : decide (s01.length = 0) = false := decide_eq_false (by omega)
      dsimp only
      rw [this, Bool.false_and, Bool.and_false, Bool.and_false, Bool.and_false]
    go_enter Try.func18, Try.ntmps18
    go_wp2_with fail
    go_ret
    exact ⟨by first | (rw [hpf]; rfl) | rfl, bel⟩
  have d1 : decide (0 < (s01.length : Int)) = false := decide_eq_false (by omega)
  have HS01 := Aside0.mk (List.length_eq_zero_iff.1 (by omega) : s01 = [])
  go_enter Try.func18, Try.ntmps18
  go_wp2_with fail
  refine see (F := fun w0_ => Below w.heap.size w w0_ ∧ w0_.heap[w.heap.size]? = some (.cells #[.slice A0 m.c.length c0, .slice A1 m.s.length c1, .slice A2 m.n.length c2, .slice (some ae) m.m.length c3, .slice A4 m.e.length c4, .int .i64 m.sk, .int .i64 m.hp] 28 (0, 0))) _ ⟨bel, blk_new w _⟩ ?_
  rintro w0 ⟨hb0_, HX0⟩
  replace hb0_ := Aside0.mk hb0_
  replace HX0 := Aside0.mk HX0
  clear dl du0 f00 f01 d1 y4 hs1
  go_loopg [46] (u.length + 1) (fun kq v46 w' => ∃ k : Nat, v46 = .int .i64 (k : Int) ∧ Aside0 (k ≤ u.length) ∧ Aside0 (k + kq = u.length + 1) ∧ Aside0 (∀ j, j < k → (shA (u.map shp) j).1 = true → stepB m f (u.map shp) j = true) ∧ Aside0 (Below w0.heap.size w0 w'))
  case atStart => exact ⟨0, rfl, ⟨Nat.zero_le _⟩, ⟨by omega⟩, ⟨fun j hj => by omega⟩, ⟨Below.refl _ _⟩⟩
  case round =>
    obtain ⟨k, rfl, HK, HKQ, HP, HL⟩ := hrel
    have hbw : Below w.heap.size w wr := below_mid hb0_.out HL.out
    have HXW := Aside0.mk (blk_below HX0.out HL.out)
    cases gk with
    | zero => exact absurd HK.out (by have := HKQ.out; omega)
    | succ k1 =>
      by_cases hk : k < u.length
      · obtain ⟨adk, Au, cu, hA, f0, f1, hcu, hCu⟩ := at_T44 (Kd.C_below HU.out hbw) (k : Int) (by omega) (by omega)
        cases hA
        simp only [Int.toNat_natCast] at f0 f1
        have h1k := H1000.out k hk
        obtain ⟨⟨s0, s1⟩, hs⟩ : ∃ s, rd_T44 u (k : Int) = s := ⟨_, rfl⟩
        rw [hs] at f0 f1 hcu hCu h1k
        dsimp only at f0 f1 hcu hCu h1k
        have HCu := Aside0.mk hCu
        have HSK := Aside0.mk (show shA (u.map shp) k = (s0, s1) from by rw [shA_map, hs]; rfl)
        clear hs hCu
        have e1 : (k : Int) < (u.length : Int) := by omega
        cases s0 with
        | false =>
          go_wp2_with fail
          go_roundg k1
          case measure => have := HKQ.out; omega
          case rel =>
            refine ⟨k + 1, by go_num, ⟨by omega⟩, ⟨by have := HKQ.out; omega⟩, ⟨fun j hj hs => ?_⟩, ⟨below_step HL.out bel⟩⟩
            rcases Nat.lt_or_ge j k with h9 | h9
            · exact HP.out j h9 hs
            · obtain rfl : j = k := by omega
              rw [HSK.out] at hs
              cases hs
        | true =>
          have HSE := Aside0.mk (show (shA (u.map shp) k).1 = true from by rw [HSK.out])
          obtain ⟨⟨e2, x, nx⟩, hs1⟩ : ∃ r, stepV m f (k : Int) s1 = r := ⟨_, rfl⟩
          have HS1 := Aside0.mk hs1
          have HSV := Aside0.mk (show stepV m f (k : Int) (shA (u.map shp) k).2 = (e2, x, nx) from by rw [HSK.out]; exact hs1)
          have hln := stepV_len m f (k : Int) s1
          rw [hs1] at hln
          dsimp only at hln
          obtain ⟨hx8, hn2⟩ := hln
          clear hs1
          have i0 := (blk_cell HXW.out 0).trans rfl
          have i1 := (blk_cell HXW.out 1).trans rfl
          have i2 := (blk_cell HXW.out 2).trans rfl
          have i3 := (blk_cell HXW.out 3).trans rfl
          have i4 := (blk_cell HXW.out 4).trans rfl
          have i5 := (blk_cell HXW.out 5).trans rfl
          have i6 := (blk_cell HXW.out 6).trans rfl
          have hwl : w.heap.size < wr.heap.size := blk_lt HXW.out
          by_cases hE : e2 = 0
          case neg =>
            have dE : (e2 != 0) = true := bne_iff_ne.2 hE
            have hpf : p = false := by rw [← HPP.out]; exact rightMB_at (j := k) (by rw [List.length_map]; exact hk) HSE.out (by rw [stepB_of HSV.out]; rw [decide_eq_false hE]; rfl)
            clear hE
            go_wp2_with (first | (go_at_call 29; (with_reducible refine (step_w (a := ⟨A0, A1, A2, some ae, A4, c0, c1, c2, c3, c4⟩) (HM.out.below (below_mid hbw bel)) HSN.out f (k : Int) (Kd.C_below HCu.out bel) hcu (by omega) HS1.out).mono ?_); rintro e w2 ⟨Ax, cx, Bx, kx, rfl, hcx, hCx, hkx, hNx, hb2⟩; have HCX := Aside0.mk hCx; have HNX := Aside0.mk hNx; clear hCx hNx; have HB2 : Below wr.heap.size wr w2 := below_step bel hb2; clear hb2))
            go_ret
            exact ⟨by first | (rw [hpf]; rfl) | rfl, below_mid hbw HB2⟩
          subst hE
          have HNT := Aside0.mk (show ∀ tg ∈ nx, 0 ≤ tg ∧ tg < (u.length : Int) from by
            have h := step_next HSN.out hf0 hf1 (pc := (k : Int)) (st := s1) (by omega) (by rw [HXX.out]; omega) (by rw [HS1.out])
            rw [HS1.out] at h
            dsimp only at h
            rw [HXX.out] at h
            intro tg ht
            have := h tg ht
            omega)
          go_wp2_with (first | (go_at_call 29; (with_reducible refine (step_w (a := ⟨A0, A1, A2, some ae, A4, c0, c1, c2, c3, c4⟩) (HM.out.below (below_mid hbw bel)) HSN.out f (k : Int) (Kd.C_below HCu.out bel) hcu (by omega) HS1.out).mono ?_); rintro e w2 ⟨Ax, cx, Bx, kx, rfl, hcx, hCx, hkx, hNx, hb2⟩; have HCX := Aside0.mk hCx; have HNX := Aside0.mk hNx; clear hCx hNx; have HB2 : Below wr.heap.size wr w2 := below_step bel hb2; clear hb2))
          refine see (F := fun w0_ => Below wr.heap.size wr w0_ ∧ w0_.heap[w.heap.size]? = some (.cells #[.slice A0 m.c.length c0, .slice A1 m.s.length c1, .slice A2 m.n.length c2, .slice (some ae) m.m.length c3, .slice A4 m.e.length c4, .int .i64 m.sk, .int .i64 m.hp] 28 (0, 0)) ∧ Kd.C k39 w0_ Ax x.length x ∧ Kd.C (Kd.int .i64) w0_ Bx nx.length nx) _ ⟨bel, blk_below HXW.out HB2, HCX.out, HNX.out⟩ ?_
          rintro w3 ⟨hb3_, HX3, HCX3, HNX3⟩
          replace hb3_ := Aside0.mk hb3_
          replace HX3 := Aside0.mk HX3
          replace HCX3 := Aside0.mk HCX3
          replace HNX3 := Aside0.mk HNX3
          have hbw3 : Below w.heap.size w w3 := below_mid hbw hb3_.out
          have HU3 := Aside0.mk (Kd.C_below HU.out hbw3)
          clear f0 f1 HB2 HCX HNX i0 i1 i2 i3 i4 i5 i6 hwl
          go_loopg [68] (nx.length + 1) (fun kq v68 w' => ∃ i : Nat, v68 = .int .i64 (i : Int) ∧ Aside0 (i ≤ nx.length) ∧ Aside0 (i + kq = nx.length + 1) ∧ Aside0 (∀ j, j < i → tgB m (u.map shp) x (rd nx (j : Int)) = true) ∧ Aside0 (Below w3.heap.size w3 w'))
          case atStart => exact ⟨0, rfl, ⟨Nat.zero_le _⟩, ⟨by omega⟩, ⟨fun j hj => by omega⟩, ⟨Below.refl _ _⟩⟩
          case round =>
            obtain ⟨i, rfl, HK2, HKQ2, HP2, HL2⟩ := hrel
            have hbw2 : Below w.heap.size w wr := below_mid hbw3 HL2.out
            have HXW2 := Aside0.mk (blk_below HX3.out HL2.out)
            cases gk with
            | zero => exact absurd HK2.out (by have := HKQ2.out; omega)
            | succ k2 =>
              by_cases hi : i < nx.length
              · obtain ⟨an, hAn, p0⟩ := Kd.at_int (Kd.C_below HNX3.out HL2.out) (i : Int) (by omega) (by omega)
                subst hAn
                simp only [Int.toNat_natCast] at p0
                obtain ⟨tg, htg⟩ : ∃ tg, rd nx (i : Int) = tg := ⟨_, rfl⟩
                rw [htg] at p0
                have htt := HNT.out tg (by rw [← htg, rd_nat hi]; exact List.getElem_mem _)
                obtain ⟨ht0, ht1⟩ := htt
                have HTG := Aside0.mk htg
                clear htg
                obtain ⟨adv, Av, cv, hB, g0, g1, hcv, hCv⟩ := at_T44 (Kd.C_below HU3.out HL2.out) tg ht0 ht1
                cases hB
                obtain ⟨⟨t0, t1⟩, ht⟩ : ∃ t, rd_T44 u tg = t := ⟨_, rfl⟩
                rw [ht] at g0 g1 hcv hCv
                dsimp only at g0 g1 hcv hCv
                have HCv := Aside0.mk hCv
                have HIT := Aside0.mk (show tgB m (u.map shp) x (rd nx (i : Int)) = (t0 && underV m.c x t1) from by unfold tgB; rw [HTG.out, shA_map, Int.toNat_of_nonneg ht0, ht]; rfl)
                clear ht hCv
                obtain ⟨pu, hpu⟩ : ∃ pu, underV m.c x t1 = pu := ⟨_, rfl⟩
                have HPU := Aside0.mk hpu
                rw [hpu] at HIT
                clear hpu
                have e3 : (i : Int) < (nx.length : Int) := by omega
                go_wp2_with fail
                refine see (F := fun w0_ => Below wr.heap.size wr w0_ ∧ w0_.cell? (adu.add (tg.toNat * 2)) = some (.bool t0) ∧ w0_.cell? ⟨(adu.add (tg.toNat * 2)).block, (adu.add (tg.toNat * 2)).off + 1, none⟩ = some (.slice Av t1.length cv) ∧ w0_.cell? ⟨w.heap.size, 0, none⟩ = some (.slice A0 m.c.length c0) ∧ w0_.cell? ⟨w.heap.size, 1, none⟩ = some (.slice A1 m.s.length c1) ∧ w0_.cell? ⟨w.heap.size, 2, none⟩ = some (.slice A2 m.n.length c2) ∧ w0_.cell? ⟨w.heap.size, 3, none⟩ = some (.slice (some ae) m.m.length c3) ∧ w0_.cell? ⟨w.heap.size, 4, none⟩ = some (.slice A4 m.e.length c4) ∧ w0_.cell? ⟨w.heap.size, 5, none⟩ = some (.int .i64 m.sk) ∧ w0_.cell? ⟨w.heap.size, 6, none⟩ = some (.int .i64 m.hp)) _ ⟨bel, g0, g1, (blk_cell HXW2.out 0).trans rfl, (blk_cell HXW2.out 1).trans rfl, (blk_cell HXW2.out 2).trans rfl, (blk_cell HXW2.out 3).trans rfl, (blk_cell HXW2.out 4).trans rfl, (blk_cell HXW2.out 5).trans rfl, (blk_cell HXW2.out 6).trans rfl⟩ ?_
                rintro w4 ⟨hb4_, hq1_, hq2_, hq3_, hq4_, hq5_, hq6_, hq7_, hq8_, hq9_⟩
                replace hb4_ := Aside0.mk hb4_
                replace hq1_ := Aside0.mk hq1_
                replace hq2_ := Aside0.mk hq2_
                replace hq3_ := Aside0.mk hq3_
                replace hq4_ := Aside0.mk hq4_
                replace hq5_ := Aside0.mk hq5_
                replace hq6_ := Aside0.mk hq6_
                replace hq7_ := Aside0.mk hq7_
                replace hq8_ := Aside0.mk hq8_
                replace hq9_ := Aside0.mk hq9_
                cases t0 with
                | false =>
                  have KP := Aside0.mk (show ∀ w', Below w4.heap.size w4 w' → (w'.cell? (adu.add (tg.toNat * 2)) = some (.bool false) ∧ w'.cell? ⟨(adu.add (tg.toNat * 2)).block, (adu.add (tg.toNat * 2)).off + 1, none⟩ = some (.slice Av t1.length cv) ∧ w'.cell? ⟨w.heap.size, 0, none⟩ = some (.slice A0 m.c.length c0) ∧ w'.cell? ⟨w.heap.size, 1, none⟩ = some (.slice A1 m.s.length c1) ∧ w'.cell? ⟨w.heap.size, 2, none⟩ = some (.slice A2 m.n.length c2) ∧ w'.cell? ⟨w.heap.size, 3, none⟩ = some (.slice (some ae) m.m.length c3) ∧ w'.cell? ⟨w.heap.size, 4, none⟩ = some (.slice A4 m.e.length c4) ∧ w'.cell? ⟨w.heap.size, 5, none⟩ = some (.int .i64 m.sk) ∧ w'.cell? ⟨w.heap.size, 6, none⟩ = some (.int .i64 m.hp)) from fun w' h => ⟨keepc h hq1_.out, keepc h hq2_.out, keepc h hq3_.out, keepc h hq4_.out, keepc h hq5_.out, keepc h hq6_.out, keepc h hq7_.out, keepc h hq8_.out, keepc h hq9_.out⟩)
                  refine wp_region_noPanic ?_
                  refine wp_region_held_drew (S := fun w' => w'.cell? (adu.add (tg.toNat * 2)) = some (.bool false) ∧ w'.cell? ⟨(adu.add (tg.toNat * 2)).block, (adu.add (tg.toNat * 2)).off + 1, none⟩ = some (.slice Av t1.length cv) ∧ w'.cell? ⟨w.heap.size, 0, none⟩ = some (.slice A0 m.c.length c0) ∧ w'.cell? ⟨w.heap.size, 1, none⟩ = some (.slice A1 m.s.length c1) ∧ w'.cell? ⟨w.heap.size, 2, none⟩ = some (.slice A2 m.n.length c2) ∧ w'.cell? ⟨w.heap.size, 3, none⟩ = some (.slice (some ae) m.m.length c3) ∧ w'.cell? ⟨w.heap.size, 4, none⟩ = some (.slice A4 m.e.length c4) ∧ w'.cell? ⟨w.heap.size, 5, none⟩ = some (.int .i64 m.sk) ∧ w'.cell? ⟨w.heap.size, 6, none⟩ = some (.int .i64 m.hp)) (by kernel_rfl) (by ((try dsimp only); first | exact KP.out _ bel)) (fun hHeld => ?_)
                  refine tk 0 ?_
                  refine tk 1 ?_
                  refine tk 2 ?_
                  refine tk 3 ?_
                  refine tk 4 ?_
                  refine tk 5 ?_
                  refine tk 6 ?_
                  refine tk 7 ?_
                  refine tk 8 ?_
                  refine tk 9 ?_
                  refine tk 10 ?_
                  refine tk 11 ?_
                  refine tk 12 ?_
                  refine tk 13 ?_
                  refine tk 14 ?_
                  refine tk 15 ?_
                  refine tk 16 ?_
                  refine wpAnyH_done (by kernel_rfl) ?_ _
                  refine NoPanic.normal ?_
                  have hpf : p = false := by rw [← HPP.out]; exact rightMB_at (j := k) (by rw [List.length_map]; exact hk) HSE.out (by rw [stepB_of HSV.out]; rw [all_no hi HIT.out, Bool.and_false])
                  go_wp2_with fail
                  go_ret
                  exact ⟨by first | (rw [hpf]; rfl) | rfl, below_step (below_mid hbw2 hb4_.out) bel⟩
                | true =>
                  cases pu with
                  | true =>
                    have KP := Aside0.mk (show ∀ w', Below w4.heap.size w4 w' → (w'.cell? (adu.add (tg.toNat * 2)) = some (.bool true) ∧ w'.cell? ⟨(adu.add (tg.toNat * 2)).block, (adu.add (tg.toNat * 2)).off + 1, none⟩ = some (.slice Av t1.length cv) ∧ w'.cell? ⟨w.heap.size, 0, none⟩ = some (.slice A0 m.c.length c0) ∧ w'.cell? ⟨w.heap.size, 1, none⟩ = some (.slice A1 m.s.length c1) ∧ w'.cell? ⟨w.heap.size, 2, none⟩ = some (.slice A2 m.n.length c2) ∧ w'.cell? ⟨w.heap.size, 3, none⟩ = some (.slice (some ae) m.m.length c3) ∧ w'.cell? ⟨w.heap.size, 4, none⟩ = some (.slice A4 m.e.length c4) ∧ w'.cell? ⟨w.heap.size, 5, none⟩ = some (.int .i64 m.sk) ∧ w'.cell? ⟨w.heap.size, 6, none⟩ = some (.int .i64 m.hp)) from fun w' h => ⟨keepc h hq1_.out, keepc h hq2_.out, keepc h hq3_.out, keepc h hq4_.out, keepc h hq5_.out, keepc h hq6_.out, keepc h hq7_.out, keepc h hq8_.out, keepc h hq9_.out⟩)
                    refine wp_region_noPanic ?_
                    refine wp_region_held_drew (S := fun w' => w'.cell? (adu.add (tg.toNat * 2)) = some (.bool true) ∧ w'.cell? ⟨(adu.add (tg.toNat * 2)).block, (adu.add (tg.toNat * 2)).off + 1, none⟩ = some (.slice Av t1.length cv) ∧ w'.cell? ⟨w.heap.size, 0, none⟩ = some (.slice A0 m.c.length c0) ∧ w'.cell? ⟨w.heap.size, 1, none⟩ = some (.slice A1 m.s.length c1) ∧ w'.cell? ⟨w.heap.size, 2, none⟩ = some (.slice A2 m.n.length c2) ∧ w'.cell? ⟨w.heap.size, 3, none⟩ = some (.slice (some ae) m.m.length c3) ∧ w'.cell? ⟨w.heap.size, 4, none⟩ = some (.slice A4 m.e.length c4) ∧ w'.cell? ⟨w.heap.size, 5, none⟩ = some (.int .i64 m.sk) ∧ w'.cell? ⟨w.heap.size, 6, none⟩ = some (.int .i64 m.hp)) (by kernel_rfl) (by ((try dsimp only); first | exact KP.out _ bel)) (fun hHeld => ?_)
                    refine tk 0 ?_
                    refine tk 1 ?_
                    refine tk 2 ?_
                    refine tk 3 ?_
                    refine tk 4 ?_
                    refine tk 5 ?_
                    refine tk 6 ?_
                    refine tk 7 ?_
                    refine tk 8 ?_
                    refine tk 9 ?_
                    refine tk 10 ?_
                    refine tk 11 ?_
                    refine tk 12 ?_
                    refine tk 13 ?_
                    refine tr 14 (fun K hK => ?_)
                    first | ((try go_simp); go_at_call 19; (refine (under_c (a := ⟨A0, A1, A2, some ae, A4, c0, c1, c2, c3, c4⟩) (HM.out.below (below_mid (below_mid hbw2 hb4_.out) (by first | exact Below.refl _ _ | exact Below.drew (Below.refl _ _) | assumption))) (Kd.C_below HCX3.out (below_step (below_step HL2.out hb4_.out) (by first | exact Below.refl _ _ | exact Below.drew (Below.refl _ _) | assumption))) hcx (Kd.C_below HCv.out (below_step hb4_.out (by first | exact Below.refl _ _ | exact Below.drew (Below.refl _ _) | assumption))) hcv HPU.out).mono ?_); rintro e w5 ⟨rfl, hb5⟩; have HB5 : Below w4.heap.size w4 w5 := below_step (by first | exact Below.refl _ _ | exact Below.drew (Below.refl _ _) | assumption) hb5; clear hb5) | go_simp
                    refine hK.out _ _ (by ((try dsimp only); first | exact KP.out _ bel)) (fun hHeld => ?_)
                    clear hK K
                    (try simp only [Act.put, putx])
                    refine tr 15 (fun K hK => ?_)
                    go_simp
                    refine hK.out _ _ (by ((try dsimp only); first | exact KP.out _ bel)) (fun hHeld => ?_)
                    clear hK K
                    (try simp only [Act.put, putx])
                    refine tr 16 (fun K hK => ?_)
                    go_simp
                    refine hK.out _ _ (by ((try dsimp only); first | exact KP.out _ bel)) (fun hHeld => ?_)
                    clear hK K
                    (try simp only [Act.put, putx])
                    refine wpAnyH_done (by kernel_rfl) ?_ _
                    refine NoPanic.normal ?_
                    go_wp2_with fail
                    go_roundg k2
                    case measure => have := HKQ2.out; omega
                    case rel =>
                      refine ⟨i + 1, by go_num, ⟨by omega⟩, ⟨by have := HKQ2.out; omega⟩, ⟨fun j hj => ?_⟩, ⟨below_step (below_step HL2.out hb4_.out) HB5⟩⟩
                      rcases Nat.lt_or_ge j i with h9 | h9
                      · exact HP2.out j h9
                      · obtain rfl : j = i := by omega
                        rw [HIT.out]; rfl
                  | false =>
                    have KP := Aside0.mk (show ∀ w', Below w4.heap.size w4 w' → (w'.cell? (adu.add (tg.toNat * 2)) = some (.bool true) ∧ w'.cell? ⟨(adu.add (tg.toNat * 2)).block, (adu.add (tg.toNat * 2)).off + 1, none⟩ = some (.slice Av t1.length cv) ∧ w'.cell? ⟨w.heap.size, 0, none⟩ = some (.slice A0 m.c.length c0) ∧ w'.cell? ⟨w.heap.size, 1, none⟩ = some (.slice A1 m.s.length c1) ∧ w'.cell? ⟨w.heap.size, 2, none⟩ = some (.slice A2 m.n.length c2) ∧ w'.cell? ⟨w.heap.size, 3, none⟩ = some (.slice (some ae) m.m.length c3) ∧ w'.cell? ⟨w.heap.size, 4, none⟩ = some (.slice A4 m.e.length c4) ∧ w'.cell? ⟨w.heap.size, 5, none⟩ = some (.int .i64 m.sk) ∧ w'.cell? ⟨w.heap.size, 6, none⟩ = some (.int .i64 m.hp)) from fun w' h => ⟨keepc h hq1_.out, keepc h hq2_.out, keepc h hq3_.out, keepc h hq4_.out, keepc h hq5_.out, keepc h hq6_.out, keepc h hq7_.out, keepc h hq8_.out, keepc h hq9_.out⟩)
                    refine wp_region_noPanic ?_
                    refine wp_region_held_drew (S := fun w' => w'.cell? (adu.add (tg.toNat * 2)) = some (.bool true) ∧ w'.cell? ⟨(adu.add (tg.toNat * 2)).block, (adu.add (tg.toNat * 2)).off + 1, none⟩ = some (.slice Av t1.length cv) ∧ w'.cell? ⟨w.heap.size, 0, none⟩ = some (.slice A0 m.c.length c0) ∧ w'.cell? ⟨w.heap.size, 1, none⟩ = some (.slice A1 m.s.length c1) ∧ w'.cell? ⟨w.heap.size, 2, none⟩ = some (.slice A2 m.n.length c2) ∧ w'.cell? ⟨w.heap.size, 3, none⟩ = some (.slice (some ae) m.m.length c3) ∧ w'.cell? ⟨w.heap.size, 4, none⟩ = some (.slice A4 m.e.length c4) ∧ w'.cell? ⟨w.heap.size, 5, none⟩ = some (.int .i64 m.sk) ∧ w'.cell? ⟨w.heap.size, 6, none⟩ = some (.int .i64 m.hp)) (by kernel_rfl) (by ((try dsimp only); first | exact KP.out _ bel)) (fun hHeld => ?_)
                    refine tk 0 ?_
                    refine tk 1 ?_
                    refine tk 2 ?_
                    refine tk 3 ?_
                    refine tk 4 ?_
                    refine tk 5 ?_
                    refine tk 6 ?_
                    refine tk 7 ?_
                    refine tk 8 ?_
                    refine tk 9 ?_
                    refine tk 10 ?_
                    refine tk 11 ?_
                    refine tk 12 ?_
                    refine tk 13 ?_
                    refine tr 14 (fun K hK => ?_)
                    first | ((try go_simp); go_at_call 19; (refine (under_c (a := ⟨A0, A1, A2, some ae, A4, c0, c1, c2, c3, c4⟩) (HM.out.below (below_mid (below_mid hbw2 hb4_.out) (by first | exact Below.refl _ _ | exact Below.drew (Below.refl _ _) | assumption))) (Kd.C_below HCX3.out (below_step (below_step HL2.out hb4_.out) (by first | exact Below.refl _ _ | exact Below.drew (Below.refl _ _) | assumption))) hcx (Kd.C_below HCv.out (below_step hb4_.out (by first | exact Below.refl _ _ | exact Below.drew (Below.refl _ _) | assumption))) hcv HPU.out).mono ?_); rintro e w5 ⟨rfl, hb5⟩; have HB5 : Below w4.heap.size w4 w5 := below_step (by first | exact Below.refl _ _ | exact Below.drew (Below.refl _ _) | assumption) hb5; clear hb5) | go_simp
                    refine hK.out _ _ (by ((try dsimp only); first | exact KP.out _ bel)) (fun hHeld => ?_)
                    clear hK K
                    (try simp only [Act.put, putx])
                    refine tr 15 (fun K hK => ?_)
                    go_simp
                    refine hK.out _ _ (by ((try dsimp only); first | exact KP.out _ bel)) (fun hHeld => ?_)
                    clear hK K
                    (try simp only [Act.put, putx])
                    refine tr 16 (fun K hK => ?_)
                    go_simp
                    refine hK.out _ _ (by ((try dsimp only); first | exact KP.out _ bel)) (fun hHeld => ?_)
                    clear hK K
                    (try simp only [Act.put, putx])
                    refine wpAnyH_done (by kernel_rfl) ?_ _
                    refine NoPanic.normal ?_
                    have hpf : p = false := by rw [← HPP.out]; exact rightMB_at (j := k) (by rw [List.length_map]; exact hk) HSE.out (by rw [stepB_of HSV.out]; rw [all_no hi HIT.out, Bool.and_false])
                    go_wp2_with fail
                    go_ret
                    exact ⟨by first | (rw [hpf]; rfl) | rfl, below_step (below_mid hbw2 hb4_.out) HB5⟩
              · have hie : i = nx.length := by have := HK2.out; omega
                have HST := Aside0.mk (show stepB m f (u.map shp) k = true from by rw [stepB_of HSV.out, all_of (fun j hj => HP2.out j (by omega))]; rfl)
                subst hie
                clear HP2 hi
                go_wp2_with fail
                go_roundg k1
                case measure => have := HKQ.out; omega
                case rel =>
                  refine ⟨k + 1, by go_num, ⟨by omega⟩, ⟨by have := HKQ.out; omega⟩, ⟨fun j hj hs => ?_⟩, ⟨below_step (below_step HL.out hb3_.out) HL2.out⟩⟩
                  rcases Nat.lt_or_ge j k with h9 | h9
                  · exact HP.out j h9 hs
                  · obtain rfl : j = k := by omega
                    exact HST.out
      · have hke : k = u.length := by have := HK.out; omega
        have hpt : p = true := by rw [← HPP.out]; exact rightMB_all (by rw [List.length_map, HCN.out]; exact HLL.out) (by rw [HCN.out]; exact hx0) (by rw [HS00.out]) (by rw [HS00.out]; exact HS01.out) (fun j hj => HP.out j (by rw [List.length_map] at hj; omega))
        subst hke
        clear HP hk
        go_wp2_with fail
        go_ret
        exact ⟨by first | (rw [hpt]; rfl) | rfl, hbw⟩
theorem rightB_len {m : Im} {mp : List (List Shp)} (h : mp.length ≠ m.m.length) : rightB m mp = false := by
  unfold rightB
  rw [decide_eq_false h]
  rfl
theorem rightB_no {m : Im} {mp : List (List Shp)} {j : Nat} (hj : j < mp.length) (h : rightMB m (j : Int) (mpA mp j) = false) : rightB m mp = false := by
  cases hb : rightB m mp with
  | false => rfl
  | true =>
    unfold rightB at hb
    rw [Bool.and_eq_true, List.all_eq_true] at hb
    have := hb.2 j (List.mem_range.2 hj)
    rw [h] at this
    cases this
theorem rightB_all {m : Im} {mp : List (List Shp)} (h1 : mp.length = m.m.length) (h : ∀ j, j < mp.length → rightMB m (j : Int) (mpA mp j) = true) : rightB m mp = true := by
  unfold rightB
  rw [decide_eq_true h1, Bool.true_and, List.all_eq_true]
  intro j hj
  exact h j (List.mem_range.1 hj)
set_option maxHeartbeats 16000000 in
set_option maxRecDepth 100000 in
theorem right_c (a : IA) (m : Im) (A : Option Addr) (ca : Nat) (x : List (List S44)) (w : World) (hm : IC w a m) (hq : saneB m = true) (hx : Kd.C (Kd.slice 44 k44) w A x.length x) (hxa : x.length ≤ ca) (h1000 : ∀ i j, (rd_T44 (rd_L11 x i) j).f1.length ≤ 100000) {p : Bool} (hp : rightB m (mps x) = p) :
    Calls Try.prog 10 #[.agg #[.slice a.A0 m.c.length a.c0, .slice a.A1 m.s.length a.c1, .slice a.A2 m.n.length a.c2, .slice a.A3 m.m.length a.c3, .slice a.A4 m.e.length a.c4, .int .i64 m.sk, .int .i64 m.hp], .slice A x.length ca] w fun e w' => e = .returned (.bool p) ∧ Below w.heap.size w w' := by
  obtain ⟨A0, A1, A2, A3, A4, c0, c1, c2, c3, c4⟩ := a
  have HM := Aside0.mk hm
  have HA := Aside0.mk hx
  have HPP := Aside0.mk hp
  have HQ := Aside0.mk hq
  have H1000 := Aside0.mk h1000
  have hmx := Kd.C_max hx
  clear hm hx hp hq h1000
  by_cases hl : x.length = m.m.length
  case neg =>
    have dl : ((x.length : Int) != (m.m.length : Int)) = true := bne_iff_ne.2 (by omega)
    have hpf : p = false := by rw [← HPP.out]; exact rightB_len (by rw [mps_len]; exact hl)
    clear hl
    go_enter Try.func10, Try.ntmps10
    go_wp2_with fail
    go_ret
    exact ⟨by first | (rw [hpf]; rfl) | rfl, bel⟩
  have dl : ((x.length : Int) != (m.m.length : Int)) = false := by rw [hl]; exact bne_self_eq_false _
  have hle : x.length ≤ m.m.length := by omega
  have hge : m.m.length ≤ x.length := by omega
  have HLL := Aside0.mk hl
  clear hl
  go_enter Try.func10, Try.ntmps10
  go_wp2_with fail
  refine see (F := fun w0_ => Below w.heap.size w w0_ ∧ w0_.heap[w.heap.size]? = some (.cells #[.slice A0 m.c.length c0, .slice A1 m.s.length c1, .slice A2 m.n.length c2, .slice A3 m.m.length c3, .slice A4 m.e.length c4, .int .i64 m.sk, .int .i64 m.hp] 28 (0, 0))) _ ⟨bel, blk_new w _⟩ ?_
  rintro w0 ⟨hb0_, HX0⟩
  replace hb0_ := Aside0.mk hb0_
  replace HX0 := Aside0.mk HX0
  clear dl
  go_loopg [15] (x.length + 1) (fun kq v15 w' => ∃ k : Nat, v15 = .int .i64 (k : Int) ∧ Aside0 (k ≤ x.length) ∧ Aside0 (k + kq = x.length + 1) ∧ Aside0 (∀ j : Nat, j < k → rightMB m (j : Int) (mpA (mps x) j) = true) ∧ Aside0 (Below w0.heap.size w0 w'))
  case atStart => exact ⟨0, rfl, ⟨Nat.zero_le _⟩, ⟨by omega⟩, ⟨fun j hj => by omega⟩, ⟨Below.refl _ _⟩⟩
  case round =>
    obtain ⟨k, rfl, HK, HKQ, HP, HL⟩ := hrel
    have hbw : Below w.heap.size w wr := below_mid hb0_.out HL.out
    have HXW := Aside0.mk (blk_below HX0.out HL.out)
    cases gk with
    | zero => exact absurd HK.out (by have := HKQ.out; omega)
    | succ k1 =>
      by_cases hk : k < x.length
      · obtain ⟨adx, Ax, cx, hA, q0, hcx, hCx⟩ := at_L11 (Kd.C_below HA.out hbw) (k : Int) (by omega) (by omega)
        subst hA
        simp only [Int.toNat_natCast] at q0
        have h1k := Aside0.mk (fun j : Nat => H1000.out (k : Int) (j : Int))
        obtain ⟨u, hu⟩ : ∃ u, rd_L11 x (k : Int) = u := ⟨_, rfl⟩
        rw [hu] at q0 hcx hCx h1k
        have HUU := Aside0.mk hu
        have HCX := Aside0.mk hCx
        clear hu hCx
        have e1 : (k : Int) < (x.length : Int) := by omega
        obtain ⟨pu, hpu⟩ : ∃ pu, rightMB m (k : Int) (u.map shp) = pu := ⟨_, rfl⟩
        have HPU := Aside0.mk hpu
        have HRM := Aside0.mk (show rightMB m (k : Int) (mpA (mps x) k) = pu from by rw [mpA_mps, HUU.out]; exact hpu)
        clear hpu
        have i0 := (blk_cell HXW.out 0).trans rfl
        have i1 := (blk_cell HXW.out 1).trans rfl
        have i2 := (blk_cell HXW.out 2).trans rfl
        have i3 := (blk_cell HXW.out 3).trans rfl
        have i4 := (blk_cell HXW.out 4).trans rfl
        have i5 := (blk_cell HXW.out 5).trans rfl
        have i6 := (blk_cell HXW.out 6).trans rfl
        have hwl : w.heap.size < wr.heap.size := blk_lt HXW.out
        cases pu with
        | false =>
          have hpf : p = false := by rw [← HPP.out]; exact rightB_no (j := k) (by rw [mps_len]; exact hk) HRM.out
          go_wp2_with (first | (go_at_call 18; (refine (jmethod_c ⟨A0, A1, A2, A3, A4, c0, c1, c2, c3, c4⟩ m (k : Int) Ax cx u _ (HM.out.below (below_mid hbw bel)) HQ.out (by omega) (by omega) (Kd.C_below HCX.out bel) hcx (fun j _ => h1k.out j) HPU.out).mono ?_); rintro e w2 ⟨rfl, hb2⟩; have HB2 : Below wr.heap.size wr w2 := below_step bel hb2; clear hb2))
          go_ret
          exact ⟨by first | (rw [hpf]; rfl) | rfl, below_mid hbw HB2⟩
        | true =>
          go_wp2_with (first | (go_at_call 18; (refine (jmethod_c ⟨A0, A1, A2, A3, A4, c0, c1, c2, c3, c4⟩ m (k : Int) Ax cx u _ (HM.out.below (below_mid hbw bel)) HQ.out (by omega) (by omega) (Kd.C_below HCX.out bel) hcx (fun j _ => h1k.out j) HPU.out).mono ?_); rintro e w2 ⟨rfl, hb2⟩; have HB2 : Below wr.heap.size wr w2 := below_step bel hb2; clear hb2))
          go_roundg k1
          case measure => have := HKQ.out; omega
          case rel =>
            refine ⟨k + 1, by go_num, ⟨by omega⟩, ⟨by have := HKQ.out; omega⟩, ⟨fun j hj => ?_⟩, ⟨below_step HL.out HB2⟩⟩
            rcases Nat.lt_or_ge j k with h9 | h9
            · exact HP.out j h9
            · obtain rfl : j = k := by omega
              exact HRM.out
      · have hke : k = x.length := by have := HK.out; omega
        have hpt : p = true := by rw [← HPP.out]; exact rightB_all (by rw [mps_len]; exact HLL.out) (fun j hj => HP.out j (by rw [mps_len] at hj; omega))
        subst hke
        clear HP hk
        go_wp2_with fail
        go_ret
        exact ⟨by first | (rw [hpt]; rfl) | rfl, hbw⟩
end Go.Proofs.Ytcfbhobpfnlkpaa.Flow
