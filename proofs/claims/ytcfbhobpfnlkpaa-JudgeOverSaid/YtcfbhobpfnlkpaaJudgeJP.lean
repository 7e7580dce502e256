/- The walk of typer.method. -/
import Derived.Test.YtcfbhobpfnlkpaaJudgeJQ
namespace Go.Proofs.Ytcfbhobpfnlkpaa.Flow
open Go.RowKit Go.Proofs.Ytcfbhobpfnlkpaa.QJudgeFound Go.Proofs.YtcfbhobpfnlkpaaW.PrintWords Go.Proofs.YtcfbhobpfnlkpaaW.PrintLast Go.Proofs.Ytcfbhobpfnlkpaa.Chain
set_option linter.unusedVariables false
set_option linter.unusedSimpArgs false
theorem tone_n (a : IA) (m : Im) (f : Int) (pc : Nat) (w0 w : World) (hm : IC w0 a m) (hB0 : Below w0.heap.size w0 w) (hq : saneB m = true) (hf0 : 0 ≤ f) (hf1 : f < (m.m.length : Int)) (ab tb : Nat) (sh : List Shp) (td : List Bool) (hS : ShW w w0.heap.size ab tb sh td) (hab : w0.heap.size ≤ ab) (htb : w0.heap.size ≤ tb) (hn : sh.length = codeN m f) (htl : td.length = codeN m f) (hpc : pc < codeN m f) (hg : ∀ i, (shA sh i).2.length ≤ 8) {n : Nat} (hnn : codeN m f = n) {r : Option (List Shp × List Bool)} (hr : oneV m f pc sh td = r) :
    Calls Try.prog 28 #[.agg #[.slice a.A0 m.c.length a.c0, .slice a.A1 m.s.length a.c1, .slice a.A2 m.n.length a.c2, .slice a.A3 m.m.length a.c3, .slice a.A4 m.e.length a.c4, .int .i64 m.sk, .int .i64 m.hp], .int .i64 f, .int .i64 (pc : Int), .slice (some ⟨ab, 0, none⟩) n n, .slice (some ⟨tb, 0, none⟩) n n] w fun e w' => Below w0.heap.size w0 w' ∧ (r = none → e = .returned (.bool false)) ∧ ∀ sh' td', r = some (sh', td') → e = .returned (.bool true) ∧ ShW w' w0.heap.size ab tb sh' td' := by
  have h := tone_c a m f pc w0 w hm hB0 hq hf0 hf1 ab tb sh td hS hab htb hn htl hpc hg hr
  rw [hn, htl, hnn] at h
  exact h
theorem toV_len {m : Im} {x : List S39} (h8 : x.length ≤ 8) : ∀ (nx : List Int) (sh : List Shp) (td : List Bool) (sh' : List Shp) (td' : List Bool), (∀ i, (shA sh i).2.length ≤ 8) → toV m.c x nx sh td = some (sh', td') → ∀ i, (shA sh' i).2.length ≤ 8
  | [], sh, td, sh', td', hg, h => by
    injection h with h; injection h with h1 _
    subst h1
    exact hg
  | tg :: nx, sh, td, sh', td', hg, h => by
    rw [toV_cons] at h
    cases hm : mergeV m.c (shA sh tg.toNat) x with
    | none => rw [hm] at h; cases h
    | some q =>
      obtain ⟨s, tu⟩ := q
      rw [hm] at h
      dsimp only at h
      cases tu with
      | false =>
        rw [if_neg (by decide)] at h
        exact toV_len h8 nx sh td sh' td' hg h
      | true =>
        rw [if_pos rfl] at h
        refine toV_len h8 nx _ _ sh' td' (fun i => ?_) h
        by_cases hl : tg.toNat < sh.length
        · rw [shA_set hl]
          split
          · rw [(mergeV_len hm).2]; exact h8
          · exact hg i
        · rw [List.set_eq_of_length_le (by omega)]
          exact hg i
theorem oneV_len {m : Im} {f : Int} {pc : Nat} {sh : List Shp} {td : List Bool} {sh' : List Shp} {td' : List Bool} (hg : ∀ i, (shA sh i).2.length ≤ 8) (h : oneV m f pc sh td = some (sh', td')) : ∀ i, (shA sh' i).2.length ≤ 8 := by
  unfold oneV at h
  split at h
  · cases h
  · exact toV_len (stepV_len m f pc _).1 _ _ _ _ _ hg h
theorem find_some {td : List Bool} {j : Nat} (hj : j < td.length) (h1 : tdA td j = true) (h2 : ∀ i, i < j → tdA td i = false) : td.findIdx? id = some j := by
  rw [List.findIdx?_eq_some_iff_getElem]
  refine ⟨hj, by rw [← tdA_at hj]; exact h1, fun i hi => ?_⟩
  have := h2 i hi
  rw [tdA_at (by omega)] at this
  simp [this]
theorem find_none {td : List Bool} (h : ∀ i, i < td.length → tdA td i = false) : td.findIdx? id = none := by
  rw [List.findIdx?_eq_none_iff]
  intro x hx
  obtain ⟨i, hi, rfl⟩ := List.mem_iff_getElem.1 hx
  rw [← tdA_at hi]
  exact h i hi
theorem loopV_no {m : Im} {f : Int} {k1 j : Nat} {sh : List Shp} {td : List Bool} {r : Option (List Shp)} (h : loopV m f (k1 + 1) sh td = some r) (hf : td.findIdx? id = some j) (ho : oneV m f j sh (td.set j false) = none) : r = none := by
  unfold loopV at h
  rw [hf] at h
  dsimp only at h
  rw [ho] at h
  injection h with h
  exact h.symm
theorem loopV_go {m : Im} {f : Int} {k1 j : Nat} {sh sh' : List Shp} {td td' : List Bool} {r : Option (List Shp)} (h : loopV m f (k1 + 1) sh td = some r) (hf : td.findIdx? id = some j) (ho : oneV m f j sh (td.set j false) = some (sh', td')) : loopV m f k1 sh' td' = some r := by
  unfold loopV at h
  rw [hf] at h
  dsimp only at h
  rw [ho] at h
  exact h
theorem loopV_end {m : Im} {f : Int} {k1 : Nat} {sh : List Shp} {td : List Bool} {r : Option (List Shp)} (h : loopV m f (k1 + 1) sh td = some r) (hf : td.findIdx? id = none) : r = some sh := by
  unfold loopV at h
  rw [hf] at h
  injection h with h
  exact h.symm
set_option maxHeartbeats 16000000 in
set_option maxRecDepth 100000 in
theorem tmethod_c (a : IA) (m : Im) (f : Int) (w : World) (hm : IC w a m) (hq : saneB m = true) (hf0 : 0 ≤ f) (hf1 : f < (m.m.length : Int)) {r : Option (List Shp)} (hr : tyV m f = r) :
    Calls Try.prog 16 #[.agg #[.slice a.A0 m.c.length a.c0, .slice a.A1 m.s.length a.c1, .slice a.A2 m.n.length a.c2, .slice a.A3 m.m.length a.c3, .slice a.A4 m.e.length a.c4, .int .i64 m.sk, .int .i64 m.hp], .int .i64 f] w fun e w' => Below w.heap.size w w' ∧ (r = none → ∃ pc, e = .returned (.tuple #[.slice none 0 0, .int .i64 pc, .int .i64 4])) ∧ ∀ s, r = some s → ∃ A, e = .returned (.tuple #[.slice A s.length s.length, .int .i64 0, .int .i64 0]) ∧ Kd.F k44 w' (fun k => w.heap.size ≤ k) A s.length (s.map unS) := by
  obtain ⟨A0, A1, A2, A3, A4, c0, c1, c2, c3, c4⟩ := a
  have HM := Aside0.mk hm
  have HQ := Aside0.mk hq
  have HSN := Aside0.mk (saneP hq)
  have HTY := Aside0.mk (show loopV m f (fuelV m (codeN m f)) (sh0 (codeN m f)) (td0 (codeN m f)) = some r from by rw [← hr]; exact (tyV_spec hq hf0 hf1).1)
  clear hm hq hr
  obtain ⟨ae, F0, g0', F1, g1', F4, g4', F7, g7', hA3, y0, y1, y2, y3, y4, y5, y6, y7, z0, z1, z2, z3, z4, z5, z6, z7⟩ := at_T52 HM.out.h3 f hf0 hf1
  subst hA3
  clear y0 y1 y2 y3 y5 y6 y7 z0 z1 z2 z3 z4 z5 z6 z7
  have hmp := HSN.out.metP (rdM_mem hf0 hf1)
  have hx0 := hmp.c0
  have hx64 := hmp.c64
  clear hmp
  obtain ⟨n, hn⟩ : ∃ n, codeN m f = n := ⟨_, rfl⟩
  have e4 : (rd_T52 m.m f).f3.length = n := hn
  rw [e4] at y4 hx0 hx64
  have HN := Aside0.mk hn
  have HTY2 := Aside0.mk HTY.out
  rw [hn] at HTY2
  clear hn e4
  have hal := World.block_lt_of_cell? w _ y4
  have hal1 : (ae.add (f.toNat * 8)).block < w.heap.size + 1 := Nat.lt_succ_of_lt hal
  have dn : ((n : Int) == 0) = false := beq_eq_false_iff_ne.2 (by omega)
  have hn1 : (0 : Int) < (n : Int) := by omega
  obtain ⟨W0, hW0⟩ : ∃ W0, W0 = w.alloc (.cells #[.slice A0 m.c.length c0, .slice A1 m.s.length c1, .slice A2 m.n.length c2, .slice (some ae) m.m.length c3, .slice A4 m.e.length c4, .int .i64 m.sk, .int .i64 m.hp] 28) := ⟨_, rfl⟩
  have HW0 := Aside0.mk hW0
  have HWS := Aside0.mk (show W0.heap.size = w.heap.size + 1 from by rw [hW0]; simp)
  have HMW := Aside0.mk (show IC W0 ⟨A0, A1, A2, some ae, A4, c0, c1, c2, c3, c4⟩ m from HM.out.below (by rw [hW0]; exact below_alloc (Below.refl _ _) _))
  have HXB := Aside0.mk (show W0.heap[w.heap.size]? = some (.cells #[.slice A0 m.c.length c0, .slice A1 m.s.length c1, .slice A2 m.n.length c2, .slice (some ae) m.m.length c3, .slice A4 m.e.length c4, .int .i64 m.sk, .int .i64 m.hp] 28 (0, 0)) from by rw [hW0]; exact blk_new w _)
  have HBW := Aside0.mk (show Below w.heap.size w W0 from by rw [hW0]; exact below_alloc (Below.refl _ _) _)
  clear hW0
  have hmS := fun W : World => run_makeS W n (by omega)
  have hmB := fun W : World => run_makeB W n (by omega)
  go_enter Try.func16, Try.ntmps16
  go_wp2_with fail
  go_step3
  go_upto_region 4 with fail
  refine see (F := fun w0_ => Below w.heap.size w w0_ ∧ w0_.heap.size = w.heap.size + 1 + 1 ∧ Below W0.heap.size W0 w0_ ∧ w0_.heap[w.heap.size + 1]? = some (.cells (shCells (List.replicate n (false, [])) (List.replicate n (.slice none 0 0))).toArray 44 (0, 0))) _ ⟨bel, by simp, below_alloc (by rw [HW0.out]; exact Below.refl _ _) _, (blk2 w _ _).2⟩ ?_
  rintro w1 ⟨hb1_, hsz1, HL1, HA1⟩
  replace hb1_ := Aside0.mk hb1_
  replace hsz1 := Aside0.mk hsz1
  replace HL1 := Aside0.mk HL1
  replace HA1 := Aside0.mk HA1
  have k1_ := (shCells_at (List.replicate n (false, [])) (List.replicate n (.slice none 0 0)) 0 (by simp; omega) (by simp; omega)).1
  have ca : w1.cell? ⟨w.heap.size + 1, 0, none⟩ = some (.bool false) := by
    rw [blk_cell HA1.out]
    have h := k1_
    simp only [List.getElem_replicate] at h
    exact h
  have fa := blk_frozen HA1.out 0
  have hz1 := hsz1.out
  clear k1_
  go_upto_region 6 with fail
  refine see (F := fun w0_ => Below w.heap.size w w0_ ∧ Below W0.heap.size W0 w0_ ∧ w0_.heap[w.heap.size + 1]? = some (.cells (shCells (sh0 n) (List.replicate n (.slice none 0 0))).toArray 44 (0, 0)) ∧ w0_.heap[w.heap.size + 1 + 1]? = some (.cells ((List.replicate n false).map Value.bool).toArray 4 (0, 0))) _ ⟨below_alloc (hb1_.out.setCell (show w.heap.size ≤ (⟨w.heap.size + 1, 0, none⟩ : Addr).block from Nat.le_succ _) _) _, below_alloc (HL1.out.setCell (show W0.heap.size ≤ (⟨w.heap.size + 1, 0, none⟩ : Addr).block by rw [HWS.out]; exact Nat.le_refl _) _) _, blk_alloc (blk_put HA1.out 0 _ (sh0_cells hx0)) _, (by have h := heap_alloc_new (w1.setCell ⟨w.heap.size + 1, 0, none⟩ (.bool true)) (.cells ((List.replicate n false).map Value.bool).toArray 4); have hz : (w1.setCell ⟨w.heap.size + 1, 0, none⟩ (.bool true)).heap.size = w.heap.size + 1 + 1 := (by rw [← hsz1.out]; simp [World.setCell]); rw [hz] at h; rw [show (Array.replicate n (Value.bool false)) = ((List.replicate n false).map Value.bool).toArray from by simp]; exact h)⟩ ?_
  rintro w2 ⟨hb2_, HL2, HA2, HT2⟩
  replace hb2_ := Aside0.mk hb2_
  replace HL2 := Aside0.mk HL2
  replace HA2 := Aside0.mk HA2
  replace HT2 := Aside0.mk HT2
  have ct : w2.cell? ⟨w.heap.size + 1 + 1, 0, none⟩ = some (.bool false) := by
    rw [blk_cell HT2.out]
    have : 0 < n := by omega
    simp [this]
  have ft := blk_frozen HT2.out 0
  clear ca fa hz1
  go_wp2_with fail
  go_step3
  go_wp2_with fail
  refine see (F := fun w0_ => Below w.heap.size w w0_ ∧ Below W0.heap.size W0 w0_ ∧ ShW w0_ W0.heap.size (w.heap.size + 1) (w.heap.size + 1 + 1) (sh0 n) (td0 n)) _ ⟨hb2_.out.setCell (show w.heap.size ≤ (⟨w.heap.size + 1 + 1, 0, none⟩ : Addr).block by show w.heap.size ≤ w.heap.size + 1 + 1; omega) _, HL2.out.setCell (show W0.heap.size ≤ (⟨w.heap.size + 1 + 1, 0, none⟩ : Addr).block by rw [HWS.out]; exact Nat.le_succ _) _, ShW.start hx0 (blk_far HA2.out (p := ⟨w.heap.size + 1 + 1, 0, none⟩) (by simp) _) (blk_put HT2.out 0 _ (map_set_bool _ 0 true)) (by simp)⟩ ?_
  rintro w3 ⟨hb3_, HL3, HS3⟩
  replace hb3_ := Aside0.mk hb3_
  replace HL3 := Aside0.mk HL3
  replace HS3 := Aside0.mk HS3
  clear ct ft y4 dn hmS hmB
  go_loopg [32] (fuelV m n) (fun kq v32 w' => ∃ (sh : List Shp) (td : List Bool), Aside0 (loopV m f kq sh td = some r) ∧ Aside0 (InvV m f sh td) ∧ Aside0 (ShW w' W0.heap.size (w.heap.size + 1) (w.heap.size + 1 + 1) sh td) ∧ Aside0 (∀ i, (shA sh i).2.length ≤ 8) ∧ Aside0 (Below W0.heap.size W0 w'))
  case atStart => exact ⟨sh0 n, td0 n, HTY2, ⟨by have h := inv0 (m := m) (f := f) (by rw [HN.out]; exact hx0); rw [HN.out] at h; exact h⟩, HS3, ⟨fun i => by rw [sh0_at hx0]; split <;> exact Nat.zero_le _⟩, HL3⟩
  case round =>
    obtain ⟨sh, td, HLV, HIV, HS, HG8, HL⟩ := hrel
    cases gk with
    | zero => exact absurd HLV.out (by unfold loopV; simp)
    | succ k1 =>
      have HXW := Aside0.mk (blk_below HXB.out HL.out)
      have HLSH := Aside0.mk (show sh.length = codeN m f from HIV.out.good.1)
      go_wp2_with fail
      go_loopg [32] (n + 1) (fun kq v32 w' => ∃ j : Nat, v32 = .int .i64 (j : Int) ∧ Aside0 (j ≤ n) ∧ Aside0 (j + kq = n + 1) ∧ Aside0 (∀ i, i < j → tdA td i = false) ∧ Aside0 (ShW w' W0.heap.size (w.heap.size + 1) (w.heap.size + 1 + 1) sh td) ∧ Aside0 (Below W0.heap.size W0 w'))
      case atStart => exact ⟨0, rfl, ⟨Nat.zero_le _⟩, ⟨by omega⟩, ⟨fun i hi => by omega⟩, HS, HL⟩
      case round =>
        obtain ⟨j, rfl, HK, HKQ, HNO, HSi, HLi_⟩ := hrel
        have HXi := Aside0.mk (blk_below HXB.out HLi_.out)
        have HLi := HLi_.out
        cases gk with
        | zero => exact absurd HK.out (by have := HKQ.out; omega)
        | succ k2 =>
          by_cases hj : j < n
          · have htd : j < td.length := by rw [HIV.out.tl, HN.out]; exact hj
            have hcj := HSi.out.todo htd
            have hfj := (HSi.out.frz j).2
            have hji : (j : Int) < (n : Int) := by omega
            obtain ⟨yb, hyb⟩ : ∃ b, tdA td j = b := ⟨_, rfl⟩
            rw [hyb] at hcj
            have HYB := Aside0.mk hyb
            clear hyb
            cases yb with
            | false =>
              clear HLi
              go_wp2_with fail
              go_roundg k2
              case measure => have := HKQ.out; omega
              case rel =>
                refine ⟨j + 1, by go_num, ⟨by omega⟩, ⟨by have := HKQ.out; omega⟩, ⟨fun i hi => ?_⟩, HSi, HLi_⟩
                rcases Nat.lt_or_ge i j with h9 | h9
                · exact HNO.out i h9
                · obtain rfl : i = j := by omega
                  exact HYB.out
            | true =>
              have HFD := Aside0.mk (find_some htd HYB.out HNO.out)
              obtain ⟨o1, ho1⟩ : ∃ o1, oneV m f j sh (td.set j false) = o1 := ⟨_, rfl⟩
              have HO1 := Aside0.mk ho1
              have HL0 := Aside0.mk (fun h : o1 = none => loopV_no HLV.out HFD.out (ho1.trans h))
              have HLO := Aside0.mk (fun (sh' : List Shp) (td' : List Bool) (h : o1 = some (sh', td')) => loopV_go HLV.out HFD.out (ho1.trans h))
              clear ho1
              have i0 := (blk_cell HXi.out 0).trans rfl
              have i1 := (blk_cell HXi.out 1).trans rfl
              have i2 := (blk_cell HXi.out 2).trans rfl
              have i3 := (blk_cell HXi.out 3).trans rfl
              have i4 := (blk_cell HXi.out 4).trans rfl
              have i5 := (blk_cell HXi.out 5).trans rfl
              have i6 := (blk_cell HXi.out 6).trans rfl
              have hwl : w.heap.size < wr.heap.size := blk_lt HXi.out
              cases o1 with
              | none =>
                have HRE := Aside0.mk (HL0.out rfl)
                go_wp2_with (first | (go_at_call 28; (with_reducible refine (tone_n ⟨A0, A1, A2, some ae, A4, c0, c1, c2, c3, c4⟩ m f j W0 _ HMW.out (HLi_.out.setCell (show W0.heap.size ≤ (⟨w.heap.size + 1 + 1, j, none⟩ : Addr).block by rw [HWS.out]; exact Nat.le_succ _) _) HQ.out hf0 hf1 (w.heap.size + 1) (w.heap.size + 1 + 1) sh (td.set j false) (HSi.out.set_td j false) (by rw [HWS.out]; exact Nat.le_refl _) (by rw [HWS.out]; exact Nat.le_succ _) HLSH.out (by rw [List.length_set]; exact HIV.out.tl) (by rw [HN.out]; exact hj) HG8.out HN.out HO1.out).mono ?_); rintro e w5 ⟨hB5, hno, hyes⟩; obtain rfl := hno rfl; clear hno hyes))
                rw [Exit.noGoto_ret]
                refine bodyPost_ret (results_tmp3 rfl _ _ _) rfl ?_
                exact ⟨HBW.out.trans (hB5.mono HBW.out.size), fun _ => ⟨_, rfl⟩, fun s h => by rw [HRE.out] at h; cases h⟩
              | some st_ =>
                obtain ⟨sh', td'⟩ := st_
                have HINV := Aside0.mk (oneV_inv HQ.out hf0 hf1 HIV.out HYB.out HO1.out).1
                have HG9 := Aside0.mk (oneV_len HG8.out HO1.out)
                go_wp2_with (first | (go_at_call 28; (with_reducible refine (tone_n ⟨A0, A1, A2, some ae, A4, c0, c1, c2, c3, c4⟩ m f j W0 _ HMW.out (HLi_.out.setCell (show W0.heap.size ≤ (⟨w.heap.size + 1 + 1, j, none⟩ : Addr).block by rw [HWS.out]; exact Nat.le_succ _) _) HQ.out hf0 hf1 (w.heap.size + 1) (w.heap.size + 1 + 1) sh (td.set j false) (HSi.out.set_td j false) (by rw [HWS.out]; exact Nat.le_refl _) (by rw [HWS.out]; exact Nat.le_succ _) HLSH.out (by rw [List.length_set]; exact HIV.out.tl) (by rw [HN.out]; exact hj) HG8.out HN.out HO1.out).mono ?_); rintro e w5 ⟨hB5, hno, hyes⟩; obtain ⟨rfl, hS5⟩ := hyes _ _ rfl; clear hno hyes))
                go_roundg k1
                case measure => omega
                case rel => exact ⟨sh', td', ⟨HLO.out _ _ rfl⟩, HINV, ⟨hS5⟩, HG9, ⟨hB5⟩⟩
          · have hje : j = n := by have := HK.out; omega
            have HRE := Aside0.mk (loopV_end HLV.out (find_none (fun i hi => HNO.out i (by rw [HIV.out.tl, HN.out] at hi; omega))))
            have hsl : sh.length = n := by rw [HIV.out.good.1, HN.out]
            have HSL := Aside0.mk hsl
            subst hje
            clear hj HKQ hsl
            go_wp2_with fail
            rw [Exit.noGoto_ret]
            refine bodyPost_ret (results_tmp3 rfl _ _ _) rfl ?_
            refine ⟨HBW.out.trans (HLi.mono HBW.out.size), (fun h => by rw [HRE.out] at h; cases h), fun s h => ?_⟩
            rw [HRE.out] at h
            injection h with h
            subst h
            refine ⟨some ⟨w.heap.size + 1, 0, none⟩, by rw [HSL.out]; rfl, Kd.F_mono (HSi.out.row (by rw [HWS.out]; exact Nat.le_refl _) (by have := HSL.out; omega)) (fun k hk => by have := HWS.out; omega)⟩
end Go.Proofs.Ytcfbhobpfnlkpaa.Flow
