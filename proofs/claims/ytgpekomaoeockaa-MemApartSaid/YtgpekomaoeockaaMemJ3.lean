/- Part of the proofs about package mem. -/
import Derived.Test.YtgpekomaoeockaaMemJ2
namespace Go.Proofs.Ytgpekomaoeockaa.MemC
open Go.RowKit Go.Proofs.YtgpekomaoeockaaW.PrintWords Go.Proofs.YtgpekomaoeockaaW.PrintLast Go.Proofs.YtgpekomaoeockaaW.PrintMore Go.Proofs.Ytgpekomaoeockaa.QMemSizes
set_option linter.unusedVariables false
set_option maxHeartbeats 16000000 in
set_option maxRecDepth 100000 in
theorem MemApart.walk (A0 : Option Addr) (c0 : Nat) (l0 : List Int) (nn : Nat) (v : Int) (w : World) (hr0 : Kd.C (Kd.int .u8) w A0 l0.length l0) (hc0 : l0.length ≤ c0) (hw0 : ∀ x ∈ l0, 0 ≤ x ∧ x ≤ 255) (hl0 : l0.length ≤ 140737488351232) (hnn : nn ≤ 255) (hv : -2147483648 ≤ v ∧ v ≤ 2147483647) :
    Calls Try.prog 6 #[.slice A0 l0.length c0, .int .u8 (nn : Int), .int .i32 v] w fun e w' => e = .returned (.bool true) ∧ Below w.heap.size w w' := by
  obtain ⟨s, hs, hsr⟩ : ∃ s : Nat → Nat, (∀ j, s j ≤ 255) ∧ ∀ j, j < l0.length → rd l0 (j : Int) = (s j : Int) := by
    refine ⟨fun j => (rd l0 (j : Int)).toNat, fun j => ?_, fun j hj => ?_⟩
    · show (rd l0 (j : Int)).toNat ≤ 255
      rcases Nat.lt_or_ge j l0.length with h | h
      · have := hw0 (rd l0 (j : Int)) (by unfold rd; rw [Int.toNat_natCast, List.getD_eq_getElem?_getD, List.getElem?_eq_getElem h]; exact List.getElem_mem h)
        omega
      · have : rd l0 (j : Int) = 0 := by unfold rd; rw [Int.toNat_natCast, List.getD_eq_getElem?_getD, List.getElem?_eq_none h]; rfl
        omega
    · have := hw0 (rd l0 (j : Int)) (by unfold rd; rw [Int.toNat_natCast, List.getD_eq_getElem?_getD, List.getElem?_eq_getElem hj]; exact List.getElem_mem hj)
      show _ = (((rd l0 (j : Int)).toNat : Nat) : Int)
      omega
  have HS := Aside0.mk hs
  have HSR := Aside0.mk hsr
  have HR := Aside0.mk hr0
  have HAW := Aside0.mk awake.calls
  have HV := Aside0.mk hv
  have HNEW := Aside0.mk (MS.new 20 3000)
  clear hs hsr hr0 hw0 hv
  go_enter Try.func6, Try.ntmps6
  go_wp2_with fail
  refine (HNEW.out _).mono ?_
  rintro e w1 ⟨p, sb, hb, rfl, hm, hbl⟩
  try refine ⟨_, rfl, ?_⟩
  have HA1 := Aside0.mk (World.ownsRow_lit (base := w.heap.size) (e := 3) (size := 1) w1 #[] 0 (by have := hbl.size; exact this) (by simp [maxLen]) rfl)
  have HM1 := Aside0.mk (hm.below (below_alloc (Below.refl _ _) (.cells #[] 3 (0, 0))))
  have HB1 := Aside0.mk (below_step hbl (below_alloc (Below.refl _ _) (.cells #[] 3 (0, 0))))
  clear hm hbl HNEW
  go_wp2_with fail
  generalize w1.alloc (Obj.cells #[] 3) = w2 at *
  have L1 : Aside0 (LA w w2 w.heap.size p sb hb (zeroF s) 0 (.slice none 0 0) (.slice (some ⟨w1.heap.size, 0, none⟩) 0 0)) := ⟨⟨HM1.out, HA1.out, HB1.out, rfl⟩⟩
  clear HA1 HM1 HB1
  go_loopg [8, 9] 11 (fun kq v8 v9 w' => ∃ (i : Nat) (lv : Value), v9 = .int .i64 (i : Int) ∧ Aside0 (i ≤ l0.length) ∧ Aside0 (i + kq = 11) ∧ Aside0 (i ≤ 10) ∧ Aside0 (LA w w' w.heap.size p sb hb (zeroF s) i lv v8))
  case atStart => exact ⟨0, _, rfl, ⟨Nat.zero_le _⟩, ⟨rfl⟩, ⟨by omega⟩, L1⟩
  case round =>
    clear L1
    obtain ⟨i, lv, rfl, HI, HQ, H10, HL⟩ := hrel
    cases gk with
    | zero => exact absurd H10.out (by have := HQ.out; omega)
    | succ k1 =>
      by_cases hc : i < l0.length ∧ i < 10
      · obtain ⟨hc1, hc2⟩ := hc
        obtain ⟨ad, rfl, hx⟩ := C_at8 (Kd.C_below HR.out HL.out.bel) i hc1
        rw [HSR.out i hc1] at hx
        have hsi : ((s i : Nat) : Int) ≤ 255 := by have := HS.out i; omega
        have d1 : decide ((i : Int) < (l0.length : Int)) = true := decide_eq_true (by omega)
        have d2 : decide ((i : Int) < 10) = true := decide_eq_true (by omega)
        have z1 : (0 ≤ (i : Int)) = True := eq_true (by omega)
        have z2 : ((i : Int) < (l0.length : Int)) = True := eq_true (by omega)
        have HC1 := Aside0.mk hc1
        have HC2 := Aside0.mk hc2
        obtain ⟨Av, cv, hv8⟩ := own_slice HL.out.own
        subst hv8
        go_wp2_with fail
        refine (HL.out.give hc2 HS.out).mono ?_
        rintro e w3 ⟨rfl, lv3, hm3, ho3, hb3⟩
        have HM3 := Aside0.mk hm3
        have HO3 := Aside0.mk ho3
        have HB3 := Aside0.mk hb3
        have HZ3 := Aside0.mk hb3.size
        have HE3 := Aside0.mk (show (i + 1) * 8 ≤ 140737488355328 by omega)
        clear hm3 ho3 hb3 hx
        go_wp2_with (first | ((with_reducible refine gate_builtin (b := .append) (xs := #[.tmp 49, .tmp 51]) rfl ?_); at_builtin; refine print_append_cells (w0 := w) w.heap.size rfl (.tmp 49) (.tmp 51) 42 3 (.int .i64 0) 1 8 rfl Try.underlying42 info3 rfl (by decide) (by decide) (.slice Av i cv) i (nums .i64 (upTo i)) [.int .i64 (i : Int)] rfl rfl rfl (by simp [Value.oneCell']) HO3.out HB3.out HZ3.out HE3.out ?_; intro v1 w4 ho4 hb4 hg4 hat4; have HO4 := Aside0.mk ho4; have HB4 := Aside0.mk hb4; have HM4 := Aside0.mk (HM3.out.grown3 HO3.out hg4); clear ho4 hb4 hg4 hat4))
        go_roundg k1
        case measure => have := HQ.out; omega
        case rel => exact ⟨i + 1, lv3, by go_num, ⟨HC1.out⟩, ⟨by have := HQ.out; omega⟩, ⟨HC2.out⟩, ⟨⟨HM4.out, (upTo_succ i) ▸ HO4.out, HB4.out, rfl⟩⟩⟩
      · have hcases : Aside0 ((decide (i < l0.length) = true ∧ decide ((i : Int) < 10) = false) ∨ (decide ((i : Int) < (l0.length : Int)) = false ∧ decide (i < l0.length) = false)) := ⟨by
          rcases Nat.lt_or_ge i l0.length with h | h
          · exact .inl ⟨decide_eq_true (by omega), decide_eq_false (by omega)⟩
          · exact .inr ⟨decide_eq_false (by omega), decide_eq_false (by omega)⟩⟩
        clear hc
        rcases Nat.eq_zero_or_pos i with h0 | h0
        · subst h0
          obtain ⟨Av, cv, hv8⟩ := own_slice HL.out.own
          subst hv8
          rcases hcases.out with ⟨_, d2⟩ | ⟨d1, _⟩
          · exact absurd d2 (by decide)
          clear hcases
          have hl9 : l0.length = 0 := by have := of_decide_eq_false d1; omega
          rw [hl9] at d1
          have HL9 := Aside0.mk hl9
          clear d1 hl9
          have d1 : decide ((0 : Int) < (l0.length : Int)) = false := by rw [HL9.out]; rfl
          have d2 : decide (0 < l0.length) = false := by rw [HL9.out]; rfl
          go_wp2_with fail
          refine (HAW.out _).mono ?_
          rintro e w3 ⟨rfl, hb3⟩
          have HB3 := Aside0.mk (HL.out.below hb3).bel
          clear hb3
          go_wp2
          go_ret
          exact ⟨rfl, HB3.out⟩
        · obtain ⟨gi, cap, hv8⟩ := HL.out.id h0
          subst hv8
          obtain ⟨kk, hkk⟩ : ∃ kk, kk = nn % i := ⟨_, rfl⟩
          have hkm : (nn : Int) % (i : Int) = (kk : Int) := by rw [hkk]; omega
          have hki : kk < i := by rw [hkk]; exact Nat.mod_lt _ h0
          have hi10 : (i : Int) ≤ 10 := by have := H10.out; omega
          have d3 : ((i : Int) == 0) = false := beq_eq_false_iff_ne.mpr (by omega)
          have hx := HL.out.idAt kk hki
          have z1 : (0 ≤ (kk : Int)) = True := eq_true (by omega)
          have z2 : ((kk : Int) < (i : Int)) = True := eq_true (by omega)
          clear hkk
          have HK := Aside0.mk hki
          have H10' := Aside0.mk (show i ≤ 10 from H10.out)
          have HIL := Aside0.mk HI.out
          rcases hcases.out with ⟨d1, d2⟩ | ⟨d1, d2⟩
          all_goals clear hcases
          all_goals
            go_wp2_with fail
            refine (HL.out.region H10'.out kk HK.out).mono ?_
            rintro e w3 ⟨o, c, rfl, hc, ho, hL3⟩
            try refine ⟨_, rfl, ?_⟩
            have HC := Aside0.mk (show c = s kk by rw [hc]; unfold zeroF; rw [List.length_replicate])
            have HO := Aside0.mk ho
            have hc255 : (c : Int) ≤ 255 := by have h1 := HC.out; have h2 := HS.out kk; omega
            have hL4 : Aside0 (LA w w3 w.heap.size p sb hb (fillF s kk 0 v) i lv (.slice (some ⟨gi, 0, none⟩) i cap)) := ⟨by rw [fill_zero]; exact hL3⟩
            clear hc ho hL3 hx HL
            go_wp2_with fail
            go_loopg [14] (c + 1) (fun kq v14 w' => ∃ (q : Nat), v14 = .int .i64 (q : Int) ∧ Aside0 (q ≤ c) ∧ Aside0 (q + kq = c + 1) ∧ Aside0 (LA w w' w.heap.size p sb hb (fillF s kk q v) i lv (.slice (some ⟨gi, 0, none⟩) i cap)))
            case atStart => exact ⟨0, rfl, ⟨Nat.zero_le _⟩, ⟨by omega⟩, hL4⟩
            case round =>
              clear hL4
              obtain ⟨q, rfl, HQ1, HQ2, HL⟩ := hrel
              cases gk with
              | zero => exact absurd HQ1.out (by have := HQ2.out; omega)
              | succ k2 =>
                by_cases hqc : q < c
                · have hqs : q < s kk := by rw [← HC.out]; exact hqc
                  obtain ⟨x, hcz⟩ := HL.out.there HK.out hqs
                  have hfz := HL.out.ms.fr (tot (rsG (zeroF s) kk) + q)
                  have HW := Aside0.mk (HL.out.write HK.out hqs)
                  rw [← HO.out (by omega)] at hcz hfz HW
                  have HQC := Aside0.mk hqc
                  have y1 : (0 ≤ (q : Int)) = True := eq_true (by omega)
                  have y2 : ((q : Int) < (c : Int)) = True := eq_true (by omega)
                  have y3 : (q : Int) ≤ 255 := by omega
                  clear hqs hqc
                  go_wp2_with fail
                  go_roundg k2
                  case measure => have := HQ2.out; omega
                  case rel => exact ⟨q + 1, by go_num, ⟨HQC.out⟩, ⟨by have := HQ2.out; omega⟩, HW⟩
                · have hqe : q = c := by have := HQ1.out; omega
                  subst hqe
                  have HL5 : Aside0 (LA w wr w.heap.size p sb hb (fillF s kk (s kk) v) i lv (.slice (some ⟨gi, 0, none⟩) i cap)) := ⟨by have := HL.out; rw [HC.out] at this; exact this⟩
                  clear hqc HL HQ1 HQ2
                  go_wp2_with fail
                  go_loopg [15] (i + 1) (fun kq v15 w' => ∃ (j : Nat), v15 = .int .i64 (j : Int) ∧ Aside0 (j ≤ i) ∧ Aside0 (j + kq = i + 1) ∧ Aside0 (LA w w' w.heap.size p sb hb (fillF s kk (s kk) v) i lv (.slice (some ⟨gi, 0, none⟩) i cap)))
                  case atStart => exact ⟨0, rfl, ⟨Nat.zero_le _⟩, ⟨by omega⟩, HL5⟩
                  case round =>
                    clear HL5
                    obtain ⟨j, rfl, HJ1, HJ2, HL⟩ := hrel
                    cases gk with
                    | zero => exact absurd HJ1.out (by have := HJ2.out; omega)
                    | succ k3 =>
                      by_cases hji : j < i
                      · have hx := HL.out.idAt j hji
                        have y1 : (0 ≤ (j : Int)) = True := eq_true (by omega)
                        have y2 : ((j : Int) < (i : Int)) = True := eq_true (by omega)
                        have HJI := Aside0.mk hji
                        have hjl : j < l0.length := by have := HIL.out; omega
                        obtain ⟨ad, rfl, hx8⟩ := C_at8 (Kd.C_below HR.out HL.out.bel) j hjl
                        go_wp2_with fail
                        refine (HL.out.region H10'.out j HJI.out).mono ?_
                        rintro e w5 ⟨o2, c2, rfl, hc2, ho2, hL6⟩
                        try refine ⟨_, rfl, ?_⟩
                        have HC2 := Aside0.mk (show c2 = s j by rw [hc2, fill_length _ _ _ _ (Nat.le_refl _)])
                        have HO2 := Aside0.mk ho2
                        have HL7 := Aside0.mk hL6
                        have hx9 := hL6.bel
                        rw [HSR.out j hjl] at hx8
                        have hx10 := (Kd.C_below HR.out hL6.bel)
                        obtain ⟨ad', ead, hx11⟩ := C_at8 hx10 j hjl
                        injection ead with ead
                        subst ead
                        rw [HSR.out j hjl, ← HC2.out] at hx11
                        have hc2b : (c2 : Int) ≤ 255 := by have h1 := HC2.out; have h2 := HS.out j; omega
                        have y4 : ((j : Int) < (l0.length : Int)) = True := eq_true (by omega)
                        have y5 : ((c2 : Int) != (c2 : Int)) = false := by simp
                        clear hc2 ho2 hL6 HL hx hx8 hx9 hx10 hji hjl
                        go_wp2_with fail
                        go_loopg [17] (c2 + 1) (fun kq v17 w' => ∃ (t : Nat), v17 = .int .i64 (t : Int) ∧ Aside0 (t ≤ c2) ∧ Aside0 (t + kq = c2 + 1) ∧ Aside0 (LA w w' w.heap.size p sb hb (fillF s kk (s kk) v) i lv (.slice (some ⟨gi, 0, none⟩) i cap)))
                        case atStart => exact ⟨0, rfl, ⟨Nat.zero_le _⟩, ⟨by omega⟩, HL7⟩
                        case round =>
                          clear HL7 hx11
                          obtain ⟨t, rfl, HT1, HT2, HL⟩ := hrel
                          cases gk with
                          | zero => exact absurd HT1.out (by have := HT2.out; omega)
                          | succ k4 =>
                            by_cases htc : t < c2
                            · have hcell := HL.out.final j HJI.out t (by rw [← HC2.out]; exact htc)
                              rw [← HO2.out (by omega)] at hcell
                              have HTC := Aside0.mk htc
                              have x1 : (0 ≤ (t : Int)) = True := eq_true (by omega)
                              have x2 : ((t : Int) < (c2 : Int)) = True := eq_true (by omega)
                              have x3 : (t : Int) ≤ 255 := by omega
                              by_cases hjk : j = kk
                              · rw [if_pos hjk] at hcell
                                have w1 : ((j : Int) == (kk : Int)) = true := by rw [hjk]; simp
                                have w2 : (j == kk) = true := by rw [hjk]; simp
                                have w3 : ((j : Int) != (kk : Int)) = false := by rw [hjk]; simp
                                have w4 : (j != kk) = false := by rw [hjk]; simp
                                clear hjk htc y1 y2 y4 y5
                                go_wp2_with fail
                                go_roundg k4
                                case measure => have := HT2.out; omega
                                case rel => exact ⟨t + 1, by go_num, ⟨HTC.out⟩, ⟨by have := HT2.out; omega⟩, HL⟩
                              · rw [if_neg hjk] at hcell
                                have w1 : ((j : Int) == (kk : Int)) = false := beq_eq_false_iff_ne.mpr (by omega)
                                have w2 : (j == kk) = false := beq_eq_false_iff_ne.mpr hjk
                                have w3 : ((j : Int) != (kk : Int)) = true := bne_iff_ne.mpr (by omega)
                                have w4 : (j != kk) = true := bne_iff_ne.mpr hjk
                                clear hjk htc y1 y2 y4 y5
                                go_wp2_with fail
                                go_roundg k4
                                case measure => have := HT2.out; omega
                                case rel => exact ⟨t + 1, by go_num, ⟨HTC.out⟩, ⟨by have := HT2.out; omega⟩, HL⟩
                            · have hte : t = c2 := by have := HT1.out; omega
                              subst hte
                              have hj3 : (j : Int) ≤ 10 := by have := HJI.out; omega
                              clear htc HT1 HT2
                              go_wp2_with fail
                              go_roundg k3
                              case measure => have := HJ2.out; omega
                              case rel => exact ⟨j + 1, by go_num, ⟨HJI.out⟩, ⟨by have := HJ2.out; omega⟩, HL⟩
                      · have hje : j = i := by have := HJ1.out; omega
                        subst hje
                        have HLL := HL
                        clear hji HJ1 HJ2
                        go_wp2_with fail
                        refine (HLL.out.ms.stack).mono ?_
                        rintro e w6 ⟨rfl, hb6⟩
                        have HL8 := Aside0.mk (HLL.out.below hb6)
                        rw [List.length_replicate]
                        clear hb6 HL HLL
                        go_wp2_with fail
                        go_loopg [19] 21 (fun kq v19 w' => ∃ (t : Nat), v19 = .int .i64 (t : Int) ∧ Aside0 (t ≤ 20) ∧ Aside0 (t + kq = 21) ∧ Aside0 (LA w w' w.heap.size p sb hb (fillF s kk (s kk) v) j lv (.slice (some ⟨gi, 0, none⟩) j cap)))
                        case atStart => exact ⟨0, rfl, ⟨Nat.zero_le _⟩, ⟨by omega⟩, HL8⟩
                        case round =>
                          clear HL8
                          obtain ⟨t, rfl, HT1, HT2, HL⟩ := hrel
                          cases gk with
                          | zero => exact absurd HT1.out (by have := HT2.out; omega)
                          | succ k4 =>
                            by_cases htc : t < 20
                            · have hcell := HL.out.stk t htc
                              have HTC := Aside0.mk htc
                              have x1 : (0 ≤ (t : Int)) = True := eq_true (by omega)
                              have x2 : ((t : Int) < 20) = True := eq_true (by omega)
                              have x3 : (t : Int) ≤ 255 := by omega
                              clear htc
                              go_wp2_with fail
                              go_roundg k4
                              case measure => have := HT2.out; omega
                              case rel => exact ⟨t + 1, by go_num, ⟨HTC.out⟩, ⟨by have := HT2.out; omega⟩, HL⟩
                            · have hte : t = 20 := by have := HT1.out; omega
                              subst hte
                              clear htc HT1 HT2
                              go_wp2_with fail
                              refine (HAW.out _).mono ?_
                              rintro e w7 ⟨rfl, hb7⟩
                              have HB9 := Aside0.mk (HL.out.below hb7).bel
                              clear hb7
                              go_wp2
                              go_ret
                              exact ⟨rfl, HB9.out⟩
end Go.Proofs.Ytgpekomaoeockaa.MemC
