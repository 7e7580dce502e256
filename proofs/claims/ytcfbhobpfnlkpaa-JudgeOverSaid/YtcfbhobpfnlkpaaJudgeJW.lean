/- The walk of few. -/
import Derived.Test.YtcfbhobpfnlkpaaJudgeJX
namespace Go.Proofs.Ytcfbhobpfnlkpaa.Flow
open Go.RowKit Go.Proofs.Ytcfbhobpfnlkpaa.QJudgeFound Go.Proofs.YtcfbhobpfnlkpaaW.PrintWords Go.Proofs.YtcfbhobpfnlkpaaW.PrintLast Go.Proofs.Ytcfbhobpfnlkpaa.Chain
set_option linter.unusedVariables false
set_option linter.unusedSimpArgs false
theorem rdL_at {x : List (List S44)} {k : Nat} (h : k < x.length) : rd_L11 x (k : Int) = x[k] := by
  unfold rd_L11
  rw [List.getD_eq_getElem?_getD, Int.toNat_natCast, List.getElem?_eq_getElem h]; rfl
theorem rdT_at {u : List S44} {k : Nat} (h : k < u.length) : rd_T44 u (k : Int) = u[k] := by
  unfold rd_T44
  rw [List.getD_eq_getElem?_getD, Int.toNat_natCast, List.getElem?_eq_getElem h]; rfl
def fewIn : List S44 → Int → Int
  | [], n => n
  | s :: u, n => if n < 3000 then fewIn u (n + (s.f1.length : Int)) else n
def fewOut : List (List S44) → Int → Int
  | [], n => n
  | u :: x, n => if n < 3000 then fewOut x (fewIn u (n + (1 + (u.length : Int)))) else n
def fewV (x : List (List S44)) : Bool := decide (fewOut x 0 < 3000)
theorem fewIn_big {u : List S44} {n : Int} (h : ¬ n < 3000) : fewIn u n = n := by
  cases u with
  | nil => rfl
  | cons s u => unfold fewIn; rw [if_neg h]
theorem fewOut_big {x : List (List S44)} {n : Int} (h : ¬ n < 3000) : fewOut x n = n := by
  cases x with
  | nil => rfl
  | cons s u => unfold fewOut; rw [if_neg h]
theorem fewIn_at {u : List S44} {i : Nat} {n : Int} (h : i < u.length) (hn : n < 3000) : fewIn (u.drop i) n = fewIn (u.drop (i + 1)) (n + (u[i].f1.length : Int)) := by
  rw [List.drop_eq_getElem_cons h]
  exact if_pos hn
theorem fewOut_at {x : List (List S44)} {i : Nat} {n : Int} (h : i < x.length) (hn : n < 3000) : fewOut (x.drop i) n = fewOut (x.drop (i + 1)) (fewIn x[i] (n + (1 + (x[i].length : Int)))) := by
  rw [List.drop_eq_getElem_cons h]
  exact if_pos hn
set_option maxHeartbeats 16000000 in
set_option maxRecDepth 100000 in
theorem few_c (A : Option Addr) (ca : Nat) (x : List (List S44)) (w : World) (hx : Kd.C (Kd.slice 44 k44) w A x.length x) (hxa : x.length ≤ ca) (hl1 : ∀ u ∈ x, u.length ≤ 140737488355328) (hl2 : ∀ u ∈ x, ∀ s ∈ u, s.f1.length ≤ 140737488355328) {r : Bool} (hr : fewV x = r) :
    Calls Try.prog 7 #[.slice A x.length ca] w fun e w' => e = .returned (.bool r) ∧ (r = true → ∀ u ∈ x, ∀ s ∈ u, s.f1.length ≤ 100000) ∧ Below w.heap.size w w' := by
  have HA := Aside0.mk hx
  have H1 := Aside0.mk hl1
  have H2 := Aside0.mk hl2
  have hmx := Kd.C_max hx
  have HR := Aside0.mk hr
  clear hx hl1 hl2 hr
  go_enter Try.func7, Try.ntmps7
  go_wp2_with fail
  go_loopg [3, 4] (x.length + 1) (fun kq v3 v4 w' => ∃ (k : Nat) (nn : Int), v3 = .int .i64 nn ∧ v4 = .int .i64 (k : Int) ∧ Aside0 (k ≤ x.length) ∧ Aside0 (k + kq = x.length + 1) ∧ Aside0 (0 ≤ nn) ∧ Aside0 (fewOut (x.drop k) nn = fewOut x 0) ∧ Aside0 (nn < 3000 → ∀ j (h : j < x.length), j < k → ∀ s ∈ x[j], s.f1.length ≤ 100000) ∧ Aside0 (Below w.heap.size w w'))
  case atStart => exact ⟨0, 0, rfl, rfl, ⟨Nat.zero_le _⟩, ⟨by omega⟩, ⟨by decide⟩, ⟨rfl⟩, ⟨fun _ j _ hj => by omega⟩, ⟨Below.refl _ _⟩⟩
  case round =>
    obtain ⟨k, nn, rfl, rfl, HK, HKQ, HN0, HFO, HP, HL⟩ := hrel
    cases gk with
    | zero => exact absurd HK.out (by have := HKQ.out; omega)
    | succ k1 =>
      by_cases hk : k < x.length
      · have e1 : (k : Int) < (x.length : Int) := by omega
        by_cases hn : nn < 3000
        · have hn0 := HN0.out
          obtain ⟨adx, Ax, cx, hA, q0, hcx, hCx⟩ := at_L11 (Kd.C_below HA.out HL.out) (k : Int) (by omega) (by omega)
          subst hA
          simp only [Int.toNat_natCast] at q0
          obtain ⟨u, hu⟩ : ∃ u, rd_L11 x (k : Int) = u := ⟨_, rfl⟩
          have HUX := Aside0.mk (show x[k] = u from by rw [← rdL_at hk]; exact hu)
          have hum : u ∈ x := by rw [← HUX.out]; exact List.getElem_mem hk
          have hul := H1.out u hum
          have HUL := Aside0.mk (H2.out u hum)
          rw [hu] at q0 hcx hCx
          have HCX := Aside0.mk hCx
          have HQ0 := Aside0.mk q0
          clear hu hCx hum
          go_wp2_with fail
          refine see (F := fun w0_ => Below wr.heap.size wr w0_) _ (by first | exact Below.refl _ _ | exact bel) ?_
          rintro w1 hb1
          have HQ1 := Aside0.mk (keepc hb1 HQ0.out)
          have HCX1 := Aside0.mk (Kd.C_below HCX.out hb1)
          have HL1 := Aside0.mk (below_mid HL.out hb1)
          clear hb1 q0
          go_loopg [3, 5] (u.length + 1) (fun kq v3 v5 w' => ∃ (i : Nat) (n3 : Int), v3 = .int .i64 n3 ∧ v5 = .int .i64 (i : Int) ∧ Aside0 (i ≤ u.length) ∧ Aside0 (i + kq = u.length + 1) ∧ Aside0 (0 ≤ n3) ∧ Aside0 (fewOut (x.drop (k + 1)) (fewIn (u.drop i) n3) = fewOut x 0) ∧ Aside0 (n3 < 3000 → ∀ j (h : j < u.length), j < i → u[j].f1.length ≤ 100000) ∧ Aside0 (Below w1.heap.size w1 w'))
          case atStart => exact ⟨0, nn + (1 + (u.length : Int)), rfl, rfl, ⟨Nat.zero_le _⟩, ⟨by omega⟩, ⟨by omega⟩, ⟨by rw [← HFO.out, fewOut_at hk hn, HUX.out]; rfl⟩, ⟨fun _ j _ hj => by omega⟩, ⟨Below.refl _ _⟩⟩
          case round =>
            obtain ⟨i, n3, rfl, rfl, HI, HIQ, HM0, HFI, HPI, HLI⟩ := hrel
            have q0 := keepc HLI.out HQ1.out
            cases gk with
            | zero => exact absurd HI.out (by have := HIQ.out; omega)
            | succ k2 =>
              by_cases hi : i < u.length
              · have e2 : (i : Int) < (u.length : Int) := by omega
                by_cases hn3 : n3 < 3000
                · have hm0 := HM0.out
                  obtain ⟨adk, Au, cu, hA, f0, f1, hcu, hCu⟩ := at_T44 (Kd.C_below HCX1.out HLI.out) (i : Int) (by omega) (by omega)
                  subst hA
                  simp only [Int.toNat_natCast] at f0 f1
                  obtain ⟨s, hs⟩ : ∃ s, rd_T44 u (i : Int) = s := ⟨_, rfl⟩
                  have HSU := Aside0.mk (show u[i] = s from by rw [← rdT_at hi]; exact hs)
                  have hsl : s.f1.length ≤ 140737488355328 := HUL.out s (by rw [← HSU.out]; exact List.getElem_mem hi)
                  rw [hs] at f0 f1 hcu hCu
                  clear hs hCu
                  go_wp2_with fail
                  go_roundg k2
                  case measure => have := HIQ.out; omega
                  case rel =>
                    refine ⟨i + 1, n3 + (s.f1.length : Int), by go_num, by go_num, ⟨by omega⟩, ⟨by have := HIQ.out; omega⟩, ⟨by omega⟩, ⟨by rw [← HFI.out, fewIn_at hi hn3, HSU.out]⟩, ⟨fun h j hj hji => ?_⟩, ⟨by first | exact HLI.out | exact below_mid HLI.out bel⟩⟩
                    rcases Nat.lt_or_ge j i with h9 | h9
                    · exact HPI.out (by omega) j hj h9
                    · obtain rfl : j = i := by omega
                      rw [HSU.out]; omega
                · go_wp2_with fail
                  go_roundg k1
                  case measure => have := HKQ.out; omega
                  case rel => exact ⟨k + 1, n3, rfl, by go_num, ⟨by omega⟩, ⟨by have := HKQ.out; omega⟩, HM0, ⟨by rw [← HFI.out, fewIn_big (by omega)]⟩, ⟨fun h => absurd h (by omega)⟩, ⟨below_mid (below_mid HL1.out HLI.out) bel⟩⟩
              · have hie : i = u.length := by have := HI.out; omega
                subst hie
                have e2 : ¬ ((u.length : Int) < (u.length : Int)) := by omega
                go_wp2_with fail
                go_roundg k1
                case measure => have := HKQ.out; omega
                case rel =>
                  refine ⟨k + 1, n3, rfl, by go_num, ⟨by omega⟩, ⟨by have := HKQ.out; omega⟩, HM0, ⟨by rw [← HFI.out, List.drop_length]; rfl⟩, ⟨fun h j hj hjk s hs => ?_⟩, ⟨below_mid (below_mid HL1.out HLI.out) bel⟩⟩
                  rcases Nat.lt_or_ge j k with h9 | h9
                  · exact HP.out hn j hj h9 s hs
                  · obtain rfl : j = k := by omega
                    rw [HUX.out] at hs
                    obtain ⟨i, hi2, rfl⟩ := List.mem_iff_getElem.1 hs
                    exact HPI.out h i hi2 hi2
        · have hrf : r = false := by rw [← HR.out]; unfold fewV; rw [← HFO.out, fewOut_big hn]; exact decide_eq_false hn
          subst hrf
          go_wp2_with fail
          go_ret
          exact ⟨rfl, HL.out⟩
      · have hke : k = x.length := by have := HK.out; omega
        subst hke
        have e1 : ¬ ((x.length : Int) < (x.length : Int)) := by omega
        have HFE := Aside0.mk (show r = decide (nn < 3000) from by rw [← HR.out]; unfold fewV; rw [← HFO.out, List.drop_length]; rfl)
        by_cases hn : nn < 3000
        · have hrt : r = true := HFE.out.trans (decide_eq_true hn)
          subst hrt
          go_wp2_with fail
          go_ret
          refine ⟨rfl, fun u hu s hs => ?_, HL.out⟩
          obtain ⟨j, hj, rfl⟩ := List.mem_iff_getElem.1 hu
          exact HP.out hn j hj hj s hs
        · have hrf : r = false := HFE.out.trans (decide_eq_false hn)
          subst hrf
          go_wp2_with fail
          go_ret
          exact ⟨rfl, HL.out⟩
end Go.Proofs.Ytcfbhobpfnlkpaa.Flow
