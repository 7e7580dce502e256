/- The law's tail, from the sums on. -/
import Derived.Test.YthfkajolockcgaaAddsAV2
import Derived.Test.YthfkajolockcgaaAddsAV3
import Derived.Deep.RegionHeld3
namespace Go.Proofs.Ythfkajolockcgaa.Adds
open Go.RowKit Go.Proofs.Ythfkajolockcgaa.QLinAdds Go.Proofs.YthfkajolockcgaaW.PrintWords Go.Proofs.YthfkajolockcgaaW.PrintLast Go.Proofs.YthfkajolockcgaaW.PrintMore Go.Proofs.Ythfkajolockcgaa.Open Go.Proofs.Ythfkajolockcgaa.Lin
set_option linter.unusedVariables false
set_option maxHeartbeats 16000000 in
set_option maxRecDepth 100000 in
theorem LinAdds.tail (A0 : Option Addr) (c0 : Nat) (l0 : List S27) (A1 : Option Addr) (c1 tl : Nat) (A2 : Option Addr) (c2 : Nat) (mc : List Int) (mm : Int) (w w' : World) (gb : Nat) (hr0 : Kd.C k27 w A0 l0.length l0) (hc0 : l0.length ≤ c0) (hr2 : Kd.C (Kd.int .i64) w A2 mc.length mc) (hc2 : mc.length ≤ c2)
    (h10 : l0.length ≤ 10) (hn : (mc.length : Int) ≤ 50) (ts us X : List Int) (M : Int) (htl : ts.length = l0.length) (hul : us.length = l0.length)
    (hXl : X.length = mc.length) (hXb : ∀ x ∈ X, -1000000000000000000 ≤ x ∧ x ≤ 1000000000000000000) (hMb : -1000000000000000000 ≤ M ∧ M ≤ 1000000000000000000)
    (s1 : lin_Sum.f 100000 l0 ts (mc.length : Int) = some (X, M, 0)) (s2 : lin_Sum.f 100000 l0 us (mc.length : Int) = some (twice X, 2 * M, 0)) (p1 : lin_Proves.f 100000 l0 ts X M = some true)
    (p2 : (∀ c ∈ mc, -1152921504606846976 < c ∧ c < 1152921504606846976) → (-1152921504606846976 < mm ∧ mm < 1152921504606846976) → lin_Proves.f 100000 (l0 ++ [⟨mc, mm⟩]) (ts ++ [0]) X M = some true)
    (At Au : Option Addr) (ct cu : Nat) (hCt : Kd.C (Kd.int .i64) w' At ts.length ts) (hct : ts.length ≤ ct) (hCu : Kd.C (Kd.int .i64) w' Au us.length us) (hcu : us.length ≤ cu)
    (u2 u3 u4 u6 u9 u10 u11 u12 u13 u14 u15 u16 u17 u18 u19 u20 u21 u22 u23 u24 u25 u26 u27 u28 u29 u30 u31 u32 u33 u34 u35 u36 u37 u38 u39 u40 u41 u42 u43 u44 u45 u46 u47 u48 u49 u50 u51 u52 u53 u54 u55 u56 u57 u58 u59 u60 u61 u62 u63 u64 u65 u66 u67 u68 u69 u70 u71 u72 u73 u74 u75 u76 u77 u78 u79 u80 u81 u82 u83 u84 u85 u86 u87 u88 u89 u90 u91 u92 u93 u94 u95 u96 u97 u98 u99 u100 u101 u102 u103 u104 u105 u106 u107 u108 u109 u110 u111 u112 u113 u114 u115 u116 u117 u118 u119 u120 u121 u122 u123 u124 u125 u126 u127 u128 u129 u130 u131 u132 u133 u134 u135 u136 u137 u138 u139 u140 u141 u142 u143 u144 u145 u146 u147 u148 u149 u150 u151 u152 u153 u154 u155 u156 u157 u158 u159 u160 u161 u162 u163 u164 u165 u166 u167 u168 u169 u170 u171 u172 u173 u174 u175 u176 u177 u178 u179 u180 u181 u182 u183 u184 u185 u186 u187 u188 u189 u190 u191 u192 u193 u194 u195 u196 u197 u198 u199 u200 u201 u202 u203 u204 u205 u206 u207 u208 u209 u210 u211 u212 u213 u214 u215 u216 u217 u218 u219 u220 u221 u222 u223 u224 u225 u226 u227 u228 u229 u230 u231 u232 u233 u234 u235 u236 : Value) (hL : AW w w' gb A2 mc.length c2 mm (.slice At ts.length ct) (.slice Au us.length cu) ts us) :
    Code.wp Try.prog addsTail (bodyPost Try.prog Try.f7 (fun e w' => e = .returned (.bool true) ∧ Below w.heap.size w w')) ⟨List.toArray (.slice A0 l0.length c0 :: .slice A1 tl c1 :: u2 :: u3 :: u4 :: .pointer (some ⟨gb, 0, none⟩) :: u6 :: .slice At ts.length ct :: .slice Au us.length cu :: u9 :: u10 :: u11 :: u12 :: u13 :: u14 :: u15 :: u16 :: u17 :: u18 :: u19 :: u20 :: u21 :: u22 :: u23 :: u24 :: u25 :: u26 :: u27 :: u28 :: u29 :: u30 :: u31 :: u32 :: u33 :: u34 :: u35 :: u36 :: u37 :: u38 :: u39 :: u40 :: u41 :: u42 :: u43 :: u44 :: u45 :: u46 :: u47 :: u48 :: u49 :: u50 :: u51 :: u52 :: u53 :: u54 :: u55 :: u56 :: u57 :: u58 :: u59 :: u60 :: u61 :: u62 :: u63 :: u64 :: u65 :: u66 :: u67 :: u68 :: u69 :: u70 :: u71 :: u72 :: u73 :: u74 :: u75 :: u76 :: u77 :: u78 :: u79 :: u80 :: u81 :: u82 :: u83 :: u84 :: u85 :: u86 :: u87 :: u88 :: u89 :: u90 :: u91 :: u92 :: u93 :: u94 :: u95 :: u96 :: u97 :: u98 :: u99 :: u100 :: u101 :: u102 :: u103 :: u104 :: u105 :: u106 :: u107 :: u108 :: u109 :: u110 :: u111 :: u112 :: u113 :: u114 :: u115 :: u116 :: u117 :: u118 :: u119 :: u120 :: u121 :: u122 :: u123 :: u124 :: u125 :: u126 :: u127 :: u128 :: u129 :: u130 :: u131 :: u132 :: u133 :: u134 :: u135 :: u136 :: u137 :: u138 :: u139 :: u140 :: u141 :: u142 :: u143 :: u144 :: u145 :: u146 :: u147 :: u148 :: u149 :: u150 :: u151 :: u152 :: u153 :: u154 :: u155 :: u156 :: u157 :: u158 :: u159 :: u160 :: u161 :: u162 :: u163 :: u164 :: u165 :: u166 :: u167 :: u168 :: u169 :: u170 :: u171 :: u172 :: u173 :: u174 :: u175 :: u176 :: u177 :: u178 :: u179 :: u180 :: u181 :: u182 :: u183 :: u184 :: u185 :: u186 :: u187 :: u188 :: u189 :: u190 :: u191 :: u192 :: u193 :: u194 :: u195 :: u196 :: u197 :: u198 :: u199 :: u200 :: u201 :: u202 :: u203 :: u204 :: u205 :: u206 :: u207 :: u208 :: u209 :: u210 :: u211 :: u212 :: u213 :: u214 :: u215 :: u216 :: u217 :: u218 :: u219 :: u220 :: u221 :: u222 :: u223 :: u224 :: u225 :: u226 :: u227 :: u228 :: u229 :: u230 :: u231 :: u232 :: u233 :: u234 :: u235 :: u236 :: []), []⟩ w' := by
  conv => arg 2; whnf
  have HAW := Aside0.mk (fun w => plimsolllaw14_awake.calls 40 true w (awake_ok 40 (Nat.le_refl _)))
  have HR0 := Aside0.mk hr0
  have HR2 := Aside0.mk hr2
  have HC0 := Aside0.mk hc0
  have HC2 := Aside0.mk hc2
  have HL := Aside0.mk hL
  have hm0 := (blk_cell hL.bx 0).trans rfl
  have d1 : decide (50 < (mc.length : Int)) = false := decide_eq_false (by omega)
  have HXL := Aside0.mk hXl
  have HXB := Aside0.mk hXb
  have HMB := Aside0.mk hMb
  have S1 := Aside0.mk s1
  have S2 := Aside0.mk s2
  have P1 := Aside0.mk p1
  have P2 := Aside0.mk p2
  have HT := Aside0.mk htl
  have HU := Aside0.mk hul
  have CT := Aside0.mk hCt
  have CTL := Aside0.mk hct
  have CU := Aside0.mk hCu
  have CUL := Aside0.mk hcu
  have H10 := Aside0.mk h10
  clear hr0 hr2 hc0 hc2 hL hXl hXb hMb s1 s2 p1 p2 hn hCt hct hCu hcu htl hul h10
  go_wp2_with fail
  refine (lin_Sum.calls 100000 A0 c0 l0 At ct ts (mc.length : Int) X M 0 _ (Kd.C_below HR0.out HL.out.bel) HC0.out CT.out CTL.out S1.out).mono ?_
  rintro e w3 ⟨vx, rfl, hRx, hb3⟩
  try refine ⟨_, rfl, ?_⟩
  obtain ⟨Ax, cx, hvx, hCx, hcx⟩ := (SB.of (M := M) hRx HL.out.bel.size hb3 HL.out.ot).form
  subst hvx
  have CX := Aside0.mk hCx
  have CXL := Aside0.mk hcx
  clear hCx hcx
  have SX := Aside0.mk (SB.of (M := M) hRx HL.out.bel.size hb3 HL.out.ot)
  have L3 := Aside0.mk ((HL.out.below hb3).alloc (.cells #[.slice Ax X.length cx, .int .i64 M] 27))
  have CU3 := Aside0.mk (Kd.C_below (Kd.C_below CU.out hb3) (below_alloc (Below.refl _ _) (.cells #[.slice Ax X.length cx, .int .i64 M] 27)))
  have CT3 := Aside0.mk (Kd.C_below (Kd.C_below CT.out hb3) (below_alloc (Below.refl _ _) (.cells #[.slice Ax X.length cx, .int .i64 M] 27)))
  clear hRx hb3 hm0 HL CU CT
  have hm0 := (blk_cell L3.out.bx 0).trans rfl
  go_wp2_with fail
  generalize w3.alloc (Obj.cells #[Value.slice Ax X.length cx, Value.int IntKind.i64 M] 27) = w4 at *
  generalize w3.heap.size = gx at *
  clear hm0
  refine (lin_Sum.calls 100000 A0 c0 l0 Au cu us (mc.length : Int) (twice X) (2 * M) 0 _ (Kd.C_below HR0.out L3.out.bel) HC0.out CU3.out CUL.out S2.out).mono ?_
  rintro e w5 ⟨vy, rfl, hRy, hb5⟩
  try refine ⟨_, rfl, ?_⟩
  obtain ⟨Ay, cy, hvy, hCy, hcy⟩ := (SB.of (M := 2 * M) hRy L3.out.bel.size hb5 SX.out.ow).form
  subst hvy
  have CY := Aside0.mk hCy
  have CYL := Aside0.mk hcy
  clear hCy hcy
  have SY := Aside0.mk (SB.of (M := 2 * M) hRy L3.out.bel.size hb5 L3.out.ot)
  have SX5 := Aside0.mk ((SX.out.below hb5).below (below_alloc (Below.refl _ _) (.cells #[.slice Ay (twice X).length cy, .int .i64 (2 * M)] 27)))
  have CX5 := Aside0.mk (Kd.C_below (Kd.C_below CX.out hb5) (below_alloc (Below.refl _ _) (.cells #[.slice Ay (twice X).length cy, .int .i64 (2 * M)] 27)))
  have CT5 := Aside0.mk (Kd.C_below (Kd.C_below CT3.out hb5) (below_alloc (Below.refl _ _) (.cells #[.slice Ay (twice X).length cy, .int .i64 (2 * M)] 27)))
  have L5 := Aside0.mk ((L3.out.below hb5).alloc (.cells #[.slice Ay (twice X).length cy, .int .i64 (2 * M)] 27))
  have hgx := Nat.ne_of_lt (Nat.lt_of_lt_of_le (blk_lt SX.out.bx) hb5.size)
  clear hRy hb5 L3 SX CX CT3 CU3
  have e2 : decide (X.length = X.length) = true := decide_eq_true rfl
  have htwl : (twice X).length = X.length := by unfold twice; rw [List.length_map]
  have hXn := HXL.out
  simp only [htwl] at CY CYL SY SX5 L5 ⊢
  clear CX5 CT5 CY e2
  have HTW := Aside0.mk (TW.mk L5.out SX5.out SY.out)
  simp only [hXn] at SX5 L5 SY CYL HTW ⊢
  clear htwl hXn
  have e1 : wrap64 (2 * M) = 2 * M := by have := HMB.out; unfold wrap64; omega
  have e2 : wrap64 (M * 2) = 2 * M := by have := HMB.out; unfold wrap64; omega
  have hx0 := (blk_cell SX5.out.bx 0).trans rfl
  have hx1 := (blk_cell SX5.out.bx 1).trans rfl
  have hm0 := (blk_cell L5.out.bx 0).trans rfl
  have hm1 := (blk_cell L5.out.bx 1).trans rfl
  go_wp2_with fail
  generalize w5.alloc (Obj.cells #[Value.slice Ay mc.length cy, Value.int IntKind.i64 (2 * M)] 27) = w6 at *
  generalize w5.heap.size = gy at *
  have CXL2 := Aside0.mk (show X.length ≤ cx from by have := CXL.out; exact this)
  clear hx0 hx1 hm0 hm1 SX5 SY L5 CXL CYL hgx e1 e2
  go_loopg [16] (mc.length + 1) (fun kq v16 W' => ∃ (i : Nat), v16 = .int .i64 (i : Int) ∧ Aside0 (i ≤ mc.length) ∧ Aside0 (i + kq = mc.length + 1) ∧ Aside0 (TW w W' gb gx gy A2 mc.length c2 mm (.slice At ts.length ct) (.slice Au us.length cu) ts us (.slice Ax mc.length cx) X M (.slice Ay mc.length cy)))
  case atStart => exact ⟨0, rfl, ⟨Nat.zero_le _⟩, ⟨by omega⟩, HTW⟩
  case round =>
    clear HTW
    obtain ⟨i, rfl, HI, HQ, HL⟩ := hrel
    cases gk with
    | zero => exact absurd HI.out (by have := HQ.out; omega)
    | succ k1 =>
      by_cases hi : i < mc.length
      · have hx0 := (blk_cell HL.out.sx.bx 0).trans rfl
        have hy0 := (blk_cell HL.out.sy.bx 0).trans rfl
        have z1 : (0 ≤ (i : Int)) = True := eq_true (by omega)
        have z2 : ((i : Int) < (mc.length : Int)) = True := eq_true (by omega)
        have hi9 : (i : Int) ≤ 50 := by have := of_decide_eq_false d1; omega
        have hiX : i < X.length := by have := HXL.out; omega
        obtain ⟨ax, rfl, hcx⟩ := C_int (HL.out.sx.C HXL.out) i hiX
        obtain ⟨ay, rfl, hcy⟩ := C_int (HL.out.sy.C (by rw [twice_len]; exact HXL.out)) i (by rw [twice_len]; exact hiX)
        rw [twice_get _ i hiX] at hcy
        obtain ⟨x, hx⟩ : ∃ x, X[i] = x := ⟨_, rfl⟩
        have hxb := HXB.out _ (List.getElem_mem hiX)
        rw [hx] at hcx hcy hxb
        have q1 : wrap64 (2 * x) = 2 * x := by unfold wrap64; omega
        have q2 : wrap64 (x * 2) = 2 * x := by unfold wrap64; omega
        have HII := Aside0.mk hi
        clear hiX hx hxb
        go_wp2_with fail
        go_quiet (fail)
        have HLN := Aside0.mk (HL.out.drewN nq)
        clear HL hx0 hy0 hcx hcy
        generalize wr.drewN nq = w9 at *
        go_wp2_with fail
        go_roundg k1
        case measure => have := HQ.out; omega
        case rel => exact ⟨i + 1, by go_num, ⟨HII.out⟩, ⟨by have := HQ.out; omega⟩, HLN⟩
      · have hie : i = mc.length := by have := HI.out; omega
        subst hie
        have hm1 := (blk_cell HL.out.aw.bx 1).trans rfl
        have hcs : Aside0 ((decide (-1152921504606846976 < mm) = true ∧ decide (mm < 1152921504606846976) = true) ∨ (decide (-1152921504606846976 < mm) = true ∧ decide (mm < 1152921504606846976) = false) ∨ (decide (-1152921504606846976 < mm) = false)) := ⟨by
          cases decide (-1152921504606846976 < mm) <;> cases decide (mm < 1152921504606846976) <;> simp⟩
        rcases hcs.out with ⟨g1, g2⟩ | ⟨g1, g2⟩ | g1
        all_goals
          clear hcs
          go_wp2_with fail
          refine LinAdds.small A2 c2 mc mm w gb gx gy (.slice At ts.length ct) (.slice Au us.length cu) (.slice Ax mc.length cx) (.slice Ay mc.length cy) ts us X M _ _ HR2.out (by have := of_decide_eq_false d1; omega) _ _ _ _ _ _ _ _ _ _ _ _ _ _ _ _ _ _ _ _ _ _ _ _ _ _ _ _ _ _ _ _ _ _ _ _ _ _ _ _ _ _ _ _ _ _ _ _ _ _ _ _ _ _ _ _ _ _ _ _ _ _ _ _ _ _ _ _ _ _ _ _ _ _ _ _ _ _ _ _ _ _ _ _ _ _ _ _ _ _ _ _ _ _ _ _ _ _ _ _ _ _ _ _ _ _ _ _ _ _ _ _ _ _ _ _ _ _ _ _ _ _ _ _ _ _ _ _ _ _ _ _ _ _ _ _ _ _ _ _ _ _ _ _ _ _ _ _ _ _ _ _ _ _ _ _ _ _ _ _ _ _ _ _ _ _ _ _ _ _ _ _ _ _ _ _ _ _ _ _ _ _ _ _ _ _ _ _ _ _ _ _ _ _ _ _ _ _ _ _ _ _ _ _ _ (fun _ _ _ _ _ _ _ _ _ _ _ _ _ _ _ _ _ _ _ _ _ _ _ _ _ _ _ _ _ w8 hT => ?_) _ _ _ _ _ _ _ _ _ _ _ _ _ _ _ _ _ _ _ _ _ _ _ _ _ _ _ _ _ 0 rfl _ (by unfold smB; simp; first | exact ⟨of_decide_eq_true g1, of_decide_eq_true g2⟩ | (have h1 := of_decide_eq_true g1; have h2 := of_decide_eq_false g2; omega) | (have h1 := of_decide_eq_false g1; omega)) HL.out
          apply_assumption
          exact LinAdds.last A0 c0 l0 A2 c2 mc mm w w8 gb gx gy HR0.out HC0.out HR2.out HC2.out H10.out ts us X M HT.out HXL.out P1.out P2.out At Au Ax ct cu cx _ _ CTL.out CXL2.out _ _ _ _ _ _ _ _ _ _ _ _ _ _ _ _ _ _ _ _ _ _ _ _ _ _ _ _ _ _ _ _ _ _ _ _ _ _ _ _ _ _ _ _ _ _ _ _ _ _ _ _ _ _ _ _ _ _ _ _ _ _ _ _ _ _ _ _ _ _ _ _ _ _ _ _ _ _ _ _ _ _ _ _ _ _ _ _ _ _ _ _ _ _ _ _ _ _ _ _ _ _ _ _ _ _ _ _ _ _ _ _ _ _ _ _ _ _ _ _ _ _ _ _ _ _ _ _ _ _ _ _ _ _ _ _ _ _ _ _ _ _ _ _ _ _ _ _ _ _ _ _ _ _ _ _ _ _ _ _ _ _ _ _ _ _ _ _ _ _ _ _ _ _ _ _ _ _ _ _ _ _ _ _ _ _ _ _ _ _ _ _ _ _ _ _ _ _ _ _ _ _ _ _ _ _ _ _ _ _ _ _ _ _ _ _ _ _ _ _ _ _ _ _ _ _ _ _ _ _ _ _ hT
end Go.Proofs.Ythfkajolockcgaa.Adds
