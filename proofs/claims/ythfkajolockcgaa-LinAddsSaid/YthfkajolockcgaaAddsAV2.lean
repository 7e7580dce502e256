/- The law's third loop: is the other inequality small? -/
import Derived.Test.YthfkajolockcgaaAddsAV0
namespace Go.Proofs.Ythfkajolockcgaa.Adds
open Go.RowKit Go.Proofs.Ythfkajolockcgaa.QLinAdds Go.Proofs.YthfkajolockcgaaW.PrintWords Go.Proofs.YthfkajolockcgaaW.PrintLast Go.Proofs.YthfkajolockcgaaW.PrintMore Go.Proofs.Ythfkajolockcgaa.Open Go.Proofs.Ythfkajolockcgaa.Lin
set_option linter.unusedVariables false
theorem smB_next {mm : Int} {mc : List Int} {k : Nat} (h : k < mc.length) : smB mm mc (k + 1) = (smB mm mc k && (decide (-1152921504606846976 < mc[k]) && decide (mc[k] < 1152921504606846976))) := by
  unfold smB
  rw [List.take_succ_eq_append_getElem h, ← Bool.decide_and, ← Bool.decide_and]
  congr 1
  apply propext
  constructor
  · rintro ⟨h1, h2, h3⟩
    exact ⟨⟨h1, h2, fun c hc => h3 c (List.mem_append_left _ hc)⟩, h3 _ (List.mem_append_right _ (List.mem_singleton.2 rfl))⟩
  · rintro ⟨⟨h1, h2, h3⟩, h4⟩
    refine ⟨h1, h2, fun c hc => ?_⟩
    rcases List.mem_append.1 hc with h5 | h5
    · exact h3 c h5
    · rw [List.mem_singleton.1 h5]; exact h4
set_option maxHeartbeats 16000000 in
set_option maxRecDepth 100000 in
theorem LinAdds.small (A2 : Option Addr) (c2 : Nat) (mc : List Int) (mm : Int) (w : World) (gb gx gy : Nat) (vt vu vx vy : Value) (ts us X : List Int) (M : Int) (K0 : Act → World → Prop) (Q : Exit → Act → World → Prop) (hr2 : Kd.C (Kd.int .i64) w A2 mc.length mc) (hn : (mc.length : Int) ≤ 50)
    (u0 u1 u2 u3 u4 u6 u7 u8 u9 u10 u12 u13 u14 u15 u16 u19 u20 u21 u22 u23 u24 u25 u26 u27 u28 u29 u30 u31 u32 u33 u34 u35 u36 u37 u38 u39 u40 u41 u42 u43 u44 u45 u46 u47 u48 u49 u50 u51 u52 u53 u54 u55 u56 u57 u58 u59 u60 u61 u62 u63 u64 u65 u66 u67 u68 u69 u70 u71 u72 u73 u74 u75 u76 u77 u78 u79 u80 u81 u82 u83 u84 u85 u86 u87 u88 u89 u90 u91 u92 u93 u94 u95 u96 u97 u98 u99 u100 u101 u102 u103 u104 u105 u106 u107 u108 u109 u110 u111 u112 u113 u114 u115 u116 u117 u118 u119 u120 u121 u122 u123 u124 u125 u126 u127 u128 u129 u130 u131 u132 u133 u134 u135 u136 u137 u138 u139 u140 u141 u142 u143 u144 u145 u146 u147 u148 u149 u150 u151 u152 u153 u154 u155 u156 u157 u158 u159 u160 u161 u162 u163 u164 u165 u166 u167 u168 u169 u170 u171 u172 u173 u174 u175 u176 u177 u178 u179 u180 u181 u182 u183 u184 u185 u186 u187 u188 u189 u190 u219 u220 u221 u222 u223 u224 u225 u226 u227 u228 u229 u230 u231 u232 u233 u234 u235 u236 : Value)
    (hexit : ∀ (u18 u191 u192 u193 u194 u195 u196 u197 u198 u199 u200 u201 u202 u203 u204 u205 u206 u207 u208 u209 u210 u211 u212 u213 u214 u215 u216 u217 u218 : Value) (w' : World), TW w w' gb gx gy A2 mc.length c2 mm vt vu ts us vx X M vy → K0 ⟨List.toArray (u0 :: u1 :: u2 :: u3 :: u4 :: .pointer (some ⟨gb, 0, none⟩) :: u6 :: u7 :: u8 :: u9 :: u10 :: .int .i64 (mc.length : Int) :: u12 :: u13 :: u14 :: u15 :: u16 :: .bool (smB mm mc mc.length) :: u18 :: u19 :: u20 :: u21 :: u22 :: u23 :: u24 :: u25 :: u26 :: u27 :: u28 :: u29 :: u30 :: u31 :: u32 :: u33 :: u34 :: u35 :: u36 :: u37 :: u38 :: u39 :: u40 :: u41 :: u42 :: u43 :: u44 :: u45 :: u46 :: u47 :: u48 :: u49 :: u50 :: u51 :: u52 :: u53 :: u54 :: u55 :: u56 :: u57 :: u58 :: u59 :: u60 :: u61 :: u62 :: u63 :: u64 :: u65 :: u66 :: u67 :: u68 :: u69 :: u70 :: u71 :: u72 :: u73 :: u74 :: u75 :: u76 :: u77 :: u78 :: u79 :: u80 :: u81 :: u82 :: u83 :: u84 :: u85 :: u86 :: u87 :: u88 :: u89 :: u90 :: u91 :: u92 :: u93 :: u94 :: u95 :: u96 :: u97 :: u98 :: u99 :: u100 :: u101 :: u102 :: u103 :: u104 :: u105 :: u106 :: u107 :: u108 :: u109 :: u110 :: u111 :: u112 :: u113 :: u114 :: u115 :: u116 :: u117 :: u118 :: u119 :: u120 :: u121 :: u122 :: u123 :: u124 :: u125 :: u126 :: u127 :: u128 :: u129 :: u130 :: u131 :: u132 :: u133 :: u134 :: u135 :: u136 :: u137 :: u138 :: u139 :: u140 :: u141 :: u142 :: u143 :: u144 :: u145 :: u146 :: u147 :: u148 :: u149 :: u150 :: u151 :: u152 :: u153 :: u154 :: u155 :: u156 :: u157 :: u158 :: u159 :: u160 :: u161 :: u162 :: u163 :: u164 :: u165 :: u166 :: u167 :: u168 :: u169 :: u170 :: u171 :: u172 :: u173 :: u174 :: u175 :: u176 :: u177 :: u178 :: u179 :: u180 :: u181 :: u182 :: u183 :: u184 :: u185 :: u186 :: u187 :: u188 :: u189 :: u190 :: u191 :: u192 :: u193 :: u194 :: u195 :: u196 :: u197 :: u198 :: u199 :: u200 :: u201 :: u202 :: u203 :: u204 :: u205 :: u206 :: u207 :: u208 :: u209 :: u210 :: u211 :: u212 :: u213 :: u214 :: u215 :: u216 :: u217 :: u218 :: u219 :: u220 :: u221 :: u222 :: u223 :: u224 :: u225 :: u226 :: u227 :: u228 :: u229 :: u230 :: u231 :: u232 :: u233 :: u234 :: u235 :: u236 :: []), []⟩ w')
    (u191 u192 u193 u194 u195 u196 u197 u198 u199 u200 u201 u202 u203 u204 u205 u206 u207 u208 u209 u210 u211 u212 u213 u214 u215 u216 u217 u218 : Value) (w2 : World) (i : Nat) (hi : i = 0) (sm : Bool) (hsm : sm = smB mm mc 0) (hL : TW w w2 gb gx gy A2 mc.length c2 mm vt vu ts us vx X M vy) :
    Code.wp Try.prog (Code.loop smallBody) (Exit.inBlock 6 (Exit.then K0 Q)) ⟨List.toArray (u0 :: u1 :: u2 :: u3 :: u4 :: .pointer (some ⟨gb, 0, none⟩) :: u6 :: u7 :: u8 :: u9 :: u10 :: .int .i64 (mc.length : Int) :: u12 :: u13 :: u14 :: u15 :: u16 :: .bool sm :: .int .i64 (i : Int) :: u19 :: u20 :: u21 :: u22 :: u23 :: u24 :: u25 :: u26 :: u27 :: u28 :: u29 :: u30 :: u31 :: u32 :: u33 :: u34 :: u35 :: u36 :: u37 :: u38 :: u39 :: u40 :: u41 :: u42 :: u43 :: u44 :: u45 :: u46 :: u47 :: u48 :: u49 :: u50 :: u51 :: u52 :: u53 :: u54 :: u55 :: u56 :: u57 :: u58 :: u59 :: u60 :: u61 :: u62 :: u63 :: u64 :: u65 :: u66 :: u67 :: u68 :: u69 :: u70 :: u71 :: u72 :: u73 :: u74 :: u75 :: u76 :: u77 :: u78 :: u79 :: u80 :: u81 :: u82 :: u83 :: u84 :: u85 :: u86 :: u87 :: u88 :: u89 :: u90 :: u91 :: u92 :: u93 :: u94 :: u95 :: u96 :: u97 :: u98 :: u99 :: u100 :: u101 :: u102 :: u103 :: u104 :: u105 :: u106 :: u107 :: u108 :: u109 :: u110 :: u111 :: u112 :: u113 :: u114 :: u115 :: u116 :: u117 :: u118 :: u119 :: u120 :: u121 :: u122 :: u123 :: u124 :: u125 :: u126 :: u127 :: u128 :: u129 :: u130 :: u131 :: u132 :: u133 :: u134 :: u135 :: u136 :: u137 :: u138 :: u139 :: u140 :: u141 :: u142 :: u143 :: u144 :: u145 :: u146 :: u147 :: u148 :: u149 :: u150 :: u151 :: u152 :: u153 :: u154 :: u155 :: u156 :: u157 :: u158 :: u159 :: u160 :: u161 :: u162 :: u163 :: u164 :: u165 :: u166 :: u167 :: u168 :: u169 :: u170 :: u171 :: u172 :: u173 :: u174 :: u175 :: u176 :: u177 :: u178 :: u179 :: u180 :: u181 :: u182 :: u183 :: u184 :: u185 :: u186 :: u187 :: u188 :: u189 :: u190 :: u191 :: u192 :: u193 :: u194 :: u195 :: u196 :: u197 :: u198 :: u199 :: u200 :: u201 :: u202 :: u203 :: u204 :: u205 :: u206 :: u207 :: u208 :: u209 :: u210 :: u211 :: u212 :: u213 :: u214 :: u215 :: u216 :: u217 :: u218 :: u219 :: u220 :: u221 :: u222 :: u223 :: u224 :: u225 :: u226 :: u227 :: u228 :: u229 :: u230 :: u231 :: u232 :: u233 :: u234 :: u235 :: u236 :: []), []⟩ w2 := by
  subst hi
  conv => arg 2; arg 1; whnf
  have HR2 := Aside0.mk hr2
  have HE := Aside0.mk hexit
  have L0 := Aside0.mk hL
  have HSM := Aside0.mk hsm
  clear hr2 hexit hL hsm
  go_loopg [17, 18] (mc.length + 1) (fun kq v17 v18 w' => ∃ (k : Nat) (b : Bool), v17 = .bool b ∧ v18 = .int .i64 (k : Int) ∧ Aside0 (b = smB mm mc k) ∧ Aside0 (k ≤ mc.length) ∧ Aside0 (k + kq = mc.length + 1) ∧ Aside0 (TW w w' gb gx gy A2 mc.length c2 mm vt vu ts us vx X M vy))
  case atStart => exact ⟨0, sm, rfl, rfl, HSM, ⟨Nat.zero_le _⟩, ⟨by omega⟩, L0⟩
  case round =>
    clear L0 HSM
    obtain ⟨k, b, rfl, rfl, HB, HI, HQ, HL⟩ := hrel
    cases gk with
    | zero => exact absurd HI.out (by have := HQ.out; omega)
    | succ k1 =>
      by_cases hi : k < mc.length
      · have hm0 := (blk_cell HL.out.aw.bx 0).trans rfl
        have z1 : (0 ≤ (k : Int)) = True := eq_true (by omega)
        have z2 : ((k : Int) < (mc.length : Int)) = True := eq_true (by omega)
        have hi9 : (k : Int) ≤ 50 := by omega
        obtain ⟨ax, rfl, hc0⟩ := C_int HR2.out k hi
        have hcx := keepc HL.out.aw.bel hc0
        have HN := Aside0.mk (smB_next (mm := mm) hi)
        obtain ⟨x, hx⟩ : ∃ x, mc[k] = x := ⟨_, rfl⟩
        rw [hx] at hcx HN
        have HII := Aside0.mk hi
        clear hc0 hx hi
        have hcs : Aside0 (b = false ∨ (b = true ∧ decide (-1152921504606846976 < x) = false) ∨ (b = true ∧ decide (-1152921504606846976 < x) = true ∧ decide (x < 1152921504606846976) = false) ∨ (b = true ∧ decide (-1152921504606846976 < x) = true ∧ decide (x < 1152921504606846976) = true)) := ⟨by
          cases b <;> cases decide (-1152921504606846976 < x) <;> cases decide (x < 1152921504606846976) <;> simp⟩
        rcases hcs.out with rfl | ⟨rfl, g1⟩ | ⟨rfl, g1, g2⟩ | ⟨rfl, g1, g2⟩
        all_goals
          clear hcs
          go_wp2_with fail
          try (go_quiet (fail))
          try (have HL2 := Aside0.mk (HL.out.drewN nq); clear HL; have HL := HL2; clear HL2; generalize wr.drewN nq = w9 at *)
          try clear hm0 hcx
          try go_wp2_with fail
          go_roundg k1
          case measure => have := HQ.out; omega
          case rel => exact ⟨k + 1, _, rfl, by go_num, ⟨by rw [HN.out, ← HB.out]; simp [*]⟩, ⟨HII.out⟩, ⟨by have := HQ.out; omega⟩, HL⟩
      · have hie : k = mc.length := by have := HI.out; omega
        subst hie
        have HB2 := HB.out
        subst HB2
        clear hi
        go_wp2_with fail
        exact HE.out _ _ _ _ _ _ _ _ _ _ _ _ _ _ _ _ _ _ _ _ _ _ _ _ _ _ _ _ _ _ HL.out
end Go.Proofs.Ythfkajolockcgaa.Adds
