/- Part of the proofs about package mem. -/
import Derived.Test.YtgpekomaoeockaaMemL1
import Derived.Test.YtgpekomaoeockaaMemL2
import Derived.Test.YtgpekomaoeockaaMemL3
import Derived.Deep.DeepCutAuto
import Derived.Deep.CutBlock
import Derived.RegionTactic
import Derived.ChangeAlike
namespace Go.Proofs.Ytgpekomaoeockaa.MemC
open Go.RowKit Go.Proofs.YtgpekomaoeockaaW.PrintWords Go.Proofs.YtgpekomaoeockaaW.PrintLast Go.Proofs.YtgpekomaoeockaaW.PrintMore Go.Proofs.Ytgpekomaoeockaa.QMemSizes
set_option linter.unusedVariables false
set_option maxHeartbeats 16000000 in
set_option maxRecDepth 100000 in
/-- The law's loop, from any round's head on. -/
theorem MemPlays.loop (s h : Int) (A0 : Option Addr) (c0 c1 c2 p sb hb : Nat) (acts : List S50) (w : World) (K0 : Act → World → Prop) (R0 : Ending → World → Prop) (hr0 : Kd.C k50 w A0 acts.length acts) (hl0 : acts.length * 24 ≤ 140737488351232) (l1 : c1 ≤ 3000) (l2 : c2 ≤ 3000)
    (hexit : ∀ (u3 u4 u5 u6 u10 u11 u12 u13 u14 u15 u16 u17 u18 u19 u20 u21 u22 u23 u24 u25 u26 u27 u28 u29 u30 u31 u32 u33 u34 u35 u36 u37 u38 u39 u40 u41 u42 u43 u44 u45 u46 u47 u48 u49 u50 u51 u52 u53 u54 u55 u56 u57 u58 u59 u60 u61 u62 u63 u64 u65 u66 u67 u68 u69 u70 u71 u72 u73 u74 u75 u76 u77 u78 u79 u80 u81 u82 u83 u84 u85 u86 u87 u88 u89 u90 u91 u92 u93 u94 u95 u96 u97 u98 u99 u100 u101 u102 u103 u104 u105 u106 u107 u108 u109 u110 u111 u112 u113 u114 u115 u116 u117 u118 u119 u120 u121 u122 u123 u124 u125 u126 u127 u128 u129 u130 u131 u132 u133 u134 u135 u136 u137 u138 u139 u140 u141 u142 u143 u144 u145 u146 u147 u148 u149 u150 u151 u152 u153 u154 u155 u156 u157 u158 u159 u160 u161 u162 u163 u164 u165 u166 u167 u168 u169 u170 u171 u172 u173 u174 u175 u176 u177 u178 u179 u180 u181 u182 u183 u184 u185 u186 u187 u188 u189 u190 u191 u192 u193 u194 u195 u196 u197 u198 u199 u200 u201 u202 u203 u204 u205 u206 u207 u208 u209 u210 u211 u212 u213 u214 u215 u216 u217 u218 u219 u220 u221 u222 u223 u224 u225 u226 : Value) (w' : World), Below w.heap.size w w' → K0 ⟨List.toArray (.int .i64 s :: .int .i64 h :: .slice A0 acts.length c0 :: u3 :: u4 :: u5 :: u6 :: .pointer (some ⟨p, 0, none⟩) :: .int .i64 (c2 : Int) :: .int .i64 (c1 : Int) :: u10 :: u11 :: u12 :: u13 :: u14 :: u15 :: u16 :: u17 :: u18 :: u19 :: u20 :: u21 :: u22 :: u23 :: u24 :: u25 :: u26 :: u27 :: u28 :: u29 :: u30 :: u31 :: u32 :: u33 :: u34 :: u35 :: u36 :: u37 :: u38 :: u39 :: u40 :: u41 :: u42 :: u43 :: u44 :: u45 :: u46 :: u47 :: u48 :: u49 :: u50 :: u51 :: u52 :: u53 :: u54 :: u55 :: u56 :: u57 :: u58 :: u59 :: u60 :: u61 :: u62 :: u63 :: u64 :: u65 :: u66 :: u67 :: u68 :: u69 :: u70 :: u71 :: u72 :: u73 :: u74 :: u75 :: u76 :: u77 :: u78 :: u79 :: u80 :: u81 :: u82 :: u83 :: u84 :: u85 :: u86 :: u87 :: u88 :: u89 :: u90 :: u91 :: u92 :: u93 :: u94 :: u95 :: u96 :: u97 :: u98 :: u99 :: u100 :: u101 :: u102 :: u103 :: u104 :: u105 :: u106 :: u107 :: u108 :: u109 :: u110 :: u111 :: u112 :: u113 :: u114 :: u115 :: u116 :: u117 :: u118 :: u119 :: u120 :: u121 :: u122 :: u123 :: u124 :: u125 :: u126 :: u127 :: u128 :: u129 :: u130 :: u131 :: u132 :: u133 :: u134 :: u135 :: u136 :: u137 :: u138 :: u139 :: u140 :: u141 :: u142 :: u143 :: u144 :: u145 :: u146 :: u147 :: u148 :: u149 :: u150 :: u151 :: u152 :: u153 :: u154 :: u155 :: u156 :: u157 :: u158 :: u159 :: u160 :: u161 :: u162 :: u163 :: u164 :: u165 :: u166 :: u167 :: u168 :: u169 :: u170 :: u171 :: u172 :: u173 :: u174 :: u175 :: u176 :: u177 :: u178 :: u179 :: u180 :: u181 :: u182 :: u183 :: u184 :: u185 :: u186 :: u187 :: u188 :: u189 :: u190 :: u191 :: u192 :: u193 :: u194 :: u195 :: u196 :: u197 :: u198 :: u199 :: u200 :: u201 :: u202 :: u203 :: u204 :: u205 :: u206 :: u207 :: u208 :: u209 :: u210 :: u211 :: u212 :: u213 :: u214 :: u215 :: u216 :: u217 :: u218 :: u219 :: u220 :: u221 :: u222 :: u223 :: u224 :: u225 :: u226 :: []), []⟩ w')
    (u3 u4 u5 u6 u13 u14 u15 u16 u17 u18 u19 u20 u21 u22 u23 u24 u25 u26 u27 u28 u29 u30 u31 u32 u33 u34 u35 u36 u37 u38 u39 u40 u41 u42 u43 u44 u45 u46 u47 u48 u49 u50 u51 u52 u53 u54 u55 u56 u57 u58 u59 u60 u61 u62 u63 u64 u65 u66 u67 u68 u69 u70 u71 u72 u73 u74 u75 u76 u77 u78 u79 u80 u81 u82 u83 u84 u85 u86 u87 u88 u89 u90 u91 u92 u93 u94 u95 u96 u97 u98 u99 u100 u101 u102 u103 u104 u105 u106 u107 u108 u109 u110 u111 u112 u113 u114 u115 u116 u117 u118 u119 u120 u121 u122 u123 u124 u125 u126 u127 u128 u129 u130 u131 u132 u133 u134 u135 u136 u137 u138 u139 u140 u141 u142 u143 u144 u145 u146 u147 u148 u149 u150 u151 u152 u153 u154 u155 u156 u157 u158 u159 u160 u161 u162 u163 u164 u165 u166 u167 u168 u169 u170 u171 u172 u173 u174 u175 u176 u177 u178 u179 u180 u181 u182 u183 u184 u185 u186 u187 u188 u189 u190 u191 u192 u193 u194 u195 u196 u197 u198 u199 u200 u201 u202 u203 u204 u205 u206 u207 u208 u209 u210 u211 u212 u213 u214 u215 u216 u217 u218 u219 u220 u221 u222 u223 u224 u225 u226 : Value) (i : Nat) (ys : List LReg) (lv : Value) (A : Option Addr) (cap : Nat) (w2 : World) (hi : i ≤ 40) (hy : ys.length ≤ i) (hL : PL w w2 w.heap.size p sb hb (List.replicate c1 0) c2 ys lv (.slice A ys.length cap)) :
    Code.wp Try.prog (Code.loop playsBody) (Exit.inBlock 0 (Exit.then K0 (bodyPost Try.prog Try.f3 R0))) ⟨List.toArray (.int .i64 s :: .int .i64 h :: .slice A0 acts.length c0 :: u3 :: u4 :: u5 :: u6 :: .pointer (some ⟨p, 0, none⟩) :: .int .i64 (c2 : Int) :: .int .i64 (c1 : Int) :: .slice A ys.length cap :: .int .i64 ((tot (regs ys) : Nat) : Int) :: .int .i64 (i : Int) :: u13 :: u14 :: u15 :: u16 :: u17 :: u18 :: u19 :: u20 :: u21 :: u22 :: u23 :: u24 :: u25 :: u26 :: u27 :: u28 :: u29 :: u30 :: u31 :: u32 :: u33 :: u34 :: u35 :: u36 :: u37 :: u38 :: u39 :: u40 :: u41 :: u42 :: u43 :: u44 :: u45 :: u46 :: u47 :: u48 :: u49 :: u50 :: u51 :: u52 :: u53 :: u54 :: u55 :: u56 :: u57 :: u58 :: u59 :: u60 :: u61 :: u62 :: u63 :: u64 :: u65 :: u66 :: u67 :: u68 :: u69 :: u70 :: u71 :: u72 :: u73 :: u74 :: u75 :: u76 :: u77 :: u78 :: u79 :: u80 :: u81 :: u82 :: u83 :: u84 :: u85 :: u86 :: u87 :: u88 :: u89 :: u90 :: u91 :: u92 :: u93 :: u94 :: u95 :: u96 :: u97 :: u98 :: u99 :: u100 :: u101 :: u102 :: u103 :: u104 :: u105 :: u106 :: u107 :: u108 :: u109 :: u110 :: u111 :: u112 :: u113 :: u114 :: u115 :: u116 :: u117 :: u118 :: u119 :: u120 :: u121 :: u122 :: u123 :: u124 :: u125 :: u126 :: u127 :: u128 :: u129 :: u130 :: u131 :: u132 :: u133 :: u134 :: u135 :: u136 :: u137 :: u138 :: u139 :: u140 :: u141 :: u142 :: u143 :: u144 :: u145 :: u146 :: u147 :: u148 :: u149 :: u150 :: u151 :: u152 :: u153 :: u154 :: u155 :: u156 :: u157 :: u158 :: u159 :: u160 :: u161 :: u162 :: u163 :: u164 :: u165 :: u166 :: u167 :: u168 :: u169 :: u170 :: u171 :: u172 :: u173 :: u174 :: u175 :: u176 :: u177 :: u178 :: u179 :: u180 :: u181 :: u182 :: u183 :: u184 :: u185 :: u186 :: u187 :: u188 :: u189 :: u190 :: u191 :: u192 :: u193 :: u194 :: u195 :: u196 :: u197 :: u198 :: u199 :: u200 :: u201 :: u202 :: u203 :: u204 :: u205 :: u206 :: u207 :: u208 :: u209 :: u210 :: u211 :: u212 :: u213 :: u214 :: u215 :: u216 :: u217 :: u218 :: u219 :: u220 :: u221 :: u222 :: u223 :: u224 :: u225 :: u226 :: []), []⟩ w2 := by
  conv => arg 2; arg 1; whnf
  have HR := Aside0.mk hr0
  have L1 := Aside0.mk hL
  have HE := Aside0.mk hexit
  have HI0 := Aside0.mk hi
  have HY0 := Aside0.mk hy
  clear hr0 hL hexit hi hy
  go_loopg [10, 11, 12] (41 - i) (fun kq v10 v11 v12 w' => ∃ (i : Nat) (ys : List LReg) (lv : Value) (A : Option Addr) (cap : Nat), v10 = .slice A ys.length cap ∧ v12 = .int .i64 (i : Int) ∧ v11 = .int .i64 ((tot (regs ys) : Nat) : Int) ∧ Aside0 (i ≤ 40) ∧ Aside0 (i + kq = 41) ∧ Aside0 (ys.length ≤ i) ∧ Aside0 (PL w w' w.heap.size p sb hb (List.replicate c1 0) c2 ys lv (.slice A ys.length cap)))
  case atStart => exact ⟨i, ys, _, _, _, rfl, rfl, rfl, HI0, ⟨by have := HI0.out; omega⟩, HY0, L1⟩
  case round =>
    clear L1 HI0 HY0
    obtain ⟨i, ys, lv, A, cap, rfl, rfl, rfl, HI, HQ, HY, HL⟩ := hrel
    cases gk with
    | zero => exact absurd HI.out (by have := HQ.out; omega)
    | succ k1 =>
      by_cases hc : i < acts.length ∧ i < 40
      · obtain ⟨hc1, hc2⟩ := hc
        have z2 : ((i : Int) < (acts.length : Int)) = True := eq_true (by omega)
        have z3 : ((i : Int) < 40) = True := eq_true (by omega)
        go_upto_block 1 with fail
        have HC2 := Aside0.mk hc2
        have hi9 : (i : Int) ≤ 40 := by omega
        by_cases w0 : (rd_T50 acts (i : Int)).f0 = 0
        · refine MemPlays.give s h A0 c0 c1 c2 p sb hb acts w _ _ _ _ HR.out hl0 l1 l2 i hc1 hc2 w0 _ _ _ _ _ _ _ _ _ _ _ _ _ _ _ _ _ _ _ _ _ ?_ _ _ _ _ _ _ _ _ _ _ _ _ _ _ _ _ _ _ _ _ _ _ _ _ _ _ _ _ _ _ _ _ _ _ _ _ _ _ _ _ _ _ _ _ _ _ _ _ _ _ _ _ _ _ _ _ _ _ _ _ _ _ _ _ _ _ _ _ _ _ _ _ _ _ _ _ _ _ _ _ _ _ _ _ _ _ _ _ _ _ _ _ _ _ _ _ _ _ _ _ _ _ _ _ _ _ _ _ _ _ _ _ _ _ _ _ _ _ _ _ _ _ _ _ _ _ _ _ _ _ _ _ _ _ _ _ _ _ _ _ _ _ _ _ _ _ _ _ _ _ _ _ _ _ _ _ _ _ _ _ _ _ _ _ _ _ _ _ _ _ _ _ _ _ _ _ _ _ _ _ _ _ _ _ _ _ _ _ _ _ _ _ _ _ _ _ _ ys lv A cap wr HY.out HL.out
          intros
          rename_i t M zs mv B bap w' e1 e2 e3 e4
          have E3 := Aside0.mk e3
          subst e1
          subst e2
          have E4 := Aside0.mk e4
          clear e3 e4 w0 hc1 hc2
          go_wp2_with fail
          go_roundg k1
          case measure => have := HQ.out; omega
          case rel => exact ⟨i + 1, zs, mv, B, bap, rfl, by go_num, rfl, ⟨HC2.out⟩, ⟨by have := HQ.out; omega⟩, ⟨E3.out⟩, E4⟩
        · by_cases w1 : (rd_T50 acts (i : Int)).f0 = 1
          · refine MemPlays.drop_ s h A0 c0 c1 c2 p sb hb acts w _ _ _ _ HR.out hl0 l1 l2 i hc1 hc2 w1 _ _ _ _ _ _ _ _ _ _ _ _ _ _ _ _ _ _ _ _ _ ?_ _ _ _ _ _ _ _ _ _ _ _ _ _ _ _ _ _ _ _ _ _ _ _ _ _ _ _ _ _ _ _ _ _ _ _ _ _ _ _ _ _ _ _ _ _ _ _ _ _ _ _ _ _ _ _ _ _ _ _ _ _ _ _ _ _ _ _ _ _ _ _ _ _ _ _ _ _ _ _ _ _ _ _ _ _ _ _ _ _ _ _ _ _ _ _ _ _ _ _ _ _ _ _ _ _ _ _ _ _ _ _ _ _ _ _ _ _ _ _ _ _ _ _ _ _ _ _ _ _ _ _ _ _ _ _ _ _ _ _ _ _ _ _ _ _ _ _ _ _ _ _ _ _ _ _ _ _ _ _ _ _ _ _ _ _ _ _ _ _ _ _ _ _ _ _ _ _ _ _ _ _ _ _ _ _ _ _ _ _ _ _ _ _ _ _ _ _ ys lv A cap wr HY.out HL.out
            intros
            rename_i t M zs mv B bap w' e1 e2 e3 e4
            have E3 := Aside0.mk e3
            subst e1
            subst e2
            have E4 := Aside0.mk e4
            clear e3 e4 w0 hc1 hc2
            go_wp2_with fail
            go_roundg k1
            case measure => have := HQ.out; omega
            case rel => exact ⟨i + 1, zs, mv, B, bap, rfl, by go_num, rfl, ⟨HC2.out⟩, ⟨by have := HQ.out; omega⟩, ⟨E3.out⟩, E4⟩
          · refine MemPlays.other s h A0 c0 c1 c2 p sb hb acts w _ _ _ _ HR.out hl0 l1 l2 i hc1 hc2 ⟨w0, w1⟩ _ _ _ _ _ _ _ _ _ _ _ _ _ _ _ _ _ _ _ _ _ ?_ _ _ _ _ _ _ _ _ _ _ _ _ _ _ _ _ _ _ _ _ _ _ _ _ _ _ _ _ _ _ _ _ _ _ _ _ _ _ _ _ _ _ _ _ _ _ _ _ _ _ _ _ _ _ _ _ _ _ _ _ _ _ _ _ _ _ _ _ _ _ _ _ _ _ _ _ _ _ _ _ _ _ _ _ _ _ _ _ _ _ _ _ _ _ _ _ _ _ _ _ _ _ _ _ _ _ _ _ _ _ _ _ _ _ _ _ _ _ _ _ _ _ _ _ _ _ _ _ _ _ _ _ _ _ _ _ _ _ _ _ _ _ _ _ _ _ _ _ _ _ _ _ _ _ _ _ _ _ _ _ _ _ _ _ _ _ _ _ _ _ _ _ _ _ _ _ _ _ _ _ _ _ _ _ _ _ _ _ _ _ _ _ _ _ _ _ _ ys lv A cap wr HY.out HL.out
            intros
            rename_i t M zs mv B bap w' e1 e2 e3 e4
            have E3 := Aside0.mk e3
            subst e1
            subst e2
            have E4 := Aside0.mk e4
            clear e3 e4 w0 hc1 hc2
            go_wp2_with fail
            go_roundg k1
            case measure => have := HQ.out; omega
            case rel => exact ⟨i + 1, zs, mv, B, bap, rfl, by go_num, rfl, ⟨HC2.out⟩, ⟨by have := HQ.out; omega⟩, ⟨E3.out⟩, E4⟩
      · --EXIT
        have hcases : Aside0 ((decide (i < acts.length) = true ∧ decide ((i : Int) < 40) = false) ∨ decide (i < acts.length) = false) := ⟨by
          rcases Nat.lt_or_ge i acts.length with h | h
          · exact .inl ⟨decide_eq_true h, decide_eq_false (by omega)⟩
          · exact .inr (decide_eq_false (by omega))⟩
        clear hc
        rcases hcases.out with ⟨d4, d5⟩ | d4
        all_goals
          clear hcases
          go_wp2_with fail
          apply HE.out
          exact HL.out.bel
end Go.Proofs.Ytgpekomaoeockaa.MemC
