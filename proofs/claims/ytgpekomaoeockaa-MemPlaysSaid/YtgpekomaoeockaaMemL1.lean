/- Part of the proofs about package mem. -/
import Derived.Test.YtgpekomaoeockaaMemL0
import Derived.Deep.DeepCutAuto
import Derived.Deep.CutBlock
import Derived.RegionTactic
import Derived.ChangeAlike
namespace Go.Proofs.Ytgpekomaoeockaa.MemC
open Go.RowKit Go.Proofs.YtgpekomaoeockaaW.PrintWords Go.Proofs.YtgpekomaoeockaaW.PrintLast Go.Proofs.YtgpekomaoeockaaW.PrintMore Go.Proofs.Ytgpekomaoeockaa.QMemSizes
set_option linter.unusedVariables false
set_option maxHeartbeats 16000000 in
set_option maxRecDepth 100000 in
/-- One act of the law's loop (give). -/
theorem MemPlays.give (s h : Int) (A0 : Option Addr) (c0 c1 c2 p sb hb : Nat) (acts : List S50) (w : World) (K1 K2 K0 : Act → World → Prop) (R0 : Ending → World → Prop) (hr0 : Kd.C k50 w A0 acts.length acts) (hl0 : acts.length * 24 ≤ 140737488351232) (l1 : c1 ≤ 3000) (l2 : c2 ≤ 3000)
    (i : Nat) (hc1 : i < acts.length) (hi40 : i < 40) (hcase : (rd_T50 acts (i : Int)).f0 = 0) (u3 u4 u5 u24 u25 u26 u27 u28 u29 u30 u31 u32 u33 u34 u35 u36 u37 u38 u39 u40 u226 : Value)
    (hK : ∀ {u6 u13 u14 u15 u16 u17 u18 u19 u20 u21 u22 u23 u41 u42 u43 u44 u45 u46 u47 u48 u49 u50 u51 u52 u53 u54 u55 u56 u57 u58 u59 u60 u61 u62 u63 u64 u65 u66 u67 u68 u69 u70 u71 u72 u73 u74 u75 u76 u77 u78 u79 u80 u81 u82 u83 u84 u85 u86 u87 u88 u89 u90 u91 u92 u93 u94 u95 u96 u97 u98 u99 u100 u101 u102 u103 u104 u105 u106 u107 u108 u109 u110 u111 u112 u113 u114 u115 u116 u117 u118 u119 u120 u121 u122 u123 u124 u125 u126 u127 u128 u129 u130 u131 u132 u133 u134 u135 u136 u137 u138 u139 u140 u141 u142 u143 u144 u145 u146 u147 u148 u149 u150 u151 u152 u153 u154 u155 u156 u157 u158 u159 u160 u161 u162 u163 u164 u165 u166 u167 u168 u169 u170 u171 u172 u173 u174 u175 u176 u177 u178 u179 u180 u181 u182 u183 u184 u185 u186 u187 u188 u189 u190 u191 u192 u193 u194 u195 u196 u197 u198 u199 u200 u201 u202 u203 u204 u205 u206 u207 u208 u209 u210 u211 u212 u213 u214 u215 u216 u217 u218 u219 u220 u221 u222 u223 u224 u225 : Value} {t : Int} {M : Nat} {zs : List LReg} {mv : Value} {B : Option Addr} {bap : Nat} {w' : World}, t = ((tot (regs zs) : Nat) : Int) → zs.length = M → M ≤ i + 1 → PL w w' w.heap.size p sb hb (List.replicate c1 0) c2 zs mv (.slice B M bap) → K1 ⟨List.toArray (.int .i64 s :: .int .i64 h :: .slice A0 acts.length c0 :: u3 :: u4 :: u5 :: u6 :: .pointer (some ⟨p, 0, none⟩) :: .int .i64 (c2 : Int) :: .int .i64 (c1 : Int) :: .slice B M bap :: .int .i64 t :: .int .i64 (i : Int) :: u13 :: u14 :: u15 :: u16 :: u17 :: u18 :: u19 :: u20 :: u21 :: u22 :: u23 :: u24 :: u25 :: u26 :: u27 :: u28 :: u29 :: u30 :: u31 :: u32 :: u33 :: u34 :: u35 :: u36 :: u37 :: u38 :: u39 :: u40 :: u41 :: u42 :: u43 :: u44 :: u45 :: u46 :: u47 :: u48 :: u49 :: u50 :: u51 :: u52 :: u53 :: u54 :: u55 :: u56 :: u57 :: u58 :: u59 :: u60 :: u61 :: u62 :: u63 :: u64 :: u65 :: u66 :: u67 :: u68 :: u69 :: u70 :: u71 :: u72 :: u73 :: u74 :: u75 :: u76 :: u77 :: u78 :: u79 :: u80 :: u81 :: u82 :: u83 :: u84 :: u85 :: u86 :: u87 :: u88 :: u89 :: u90 :: u91 :: u92 :: u93 :: u94 :: u95 :: u96 :: u97 :: u98 :: u99 :: u100 :: u101 :: u102 :: u103 :: u104 :: u105 :: u106 :: u107 :: u108 :: u109 :: u110 :: u111 :: u112 :: u113 :: u114 :: u115 :: u116 :: u117 :: u118 :: u119 :: u120 :: u121 :: u122 :: u123 :: u124 :: u125 :: u126 :: u127 :: u128 :: u129 :: u130 :: u131 :: u132 :: u133 :: u134 :: u135 :: u136 :: u137 :: u138 :: u139 :: u140 :: u141 :: u142 :: u143 :: u144 :: u145 :: u146 :: u147 :: u148 :: u149 :: u150 :: u151 :: u152 :: u153 :: u154 :: u155 :: u156 :: u157 :: u158 :: u159 :: u160 :: u161 :: u162 :: u163 :: u164 :: u165 :: u166 :: u167 :: u168 :: u169 :: u170 :: u171 :: u172 :: u173 :: u174 :: u175 :: u176 :: u177 :: u178 :: u179 :: u180 :: u181 :: u182 :: u183 :: u184 :: u185 :: u186 :: u187 :: u188 :: u189 :: u190 :: u191 :: u192 :: u193 :: u194 :: u195 :: u196 :: u197 :: u198 :: u199 :: u200 :: u201 :: u202 :: u203 :: u204 :: u205 :: u206 :: u207 :: u208 :: u209 :: u210 :: u211 :: u212 :: u213 :: u214 :: u215 :: u216 :: u217 :: u218 :: u219 :: u220 :: u221 :: u222 :: u223 :: u224 :: u225 :: u226 :: []), []⟩ w')
    (u6 u13 u14 u15 u16 u17 u18 u19 u20 u21 u22 u23 u41 u42 u43 u44 u45 u46 u47 u48 u49 u50 u51 u52 u53 u54 u55 u56 u57 u58 u59 u60 u61 u62 u63 u64 u65 u66 u67 u68 u69 u70 u71 u72 u73 u74 u75 u76 u77 u78 u79 u80 u81 u82 u83 u84 u85 u86 u87 u88 u89 u90 u91 u92 u93 u94 u95 u96 u97 u98 u99 u100 u101 u102 u103 u104 u105 u106 u107 u108 u109 u110 u111 u112 u113 u114 u115 u116 u117 u118 u119 u120 u121 u122 u123 u124 u125 u126 u127 u128 u129 u130 u131 u132 u133 u134 u135 u136 u137 u138 u139 u140 u141 u142 u143 u144 u145 u146 u147 u148 u149 u150 u151 u152 u153 u154 u155 u156 u157 u158 u159 u160 u161 u162 u163 u164 u165 u166 u167 u168 u169 u170 u171 u172 u173 u174 u175 u176 u177 u178 u179 u180 u181 u182 u183 u184 u185 u186 u187 u188 u189 u190 u191 u192 u193 u194 u195 u196 u197 u198 u199 u200 u201 u202 u203 u204 u205 u206 u207 u208 u209 u210 u211 u212 u213 u214 u215 u216 u217 u218 u219 u220 u221 u222 u223 u224 u225 : Value) (ys : List LReg) (lv : Value) (A : Option Addr) (cap : Nat) (wr : World) (hy : ys.length ≤ i) (hL : PL w wr w.heap.size p sb hb (List.replicate c1 0) c2 ys lv (.slice A ys.length cap)) :
    Code.wp Try.prog playsBlock (Exit.then K1 (Exit.then K2 (Exit.inBlock 0 (Exit.then K0 (bodyPost Try.prog Try.f3 R0))))) ⟨List.toArray (.int .i64 s :: .int .i64 h :: .slice A0 acts.length c0 :: u3 :: u4 :: u5 :: u6 :: .pointer (some ⟨p, 0, none⟩) :: .int .i64 (c2 : Int) :: .int .i64 (c1 : Int) :: .slice A ys.length cap :: .int .i64 ((tot (regs ys) : Nat) : Int) :: .int .i64 (i : Int) :: u13 :: u14 :: u15 :: u16 :: u17 :: u18 :: u19 :: u20 :: u21 :: u22 :: u23 :: u24 :: u25 :: u26 :: u27 :: u28 :: u29 :: u30 :: u31 :: u32 :: u33 :: u34 :: u35 :: u36 :: u37 :: u38 :: u39 :: u40 :: u41 :: u42 :: u43 :: u44 :: u45 :: u46 :: u47 :: u48 :: u49 :: u50 :: u51 :: u52 :: u53 :: u54 :: u55 :: u56 :: u57 :: u58 :: u59 :: u60 :: u61 :: u62 :: u63 :: u64 :: u65 :: u66 :: u67 :: u68 :: u69 :: u70 :: u71 :: u72 :: u73 :: u74 :: u75 :: u76 :: u77 :: u78 :: u79 :: u80 :: u81 :: u82 :: u83 :: u84 :: u85 :: u86 :: u87 :: u88 :: u89 :: u90 :: u91 :: u92 :: u93 :: u94 :: u95 :: u96 :: u97 :: u98 :: u99 :: u100 :: u101 :: u102 :: u103 :: u104 :: u105 :: u106 :: u107 :: u108 :: u109 :: u110 :: u111 :: u112 :: u113 :: u114 :: u115 :: u116 :: u117 :: u118 :: u119 :: u120 :: u121 :: u122 :: u123 :: u124 :: u125 :: u126 :: u127 :: u128 :: u129 :: u130 :: u131 :: u132 :: u133 :: u134 :: u135 :: u136 :: u137 :: u138 :: u139 :: u140 :: u141 :: u142 :: u143 :: u144 :: u145 :: u146 :: u147 :: u148 :: u149 :: u150 :: u151 :: u152 :: u153 :: u154 :: u155 :: u156 :: u157 :: u158 :: u159 :: u160 :: u161 :: u162 :: u163 :: u164 :: u165 :: u166 :: u167 :: u168 :: u169 :: u170 :: u171 :: u172 :: u173 :: u174 :: u175 :: u176 :: u177 :: u178 :: u179 :: u180 :: u181 :: u182 :: u183 :: u184 :: u185 :: u186 :: u187 :: u188 :: u189 :: u190 :: u191 :: u192 :: u193 :: u194 :: u195 :: u196 :: u197 :: u198 :: u199 :: u200 :: u201 :: u202 :: u203 :: u204 :: u205 :: u206 :: u207 :: u208 :: u209 :: u210 :: u211 :: u212 :: u213 :: u214 :: u215 :: u216 :: u217 :: u218 :: u219 :: u220 :: u221 :: u222 :: u223 :: u224 :: u225 :: u226 :: []), []⟩ wr := by
  conv => arg 2; whnf
  have HR := Aside0.mk hr0
  have HL := Aside0.mk hL
  have HK1 := Aside0.mk (@hK)
  have HY := Aside0.mk hy
  have HC2 := Aside0.mk hi40
  have hi9 : (i : Int) ≤ 40 := by omega
  clear hr0 hL hK hy
  have HRw := Kd.C_below HR.out HL.out.bel
  obtain ⟨ad, rfl, hx0, hx1, hx2⟩ := at_T50 HRw (i : Int) (by omega) (by omega)
  simp only [Int.toNat_natCast] at hx0 hx1 hx2
  have z1 : (0 ≤ (i : Int)) = True := eq_true (by omega)
  have z2 : ((i : Int) < (acts.length : Int)) = True := eq_true (by omega)
  obtain ⟨xw, xn, xa, hxw, hxn, hxa⟩ : ∃ xw xn xa, (rd_T50 acts (i : Int)).f0 = xw ∧ (rd_T50 acts (i : Int)).f1 = xn ∧ (rd_T50 acts (i : Int)).f2 = xa := ⟨_, _, _, rfl, rfl, rfl⟩
  rw [hxw] at hx0
  rw [hxn] at hx1
  rw [hxa] at hx2
  clear HRw hc1 hi40 hxn hxa
  go_wp2_with fail
  have HA6 := Aside0.mk (show (wr.alloc (Obj.cells #[Value.int IntKind.i64 xw, Value.int IntKind.i64 xn, Value.int IntKind.i64 xa] 28)).heap[wr.heap.size]? = some (.cells #[Value.int IntKind.i64 xw, Value.int IntKind.i64 xn, Value.int IntKind.i64 xa] 28 (0, 0)) from heap_alloc_new wr _)
  have HL6 := Aside0.mk (HL.out.below (below_alloc (Below.refl _ _) (Obj.cells #[Value.int IntKind.i64 xw, Value.int IntKind.i64 xn, Value.int IntKind.i64 xa] 28)))
  clear hx0 hx1 hx2 HL
  generalize wr.alloc (Obj.cells #[Value.int IntKind.i64 xw, Value.int IntKind.i64 xn, Value.int IntKind.i64 xa] 28) = w6 at HA6 HL6 ⊢
  generalize wr.heap.size = gb at HA6 ⊢
  go_loopg [14, 15] (ys.length + 1) (fun kq v14 v15 w' => ∃ (k : Nat) (a : Int), v15 = .int .i64 (k : Int) ∧ v14 = .int .i64 a ∧ Aside0 (AtR ys xn k a) ∧ Aside0 (k ≤ ys.length) ∧ Aside0 (k + kq = ys.length + 1) ∧ Aside0 (w'.heap[gb]? = some (.cells #[Value.int IntKind.i64 xw, Value.int IntKind.i64 xn, Value.int IntKind.i64 xa] 28 (0, 0))) ∧ Aside0 (PL w w' w.heap.size p sb hb (List.replicate c1 0) c2 ys lv (.slice A ys.length cap)))
  case atStart => exact ⟨0, -1, rfl, rfl, ⟨AtR.start _ _⟩, ⟨Nat.zero_le _⟩, ⟨by omega⟩, HA6, HL6⟩
  case round =>
    clear HA6 HL6
    obtain ⟨k, a, rfl, rfl, HAT, HK, HKQ, HA, HL⟩ := hrel
    cases gk with
    | zero => exact absurd HK.out (by have := HKQ.out; omega)
    | succ k2 =>
      by_cases hk : k < ys.length
      · obtain ⟨g, cap', hv, _⟩ := HL.out.form (by omega)
        injection hv with hv _ hcap
        subst hv
        subst hcap
        have hy0 := HL.out.id k hk
        have hn1 := (blk_cell HA.out 1).trans rfl
        have HK2 := Aside0.mk hk
        have y1 : (0 ≤ (k : Int)) = True := eq_true (by omega)
        have y2 : ((k : Int) < (ys.length : Int)) = True := eq_true (by omega)
        have hk9 : (k : Int) ≤ 40 := by have := HL.out.few; omega
        by_cases he : ys[k].1.1 = xn
        · have HE2 := Aside0.mk (HAT.out.yes hk he)
          have e1 : (ys[k].1.1 == xn) = true := beq_iff_eq.mpr he
          clear he
          go_wp2_with fail
          go_quiet (fail)
          go_wp2_with fail
          go_roundg k2
          case measure => have := HKQ.out; omega
          case rel => exact ⟨k + 1, _, by go_num, rfl, HE2, ⟨HK2.out⟩, ⟨by have := HKQ.out; omega⟩, ⟨blk_drewN HA.out _⟩, ⟨HL.out.drewN _⟩⟩
        · have HE2 := Aside0.mk (HAT.out.no hk he)
          have e1 : (ys[k].1.1 == xn) = false := beq_eq_false_iff_ne.mpr he
          clear he
          go_wp2_with fail
          go_quiet (fail)
          go_wp2_with fail
          go_roundg k2
          case measure => have := HKQ.out; omega
          case rel => exact ⟨k + 1, _, by go_num, rfl, HE2, ⟨HK2.out⟩, ⟨by have := HKQ.out; omega⟩, ⟨blk_drewN HA.out _⟩, ⟨HL.out.drewN _⟩⟩
      · have hke : k = ys.length := by have := HK.out; omega
        subst hke
        clear hk HK HKQ
        have hw0 := (blk_cell HA.out 0).trans rfl
        have hn1 := (blk_cell HA.out 1).trans rfl
        have ha2 := (blk_cell HA.out 2).trans rfl
        have f0 : (xw == 0) = true := beq_iff_eq.mpr (hxw.symm.trans hcase)
        clear hxw hcase
        have htt := HL.out.tot
        have HTT := Aside0.mk htt
        by_cases hn : xn < 0
        · have d1 : decide (xn < 0) = true := decide_eq_true hn
          have d2 : decide (0 ≤ xn) = false := decide_eq_false (by omega)
          have HN := Aside0.mk hn
          clear hn htt ha2
          go_wp2_with fail
          refine (HL.out.ms.give_neg xn HN.out).mono ?_
          rintro e w7 ⟨rfl, hb7⟩
          try refine ⟨_, rfl, ?_⟩
          have hn2 := keep_cell hb7 hn1
          have HL7 := Aside0.mk (HL.out.below hb7)
          clear hb7 hn1 hw0
          go_wp2_with fail
          exact HK1.out (zs := ys) (mv := lv) rfl rfl (by have := HY.out; omega) HL7.out
        · by_cases hn3 : (c2 : Int) - ((tot (regs ys) : Nat) : Int) < xn
          · have d2 : decide (0 ≤ xn) = true := decide_eq_true (by omega)
            have d3 : decide (xn ≤ (c2 : Int) - ((tot (regs ys) : Nat) : Int)) = false := decide_eq_false (by omega)
            have HN := Aside0.mk hn
            have HN3 := Aside0.mk hn3
            have b1 : (c2 : Int) - ((tot (regs ys) : Nat) : Int) ≤ 3000 := by omega
            have b2 : 0 ≤ (c2 : Int) - ((tot (regs ys) : Nat) : Int) := by omega
            clear hn hn3 htt ha2
            go_wp2_with fail
            refine (HL.out.ms.give_over HL.out.len xn (by have := HN.out; omega) HN3.out).mono ?_
            rintro e w7 ⟨rfl, hb7⟩
            try refine ⟨_, rfl, ?_⟩
            have hn2 := keep_cell hb7 hn1
            have HL7 := Aside0.mk (HL.out.below hb7)
            clear hb7 hn1 hw0
            go_wp2_with fail
            exact HK1.out (zs := ys) (mv := lv) rfl rfl (by have := HY.out; omega) HL7.out
          · obtain ⟨c, rfl⟩ := Int.eq_ofNat_of_zero_le (show 0 ≤ xn by omega)
            have d2 : decide (0 ≤ (c : Int)) = true := decide_eq_true (by omega)
            have d3 : decide ((c : Int) ≤ (c2 : Int) - ((tot (regs ys) : Nat) : Int)) = true := decide_eq_true (by omega)
            have b1 : (c2 : Int) - ((tot (regs ys) : Nat) : Int) ≤ 3000 := by omega
            have b2 : 0 ≤ (c2 : Int) - ((tot (regs ys) : Nat) : Int) := by omega
            have b3 : ((tot (regs ys) : Nat) : Int) + (c : Int) ≤ 3000 := by omega
            obtain ⟨id, hid, hu, hf⟩ := least_free (ids ys)
            rw [ids_length] at hid
            have hid4 : id ≤ 40 := by have := HL.out.few; omega
            have HID := Aside0.mk hid4
            have HU := Aside0.mk hu
            have HF := Aside0.mk hf
            have HCT := Aside0.mk (show tot (regs ys) + c ≤ c2 by omega)
            have hid9 : (id : Int) ≤ 40 := by omega
            clear hn hn3 htt ha2 hid hu hf
            go_wp2_with fail
            refine (HL.out.give c HCT.out id (by have := HID.out; omega) HU.out HF.out).mono ?_
            rintro e w8 ⟨rfl, lv8, hm8, hl8, hb8, hk8⟩
            try refine ⟨_, rfl, ?_⟩
            have HA8 := Aside0.mk (HL.out.keep28 hk8 HA.out)
            have hn2 := (blk_cell HA8.out 1).trans rfl
            have HM8 := Aside0.mk hm8
            have HL8 := Aside0.mk hl8
            have HB8 := Aside0.mk hb8
            clear hm8 hl8 hb8 hk8 hn1 hw0
            go_wp2_with fail
            go_loopg [18, 19] (2 * id + 2) (fun kq v18 v19 w' => ∃ (W : Nat) (ag : Bool), v18 = .int .i64 (W : Int) ∧ v19 = .bool ag ∧ Aside0 (Want ys id W ag) ∧ Aside0 (2 * (id - W) + ag.toNat < kq) ∧ w8 = w')
            case atStart => exact ⟨0, true, rfl, rfl, ⟨Nat.zero_le _, fun h => by cases h⟩, ⟨by simp only [Bool.toNat_true]; omega⟩, rfl⟩
            case round =>
              obtain ⟨W, ag, rfl, rfl, HW, HWQ, rfl⟩ := hrel
              cases gk with
              | zero => exact absurd HWQ.out (Nat.not_lt_zero _)
              | succ k3 =>
                cases ag with
                | false =>
                  have hwe := HW.out.eq HU.out
                  subst hwe
                  clear HW HWQ
                  have t1 := two_ne (W : Int)
                  obtain ⟨w9, hw9⟩ : ∃ w9, w8.alloc (.cells (nums .i32 (List.replicate c 0)).toArray 21) = w9 := ⟨_, rfl⟩
                  have hmk : (Instr.makeSlice 29 (.int .i64 (c : Int)) (.int .i64 (c : Int))).run Try.prog w8 = .ok (.slice (some ⟨w8.heap.size, 0, none⟩) c c) w9 := by rw [← hw9]; exact run_make21 w8 c (by have := HCT.out; omega)
                  have HO8 := Aside0.mk (show w9.ownsRow w.heap.size 31 2 (.slice A ys.length cap) ys.length (cellsL ys) from hw9 ▸ HL8.out.own.alloc _)
                  have HB9 := Aside0.mk (show Below w.heap.size w w9 from hw9 ▸ HB8.out.alloc HB8.out.size _)
                  have HS9 := Aside0.mk (show w.heap.size ≤ w9.heap.size by have := HB8.out.size; rw [← hw9]; simp; omega)
                  have HA9 := Aside0.mk (show w9.heap[gb]? = _ from hw9 ▸ (Below.heap_alloc w8 (.cells (nums .i32 (List.replicate c 0)).toArray 21) gb (blk_lt HA8.out)).trans HA8.out)
                  have hn4 := (blk_cell HA9.out 1).trans rfl
                  have HW9 := Aside0.mk hw9
                  clear hw9
                  have HE9 := Aside0.mk (show (ys.length + 1) * 32 ≤ 140737488355328 by have := HL.out.few; omega)
                  have HGB := Aside0.mk (show some gb ≠ (Value.slice A ys.length cap).ownBlock from own_ne HO8.out HA9.out (by decide))
                  go_wp2_with (first | ((with_reducible refine gate_builtin (b := .append) (xs := #[.tmp 178, .tmp 184]) rfl ?_); at_builtin; refine print_append_cells (w0 := w) w.heap.size rfl (.tmp 178) (.tmp 184) 26 31 (.agg #[.int .i64 0, .slice none 0 0]) 2 32 rfl Try.underlying26 info31 rfl (by decide) (by decide) (.slice A ys.length cap) ys.length (cellsL ys) [.int .i64 (W : Int), .slice (some ⟨w8.heap.size, 0, none⟩) c c] rfl rfl rfl (by simp [Value.oneCell']) HO8.out HB9.out HS9.out HE9.out ?_; intro v1 w10 ho hb hg hat; have HP10 := Aside0.mk (HL.out.given c W (by have := HID.out; omega) HF.out (by have := HY.out; have := HC2.out; omega) HM8.out HL8.out HB8.out ho hb (HW9.out ▸ hg)); obtain ⟨A1, cap1, hv1⟩ := own_slice ho; subst hv1; have hn3 := (blk_cell (blk_grown HA9.out hg HGB.out) 1).trans rfl; clear ho hb hg hat))
                  have HTN := Aside0.mk (tot_snoc ys (W : Int) c w8.heap.size)
                  have HNN := Aside0.mk (show (ys ++ [(((W : Int), List.replicate c 0), w8.heap.size)]).length = ys.length + 1 by simp)
                  clear hmk hn4 hn2 hn3 HO8 HB9 HS9 HA9 HW9 HM8 HL8 HB8 HA8
                  generalize ys ++ [(((W : Int), List.replicate c 0), w8.heap.size)] = ys2 at HP10 HTN HNN
                  refine (alike.calls' HP10.out HNN.out HTN.out (List.length_replicate)).mono ?_
                  rintro e w11 ⟨rfl, hl11⟩
                  have HL11 := Aside0.mk hl11
                  clear hl11
                  go_wp2_with fail
                  exact HK1.out (zs := ys2) (mv := lv8) HTN.out HNN.out (by have := HY.out; omega) HL11.out
                | true =>
                  clear hn2
                  go_wp2_with fail
                  go_loopg [18, 19, 20] (ys.length + 1) (fun kq v18 v19 v20 w' => ∃ (k W' : Nat) (ag : Bool), v20 = .int .i64 (k : Int) ∧ v18 = .int .i64 (W' : Int) ∧ v19 = .bool ag ∧ Aside0 (k ≤ ys.length) ∧ Aside0 (k + kq = ys.length + 1) ∧ Aside0 (Inn ys id W k W' ag) ∧ w8 = w')
                  case atStart => exact ⟨0, W, false, rfl, rfl, rfl, ⟨Nat.zero_le _⟩, ⟨by omega⟩, ⟨Inn.start HW.out.1⟩, rfl⟩
                  case round =>
                    obtain ⟨k, W', ag, rfl, rfl, rfl, HK1, HK2, HIN, rfl⟩ := hrel
                    cases gk with
                    | zero => exact absurd HK1.out (by have := HK2.out; omega)
                    | succ k4 =>
                      by_cases hk : k < ys.length
                      · obtain ⟨g, cap', hv, _⟩ := HL8.out.form (by omega)
                        injection hv with hv _ hcap
                        subst hv
                        subst hcap
                        have hy0 := HL8.out.id k hk
                        have HKK := Aside0.mk hk
                        have y1 : (0 ≤ (k : Int)) = True := eq_true (by omega)
                        have y2 : ((k : Int) < (ys.length : Int)) = True := eq_true (by omega)
                        have hk9 : (k : Int) ≤ 40 := by have := HL.out.few; omega
                        have hW9 : (W' : Int) ≤ 40 := by have := HIN.out.hi; omega
                        by_cases he : ys[k].1.1 = (W' : Int)
                        · have e1 : (ys[k].1.1 == (W' : Int)) = true := beq_iff_eq.mpr he
                          have HM := Aside0.mk (HIN.out.met hk he HF.out)
                          clear he
                          go_wp2_with fail
                          go_roundg k4
                          case measure => have := HK2.out; omega
                          case rel => exact ⟨k + 1, W' + 1, true, by go_num, by go_num, rfl, ⟨HKK.out⟩, ⟨by have := HK2.out; omega⟩, HM, rfl⟩
                        · have e1 : (ys[k].1.1 == (W' : Int)) = false := beq_eq_false_iff_ne.mpr he
                          have HM := Aside0.mk (HIN.out.unmet hk he)
                          clear he
                          go_wp2_with fail
                          go_roundg k4
                          case measure => have := HK2.out; omega
                          case rel => exact ⟨k + 1, W', ag, by go_num, rfl, rfl, ⟨HKK.out⟩, ⟨by have := HK2.out; omega⟩, HM, rfl⟩
                      · have hke : k = ys.length := by have := HK1.out; omega
                        subst hke
                        have HWN := Aside0.mk HIN.out.done
                        have HLS := Aside0.mk (HIN.out.less (n := k3) (by have := HWQ.out; simp only [Bool.toNat_true] at this; exact this))
                        clear hk HK1 HK2
                        go_wp2_with fail
                        go_roundg k3
                        case measure => omega
                        case rel => exact ⟨W', ag, rfl, rfl, HWN, HLS, rfl⟩
end Go.Proofs.Ytgpekomaoeockaa.MemC
